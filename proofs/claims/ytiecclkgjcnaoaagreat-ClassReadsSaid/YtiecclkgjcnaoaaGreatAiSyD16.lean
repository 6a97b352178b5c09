/-
  A CLASS IS DECODED, by the rules: Decode.
-/
import Derived.Test.YtiecclkgjcnaoaaGreatAiSyD15
namespace Go.Proofs.YtiecclkgjcnaoaaGreat.Ae
open Go.AE
set_option linter.unusedVariables false
set_option maxRecDepth 100000
def okE (e : Int) : Prop := e = 0 ∨ (30 ≤ e ∧ e ≤ 54)
def hd (ch : Nat) (s : Int × List Nat) : Int × List Nat := (badE (decide (((pB s.1 s.2).1 : Int) ≠ (ch : Int))) 31 (pB s.1 s.2).2.1, (pB s.1 s.2).2.2)
def hdr (bs : List Nat) : Int × List Nat := hd 1 (hd 77 (hd 79 (hd 79 (hd 76 (0, bs)))))
def dec5 (n su : Str × Int × List Nat) (po : List CoT × Int × List Nat) (fi : List FiT × Int × List Nat) (me : List MeT × Int × List Nat) : ClT × Int :=
  (⟨n.1, su.1, po.1, fi.1, me.1⟩, badE (decide ((0 : Int) < (me.2.2.length : Int))) 31 me.2.1)
def dec (bs : List Nat) : ClT × Int :=
  let n := pT (hdr bs).1 (hdr bs).2
  let su := pT n.2.1 n.2.2
  let po := pM pCo 128 su.2.1 su.2.2
  let fi := pM pF 8 po.2.1 po.2.2
  dec5 n su po fi (pM pMe 12 fi.2.1 fi.2.2)
def zCl : ClT := ⟨[], [], [], [], []⟩
structure DI (A A1 : AW) (fc fr : Nat) (v v' : AV) (e : Int) (bs : List Nat) (f2 f6 N : Nat) (c : ClT) (pv fv mv : AV) : Prop where
  st : PStep A A1 fc fr v v' e bs
  h2 : A1.heap.get f2 = some (.cells 0 false 5 (clc [] [] .nils .nils .nils))
  h6 : A1.heap.get f6 = some (.cells 0 false 5 (clc c.name c.super pv fv mv))
  R : ClR A1 N c pv fv mv
  op : ∀ g, pv.isFam g → N ≤ g
  of : ∀ g, fv.isFam g → N ≤ g
  om : ∀ g, mv.isFam g → N ≤ g
  hn : N ≤ A1.nxt
theorem ClR.keep2 {A A1 : AW} {N : Nat} {c : ClT} {pv fv mv : AV} {T : Nat → Prop} (h : ClR A N c pv fv mv) (op : ∀ g, pv.isFam g → N ≤ g) (of : ∀ g, fv.isFam g → N ≤ g) (om : ∀ g, mv.isFam g → N ≤ g) (o : Only A A1 T) (hT : ∀ g, T g → g < N) : ClR A1 N c pv fv mv := by
  obtain ⟨cs, h1, h2⟩ := h.m
  have key : ∀ {v : AV}, (∀ g, v.isFam g → N ≤ g) → Disj v.isFam T := fun hv g hg ht => by
    have := hv g hg
    have := hT g ht
    omega
  exact ⟨h.p.keep o (key op), h.f.keep o (key of), cs, h1.keep o (key om), h2.keep o fun g hg => .inl (hT g hg)⟩
theorem DI.read {A A1 A2 : AW} {fc fr : Nat} {v v1 v2 : AV} {e e1 : Int} {bs b1 : List Nat} {f2 f6 N : Nat} {c : ClT} {pv fv mv : AV} (n2 : f2 ≠ fc ∧ f2 ≠ fr) (n6 : f6 ≠ fc ∧ f6 ≠ fr) (hc : fc < N ∧ fr < N)
    (h : DI A A1 fc fr v v1 e bs f2 f6 N c pv fv mv) (k : PStep A1 A2 fc fr v1 v2 e1 b1) : DI A A2 fc fr v v2 e1 b1 f2 f6 N c pv fv mv :=
  ⟨h.st.trans k, k.only.keep _ _ h.h2 fun hb => hb.elim n2.1 n2.2, k.only.keep _ _ h.h6 fun hb => hb.elim n6.1 n6.2, h.R.keep2 h.op h.of h.om k.only fun g hg => by rcases hg with hg | hg <;> cases hg <;> omega, h.op, h.of, h.om, Nat.le_trans h.hn k.only.nxt⟩
theorem DI.put {A A1 : AW} {fc fr : Nat} {v v1 : AV} {e e0 : Int} {bs b0 : List Nat} {f2 f6 N : Nat} {c c' : ClT} {pv fv mv pv' fv' mv' : AV} (hw : Wf A) (h0 : PS A fc fr v e0 b0) (l6 : A.nxt ≤ f6) (n26 : f2 ≠ f6) (s6 : f6 < N)
    (h : DI A A1 fc fr v v1 e bs f2 f6 N c pv fv mv) (R : ClR A1 N c' pv' fv' mv') (op : ∀ g, pv'.isFam g → N ≤ g) (of : ∀ g, fv'.isFam g → N ≤ g) (om : ∀ g, mv'.isFam g → N ≤ g) :
    DI A (A1.put f6 (.cells 0 false 5 (clc c'.name c'.super pv' fv' mv'))) fc fr v v1 e bs f2 f6 N c' pv' fv' mv' := by
  have o6 := Only.put (x := .cells 0 false 5 (clc c'.name c'.super pv' fv' mv')) h.st.only.wf (h.st.only.wf _ _ h.h6)
  exact ⟨h.st.fresh hw h0 o6 fun g hg => by cases hg; exact l6, o6.keep _ _ h.h2 fun e => n26 e, by rw [AW.put_get, if_pos rfl], R.keep2 op of om o6 fun g hg => by cases hg; exact s6, op, of, om, Nat.le_trans h.hn o6.nxt⟩
theorem pL_len {α : Type} {p : Int → List Nat → α × Int × List Nat} : ∀ (n : Nat) (e : Int) (bs : List Nat), (pL p n e bs).1.length ≤ n
  | 0, e, bs => Nat.le_refl _
  | n + 1, e, bs => by
    unfold pL
    split
    · exact Nat.zero_le _
    · show (_ :: (pL p n _ _).1).length ≤ n + 1
      rw [List.length_cons]
      have := pL_len (p := p) n (p e bs).2.1 (p e bs).2.2
      omega
theorem pM_len {α : Type} {p : Int → List Nat → α × Int × List Nat} {m e : Int} {bs : List Nat} (hm : 0 ≤ m) : ((pM p m e bs).1.length : Int) ≤ m := by
  have h1 := pC_most (e := e) (bs := bs) hm
  have h2 := pL_len (p := p) (pC m e bs).1 (pC m e bs).2.1 (pC m e bs).2.2
  unfold pM
  omega
theorem ClR.mono {A : AW} {n0 n1 : Nat} {c : ClT} {pv fv mv : AV} (h : ClR A n0 c pv fv mv) (hn : n1 ≤ n0) : ClR A n1 c pv fv mv := by
  obtain ⟨cs, h1, h2⟩ := h.m
  exact ⟨h.p, h.f, cs, h1, h2.mono hn⟩
theorem stillE {K : FuncId} {C : FnE} {l : Kn} {A : AW} {d : Option Tmp} {t : Tmp} {pos : String} {ty : TypeId} {after : Array Edge} {gd : Option (Nat × Bool)} {f s o es : Nat} {ro : Bool} {cs : List AV} {z : Int} (hl : l.find t = some (.ptr f s o)) (hf : A.heap.get f = some (.cells s ro es cs)) (hn : nth cs o = some (.int .i64 z)) :
    (∀ F, Kf C l F → execA (ES K) F ⟨d, .load 29 (.tmp t), ty, pos, after, gd⟩ A = .val (.int .i64 z) A) ∧ valEq (.int .i64 z) (.int .i64 z) = true := by
  refine ⟨fun F hF => ?_, stillInt⟩
  show liftR (loadA (ES K) 29 (ev F (.tmp t)) A) = _
  rw [hF.ev (x := .tmp t) (v := .ptr f s o) hl, loadA_eq (dt := d29) rfl rfl hf hn]
  rfl
set_option maxHeartbeats 4000000 in
theorem cdec_spec {K : FuncId} {A : AW} {v0 : AV} {bs : List Nat} (hw : Wf A) (hr : Row A 1 v0 bs.length (bys bs)) (hl : bs.length ≤ 3000) (hlt : ∀ b ∈ bs, b < 256) (hE : okE (dec bs).2) :
    CallP (ES K) 5 [v0] A fun r A1 => Only A A1 none' ∧ ∃ c pv fv mv e, r = .tuple [.agg (clc c.name c.super pv fv mv), .int .i64 e] ∧ ClR A1 A.nxt c pv fv mv ∧ (∀ g, pv.isFam g ∨ fv.isFam g ∨ mv.isFam g → A.nxt ≤ g) ∧
      ((e = 0 ∧ (dec bs).2 = 0 ∧ clsOk (dec bs).1 ∧ c = (dec bs).1) ∨ (30 ≤ e ∧ e ≤ 54 ∧ c = zCl ∧ (pv = .nils ∧ fv = .nils ∧ mv = .nils) ∧ ¬ ((dec bs).2 = 0 ∧ clsOk (dec bs).1))) := by
  refine call_of rfl rfl rfl ?_
  repeat (first | refine qO ?_ | refine qA ?_)
  refine wo_alloc rfl rfl rfl ?_
  refine wo_A (fun A1 => Only A A1 none' ∧ A1.heap.get A.nxt = some (.cells 0 false 5 (clc [] [] .nils .nils .nils)) ∧ A.nxt < A1.nxt) ⟨Only.add hw _, by rw [AW.add_get, if_pos rfl]; rfl, Nat.lt_succ_self _⟩ ?_
  rintro A1 ⟨o1, h2, s2⟩
  generalize hf2 : A.nxt = f2 at h2 s2
  have l2 : A.nxt ≤ f2 := by omega
  have hr1 := hr.keep o1 fun _ _ h => h
  repeat (first | refine qO ?_ | refine qA ?_ | refine qG ?_ | refine qJ rfl rfl ?_ | refine qE rfl rfl ?_)
  refine xJ rfl rfl rfl hr1.lenV ?_
  repeat (first | refine qG ?_ | refine wo_gtr rfl rfl rfl ?_)
  refine qV rfl (fun cx => ?_) fun _ => ?_
  · have cx : (20000 : Int) < (bs.length : Int) := cx
    omega
  repeat (first | refine qO ?_ | refine qS ?_ | refine qA ?_ | refine qJ rfl rfl ?_)
  refine qU rfl rfl orc_cons rfl (open_spec o1.wf hr1 (by omega) hlt) ?_
  rintro r A2 ⟨fr, v, rfl, rd, o2, g2⟩
  have lfr : A1.nxt ≤ fr := (g2 fr (.inl rfl)).resolve_left fun h => h
  have sfr := o2.wf _ _ rd.cell
  have o12 := o1.same o2
  have h2 := o2.keep _ _ h2 fun h => h
  repeat refine wo_build rfl rfl rfl ?_
  refine wo_box rfl rfl rfl rfl ?_
  refine wo_A (fun A3 => Only A2 A3 none' ∧ A3.heap.get A2.nxt = some (.cells 0 false 2 [.ptr fr 0 0, .int .i64 0]) ∧ A2.nxt < A3.nxt) ⟨Only.add o12.wf _, by rw [AW.add_get, if_pos rfl]; rfl, Nat.lt_succ_self _⟩ ?_
  rintro A3 ⟨o3, hfc, sfc⟩
  have nfc : A2.nxt ≠ fr := by omega
  have nv : ¬ v.isFam A2.nxt := fun h => by
    have := rd.full.row.under o12.wf _ h
    omega
  have lfc := o12.nxt
  have lfc2 := o2.nxt
  generalize A2.nxt = fc at hfc sfc nfc nv lfc lfc2 sfr
  have h2 := o3.keep _ _ h2 fun h => h
  have o13 := o12.same o3
  have ps : PS A3 fc fr v 0 bs := ⟨hfc, rd.keep o3 fun _ _ h => h, nfc, nv⟩
  have w3 := o13.wf
  obtain ⟨s0, hs0⟩ : ∃ s0 : Int × List Nat, s0 = ((0 : Int), bs) := ⟨_, rfl⟩
  have st : PStep A3 A3 fc fr v v s0.1 s0.2 := by rw [hs0]; exact PStep.refl w3 ps
  have n2 : f2 ≠ fc ∧ f2 ≠ fr := ⟨by omega, by omega⟩
  repeat (first | refine qO ?_ | refine qY ?_ | refine qA ?_ | refine qG ?_ | refine qJ rfl rfl ?_ | refine qE rfl rfl ?_)
  refine wg_loop ?_
  refine wg_le (.put 2 (.ptr f2 0 0) (.put 4 (.ptr fc 0 0) (.put 15 (.int .i64 (0 : Int)) .nil))) ?_ ⟨rfl, rfl, rfl, trivial⟩
  repeat (first | refine qO ?_ | refine qS ?_ | refine qY ?_ | refine qA ?_ | refine qG ?_ | refine qJ rfl rfl ?_ | refine qE rfl rfl ?_ | refine xM rfl rfl rfl ?_ | refine xH rfl ?_)
  refine wg_draw rfl ?_
  repeat (first
    | (refine xC rfl rfl rfl rfl rfl ?_
       repeat (first | refine qG ?_ | refine qJ rfl rfl ?_)
       refine ⟨rfl, ?_⟩))
  refine xC rfl rfl rfl rfl rfl ?_
  refine wo_indexStr (b := 76) 0 rfl rfl rfl rfl rfl rfl rfl ?_
  repeat refine qG ?_
  refine ⟨rfl, ?_⟩
  refine wd_act rfl rfl rfl ?_
  refine qU rfl rfl orc_cons rfl (cbyte_spec st.only.wf st.ps) ?_
  rintro r B1 ⟨rfl, y0, st'⟩
  have st := st.trans st'
  repeat refine qG ?_
  refine ⟨trivial, ?_⟩
  repeat (first
    | (refine xC rfl rfl rfl rfl rfl ?_
       repeat (first | refine qG ?_ | refine xL rfl rfl rfl ?_)
       refine ⟨rfl, ?_⟩))
  refine wd_act rfl rfl rfl ?_
  refine qU rfl rfl orc_cons rfl (cbad_spec (is := decide (((pB s0.1 s0.2).1 : Int) ≠ (76 : Nat))) (x := 31) st.only.wf st.ps) ?_
  rintro r B2 ⟨rfl, st'⟩
  have st : PStep A3 B2 fc fr v y0 (hd 76 s0).1 (hd 76 s0).2 := st.trans st'
  generalize hs1 : hd 76 s0 = s1 at st
  repeat refine qG ?_
  refine ⟨trivial, wd_nil ?_⟩
  repeat (first | refine xB ?_ | refine qA ?_)
  refine wo_add rfl rfl rfl (by decide) (by decide) ?_
  repeat (first | refine qG ?_ | refine qJ rfl rfl ?_)
  refine xN ?_
  refine wg_le (.put 2 (.ptr f2 0 0) (.put 4 (.ptr fc 0 0) (.put 15 (.int .i64 (1 : Int)) .nil))) ?_ ⟨rfl, rfl, rfl, trivial⟩
  repeat (first | refine qO ?_ | refine qS ?_ | refine qY ?_ | refine qA ?_ | refine qG ?_ | refine qJ rfl rfl ?_ | refine qE rfl rfl ?_ | refine xM rfl rfl rfl ?_ | refine xH rfl ?_)
  refine wg_draw rfl ?_
  repeat (first
    | (refine xC rfl rfl rfl rfl rfl ?_
       repeat (first | refine qG ?_ | refine qJ rfl rfl ?_)
       refine ⟨rfl, ?_⟩))
  refine xC rfl rfl rfl rfl rfl ?_
  refine wo_indexStr (b := 79) 1 rfl rfl rfl rfl rfl rfl rfl ?_
  repeat refine qG ?_
  refine ⟨rfl, ?_⟩
  refine wd_act rfl rfl rfl ?_
  refine qU rfl rfl orc_cons rfl (cbyte_spec st.only.wf st.ps) ?_
  rintro r B3 ⟨rfl, y1, st'⟩
  have st := st.trans st'
  repeat refine qG ?_
  refine ⟨trivial, ?_⟩
  repeat (first
    | (refine xC rfl rfl rfl rfl rfl ?_
       repeat (first | refine qG ?_ | refine xL rfl rfl rfl ?_)
       refine ⟨rfl, ?_⟩))
  refine wd_act rfl rfl rfl ?_
  refine qU rfl rfl orc_cons rfl (cbad_spec (is := decide (((pB s1.1 s1.2).1 : Int) ≠ (79 : Nat))) (x := 31) st.only.wf st.ps) ?_
  rintro r B4 ⟨rfl, st'⟩
  have st : PStep A3 B4 fc fr v y1 (hd 79 s1).1 (hd 79 s1).2 := st.trans st'
  generalize hs2 : hd 79 s1 = s2 at st
  repeat refine qG ?_
  refine ⟨trivial, wd_nil ?_⟩
  repeat (first | refine xB ?_ | refine qA ?_)
  refine wo_add rfl rfl rfl (by decide) (by decide) ?_
  repeat (first | refine qG ?_ | refine qJ rfl rfl ?_)
  refine xN ?_
  refine wg_le (.put 2 (.ptr f2 0 0) (.put 4 (.ptr fc 0 0) (.put 15 (.int .i64 (2 : Int)) .nil))) ?_ ⟨rfl, rfl, rfl, trivial⟩
  repeat (first | refine qO ?_ | refine qS ?_ | refine qY ?_ | refine qA ?_ | refine qG ?_ | refine qJ rfl rfl ?_ | refine qE rfl rfl ?_ | refine xM rfl rfl rfl ?_ | refine xH rfl ?_)
  refine wg_draw rfl ?_
  repeat (first
    | (refine xC rfl rfl rfl rfl rfl ?_
       repeat (first | refine qG ?_ | refine qJ rfl rfl ?_)
       refine ⟨rfl, ?_⟩))
  refine xC rfl rfl rfl rfl rfl ?_
  refine wo_indexStr (b := 79) 2 rfl rfl rfl rfl rfl rfl rfl ?_
  repeat refine qG ?_
  refine ⟨rfl, ?_⟩
  refine wd_act rfl rfl rfl ?_
  refine qU rfl rfl orc_cons rfl (cbyte_spec st.only.wf st.ps) ?_
  rintro r B5 ⟨rfl, y2, st'⟩
  have st := st.trans st'
  repeat refine qG ?_
  refine ⟨trivial, ?_⟩
  repeat (first
    | (refine xC rfl rfl rfl rfl rfl ?_
       repeat (first | refine qG ?_ | refine xL rfl rfl rfl ?_)
       refine ⟨rfl, ?_⟩))
  refine wd_act rfl rfl rfl ?_
  refine qU rfl rfl orc_cons rfl (cbad_spec (is := decide (((pB s2.1 s2.2).1 : Int) ≠ (79 : Nat))) (x := 31) st.only.wf st.ps) ?_
  rintro r B6 ⟨rfl, st'⟩
  have st : PStep A3 B6 fc fr v y2 (hd 79 s2).1 (hd 79 s2).2 := st.trans st'
  generalize hs3 : hd 79 s2 = s3 at st
  repeat refine qG ?_
  refine ⟨trivial, wd_nil ?_⟩
  repeat (first | refine xB ?_ | refine qA ?_)
  refine wo_add rfl rfl rfl (by decide) (by decide) ?_
  repeat (first | refine qG ?_ | refine qJ rfl rfl ?_)
  refine xN ?_
  refine wg_le (.put 2 (.ptr f2 0 0) (.put 4 (.ptr fc 0 0) (.put 15 (.int .i64 (3 : Int)) .nil))) ?_ ⟨rfl, rfl, rfl, trivial⟩
  repeat (first | refine qO ?_ | refine qS ?_ | refine qY ?_ | refine qA ?_ | refine qG ?_ | refine qJ rfl rfl ?_ | refine qE rfl rfl ?_ | refine xM rfl rfl rfl ?_ | refine xH rfl ?_)
  refine wg_draw rfl ?_
  repeat (first
    | (refine xC rfl rfl rfl rfl rfl ?_
       repeat (first | refine qG ?_ | refine qJ rfl rfl ?_)
       refine ⟨rfl, ?_⟩))
  refine xC rfl rfl rfl rfl rfl ?_
  refine wo_indexStr (b := 77) 3 rfl rfl rfl rfl rfl rfl rfl ?_
  repeat refine qG ?_
  refine ⟨rfl, ?_⟩
  refine wd_act rfl rfl rfl ?_
  refine qU rfl rfl orc_cons rfl (cbyte_spec st.only.wf st.ps) ?_
  rintro r B7 ⟨rfl, y3, st'⟩
  have st := st.trans st'
  repeat refine qG ?_
  refine ⟨trivial, ?_⟩
  repeat (first
    | (refine xC rfl rfl rfl rfl rfl ?_
       repeat (first | refine qG ?_ | refine xL rfl rfl rfl ?_)
       refine ⟨rfl, ?_⟩))
  refine wd_act rfl rfl rfl ?_
  refine qU rfl rfl orc_cons rfl (cbad_spec (is := decide (((pB s3.1 s3.2).1 : Int) ≠ (77 : Nat))) (x := 31) st.only.wf st.ps) ?_
  rintro r B8 ⟨rfl, st'⟩
  have st : PStep A3 B8 fc fr v y3 (hd 77 s3).1 (hd 77 s3).2 := st.trans st'
  generalize hs4 : hd 77 s3 = s4 at st
  repeat refine qG ?_
  refine ⟨trivial, wd_nil ?_⟩
  repeat (first | refine xB ?_ | refine qA ?_)
  refine wo_add rfl rfl rfl (by decide) (by decide) ?_
  repeat (first | refine qG ?_ | refine qJ rfl rfl ?_)
  refine xN ?_
  refine wg_le (.put 2 (.ptr f2 0 0) (.put 4 (.ptr fc 0 0) (.put 15 (.int .i64 (4 : Int)) .nil))) ?_ ⟨rfl, rfl, rfl, trivial⟩
  repeat (first | refine qO ?_ | refine qA ?_ | refine qG ?_ | refine xM rfl rfl rfl ?_ | refine wg_false rfl ?_)
  refine wg_exit rfl ?_
  repeat (first | refine qO ?_ | refine qA ?_ | refine qJ rfl rfl ?_)
  refine qU rfl rfl orc_cons rfl (cbyte_spec st.only.wf st.ps) ?_
  rintro r B9 ⟨rfl, w9, st'⟩
  have st := st.trans st'
  repeat refine xL rfl rfl rfl ?_
  refine qU rfl rfl orc_cons rfl (cbad_spec (is := decide (((pB s4.1 s4.2).1 : Int) ≠ (1 : Nat))) (x := 31) st.only.wf st.ps) ?_
  rintro r B10 ⟨rfl, st'⟩
  have st : PStep A3 B10 fc fr v w9 (hd 1 s4).1 (hd 1 s4).2 := st.trans st'
  have hH : hd 1 s4 = hdr bs := by
    unfold hdr
    rw [← hs0, hs1, hs2, hs3, hs4]
  rw [hH] at st
  have h2 := st.only.keep _ _ h2 fun hb => hb.elim n2.1 n2.2
  have hdec : dec bs = dec5 (pT (hdr bs).1 (hdr bs).2) (pT (pT (hdr bs).1 (hdr bs).2).2.1 (pT (hdr bs).1 (hdr bs).2).2.2) (pM pCo 128 (pT (pT (hdr bs).1 (hdr bs).2).2.1 (pT (hdr bs).1 (hdr bs).2).2.2).2.1 (pT (pT (hdr bs).1 (hdr bs).2).2.1 (pT (hdr bs).1 (hdr bs).2).2.2).2.2) _ _ := rfl
  rw [hdec] at hE ⊢
  clear hdec
  clear hs0 hs1 hs2 hs3 hs4 hH
  generalize hdr bs = s5 at st hE
  obtain ⟨e5, b5⟩ := s5
  have st : PStep A3 B10 fc fr v w9 e5 b5 := st
  simp only at hE ⊢
  repeat (first | refine qO ?_ | refine qA ?_ | refine qG ?_ | refine qJ rfl rfl ?_)
  refine qU rfl rfl orc_cons rfl (ctext_spec st.only.wf st.ps) ?_
  rintro r C1 ⟨rfl, u1, st'⟩
  have st := st.trans st'
  have h2 := st'.only.keep _ _ h2 fun hb => hb.elim n2.1 n2.2
  generalize pT e5 b5 = n at st hE
  obtain ⟨n, e6, b6⟩ := n
  have st : PStep A3 C1 fc fr v u1 e6 b6 := st
  simp only at hE ⊢
  repeat refine qJ rfl rfl ?_
  refine qU rfl rfl orc_cons rfl (ctext_spec st.only.wf st.ps) ?_
  rintro r C2 ⟨rfl, u2, st'⟩
  have st := st.trans st'
  have h2 := st'.only.keep _ _ h2 fun hb => hb.elim n2.1 n2.2
  generalize pT e6 b6 = su at st hE
  obtain ⟨su, e7, b7⟩ := su
  have st : PStep A3 C2 fc fr v u2 e7 b7 := st
  simp only at hE ⊢
  repeat refine wo_build rfl rfl rfl ?_
  refine wo_alloc rfl rfl rfl ?_
  refine qZ rfl rfl rfl rfl rfl rfl (by rw [AW.add_get, if_pos rfl]) rfl ?_
  refine wo_A (fun A4 => Only C2 A4 none' ∧ A4.heap.get C2.nxt = some (.cells 0 false 5 (clc n su .nils .nils .nils)) ∧ C2.nxt < A4.nxt) ⟨made st.only.wf, by rw [AW.put_get, if_pos rfl]; rfl, Nat.lt_succ_self _⟩ ?_
  rintro A4 ⟨o4, h6, s6⟩
  have h2' := st.only.wf _ _ h2
  have n26 : f2 ≠ C2.nxt := by omega
  have l6 := st.only.nxt
  generalize C2.nxt = f6 at h6 s6 n26 l6
  have h2 := o4.keep _ _ h2 fun h => h
  have st := st.quiet o4
  have l34 : A3.nxt ≤ A4.nxt := st.only.nxt
  have n6 : f6 ≠ fc ∧ f6 ≠ fr := ⟨by omega, by omega⟩
  have nilF : ∀ {A : AW} {es : Nat}, Full A es .nils 0 [] := .inl ⟨.inl rfl, rfl, rfl⟩
  have I : DI A3 A4 fc fr v u2 e7 b7 f2 f6 A4.nxt ⟨n, su, [], [], []⟩ .nils .nils .nils := ⟨st, h2, h6, ⟨nilF, nilF, [], nilF, rfl⟩, fun g h => h.elim, fun g h => h.elim, fun g h => h.elim, Nat.le_refl _⟩
  have hcN : fc < A4.nxt ∧ fr < A4.nxt := ⟨by omega, by omega⟩
  have hAN : A.nxt ≤ A4.nxt := by omega
  generalize A4.nxt = N at I s6 hcN l34 hAN
  repeat (first | refine qO ?_ | refine qA ?_ | refine qG ?_ | refine qJ rfl rfl ?_)
  refine wo_makeFunc rfl rfl rfl ?_
  refine qU rfl rfl orc_cons rfl (manyC_spec (m := 128) (p := pCo) I.st.only.wf I.st.ps (by decide) (by decide) orc_cons rfl fun A1 v1 e1 b1 st => cconst_spec st.only.wf st.ps) ?_
  rintro pv A5 ⟨⟨hp, op⟩, v5, st5⟩
  have op : ∀ g, pv.isFam g → N ≤ g := fun g hg => Nat.le_trans I.hn (op g hg)
  have I := I.read n2 n6 hcN st5
  have hpo := pM_len (p := pCo) (m := 128) (e := e7) (bs := b7) (by decide)
  generalize pM pCo 128 e7 b7 = po at I hp hE hpo
  obtain ⟨po, e8, b8⟩ := po
  have hpo : (po.length : Int) ≤ 128 := hpo
  have I : DI A3 A5 fc fr v v5 e8 b8 f2 f6 N ⟨n, su, [], [], []⟩ .nils .nils .nils := I
  have hp : Buf A5 5 pv po.length (po.flatMap coc) := hp
  simp only at hE ⊢
  repeat refine qI rfl rfl rfl ?_
  refine qZ rfl rfl hp.cells rfl rfl rfl I.h6 rfl ?_
  refine wo_A (fun A6 => DI A3 A6 fc fr v v5 e8 b8 f2 f6 N ⟨n, su, po, [], []⟩ pv .nils .nils) (I.put (c' := ⟨n, su, po, [], []⟩) (pv' := pv) (fv' := .nils) (mv' := .nils) w3 ps l6 n26 s6 ⟨hp.full, I.R.f, I.R.m⟩ op I.of I.om) ?_
  intro A6 I
  repeat (first | refine qO ?_ | refine qA ?_ | refine qG ?_ | refine qJ rfl rfl ?_)
  refine wo_makeFunc rfl rfl rfl ?_
  refine qU rfl rfl orc_cons rfl (manyF_spec (m := 8) (p := pF) I.st.only.wf I.st.ps (by decide) (by decide) orc_cons rfl fun A1 v1 e1 b1 st => cfield_spec st.only.wf st.ps) ?_
  rintro fv A7 ⟨⟨hf, of⟩, v7, st7⟩
  have of : ∀ g, fv.isFam g → N ≤ g := fun g hg => Nat.le_trans I.hn (of g hg)
  have I := I.read n2 n6 hcN st7
  have hfi := pM_len (p := pF) (m := 8) (e := e8) (bs := b8) (by decide)
  generalize pM pF 8 e8 b8 = fi at I hf hE hfi
  obtain ⟨fi, e9, b9⟩ := fi
  have hfi : (fi.length : Int) ≤ 8 := hfi
  have I : DI A3 A7 fc fr v v7 e9 b9 f2 f6 N ⟨n, su, po, [], []⟩ pv .nils .nils := I
  have hf : Buf A7 4 fv fi.length (fi.flatMap fic) := hf
  simp only at hE ⊢
  repeat refine qI rfl rfl rfl ?_
  refine qZ rfl rfl hf.cells rfl rfl rfl I.h6 rfl ?_
  refine wo_A (fun A8 => DI A3 A8 fc fr v v7 e9 b9 f2 f6 N ⟨n, su, po, fi, []⟩ pv fv .nils) (I.put (c' := ⟨n, su, po, fi, []⟩) (pv' := pv) (fv' := fv) (mv' := .nils) w3 ps l6 n26 s6 ⟨I.R.p, hf.full, I.R.m⟩ I.op of I.om) ?_
  intro A8 I
  repeat (first | refine qO ?_ | refine qA ?_ | refine qG ?_ | refine qJ rfl rfl ?_)
  refine wo_makeFunc rfl rfl rfl ?_
  refine qU rfl rfl orc_cons rfl (manyM_spec (m := 12) (p := pMe) I.st.only.wf I.st.ps (by decide) (by decide) orc_cons rfl fun A1 v1 e1 b1 st => cmethod_spec st.only.wf st.ps) ?_
  rintro mv A9 ⟨⟨cs, hml, hm, om⟩, v9, st9⟩
  have hml : MeL A9 N _ cs := MeL.mono I.hn hml
  have om : ∀ g, mv.isFam g → N ≤ g := fun g hg => Nat.le_trans I.hn (om g hg)
  have I := I.read n2 n6 hcN st9
  generalize pM pMe 12 e9 b9 = me at I hm hml hE
  obtain ⟨me, e10, b10⟩ := me
  have I : DI A3 A9 fc fr v v9 e10 b10 f2 f6 N ⟨n, su, po, fi, []⟩ pv fv .nils := I
  have hm : Buf A9 8 mv me.length cs := hm
  have hml : MeL A9 N me cs := hml
  unfold dec5 at hE ⊢
  simp only at hE ⊢
  repeat refine qI rfl rfl rfl ?_
  refine qZ rfl rfl hm.cells rfl rfl rfl I.h6 rfl ?_
  refine wo_A (fun A10 => DI A3 A10 fc fr v v9 e10 b10 f2 f6 N ⟨n, su, po, fi, me⟩ pv fv mv) (I.put (c' := ⟨n, su, po, fi, me⟩) (pv' := pv) (fv' := fv) (mv' := mv) w3 ps l6 n26 s6 ⟨I.R.p, I.R.f, cs, hm.full, hml⟩ I.op I.of om) ?_
  intro A10 I
  have hc := I.st.ps.cell
  repeat (first | refine qO ?_ | refine qA ?_ | refine qG ?_ | refine qJ rfl rfl ?_ | refine qI rfl rfl rfl ?_ | refine qW rfl rfl ?_ | refine qP rfl rfl rfl rfl (by assumption) rfl ?_)
  refine qU rfl rfl orc_cons rfl (left_spec I.st.ps.rd) ?_
  rintro r A11 ⟨rfl, e11⟩
  obtain rfl : A10 = A11 := e11.symm
  repeat refine wo_gtr rfl rfl rfl ?_
  refine qU rfl rfl orc_cons rfl (cbad_spec (is := decide ((0 : Int) < (b10.length : Int))) (x := 31) I.st.only.wf I.st.ps) ?_
  rintro r A11 ⟨rfl, st11⟩
  have I := I.read n2 n6 hcN st11
  generalize hEE : badE (decide ((0 : Int) < (b10.length : Int))) 31 e10 = ee at I hE
  have hc := I.st.ps.cell
  have hl1 : po.length < 1000000 := by omega
  have hl2 : fi.length < 1000000 := by omega
  have sN : f2 < N := by omega
  have only : ∀ {A' : AW} {e' : Int} {b' : List Nat} {v' : AV}, PStep A3 A' fc fr v v' e' b' → Only A A' none' := fun k => Only.fresh hw o13 k.only fun g hg => by rcases hg with hg | hg <;> cases hg <;> omega
  repeat (first | refine qO ?_ | refine qA ?_ | refine qG ?_ | refine qJ rfl rfl ?_ | refine qI rfl rfl rfl ?_ | refine qW rfl rfl ?_ | refine qP rfl rfl rfl rfl (by assumption) rfl ?_ | refine xD rfl rfl rfl ?_)
  refine qV rfl (fun he => ?_) fun he => ?_
  · have he : ee = 0 := he
    subst he
    repeat (first | refine qA ?_ | refine qJ rfl rfl ?_)
    refine xG (vs := clc n su pv fv mv) rfl rfl rfl rfl I.h6 rfl ?_
    refine qU rfl rfl orc_cons rfl (ccheck_spec (c := ⟨n, su, po, fi, me⟩) I.st.only.wf I.R hl1 hl2) ?_
    rintro r A12 ⟨⟨e', rfl, hErr⟩, o12'⟩
    have hc := o12'.keep _ _ hc fun h => h
    have I : DI A3 A12 fc fr v v9 0 b10 f2 f6 N ⟨n, su, po, fi, me⟩ pv fv mv := ⟨I.st.quiet o12', o12'.keep _ _ I.h2 fun h => h, o12'.keep _ _ I.h6 fun h => h, I.R.keep o12', I.op, I.of, I.om, Nat.le_trans I.hn o12'.nxt⟩
    repeat (first | refine qI rfl rfl rfl ?_ | refine qW rfl rfl ?_)
    refine qZ rfl rfl rfl rfl rfl rfl hc rfl ?_
    refine wo_A (fun A13 => DI A3 A13 fc fr v v9 e' b10 f2 f6 N ⟨n, su, po, fi, me⟩ pv fv mv) (I.read n2 n6 hcN (PStep.err (e1 := e') I.st.only.wf I.st.ps)) ?_
    intro A13 I
    have hc := I.st.ps.cell
    repeat (first | refine qO ?_ | refine qA ?_ | refine qG ?_ | refine qJ rfl rfl ?_ | refine qI rfl rfl rfl ?_ | refine qW rfl rfl ?_ | refine qP rfl rfl rfl rfl (by assumption) rfl ?_ | refine xL rfl rfl rfl ?_)
    refine qV rfl (fun hne => ?_) fun hz => ?_
    · have hr : 30 ≤ e' ∧ e' ≤ 54 ∧ ¬ clsOk ⟨n, su, po, fi, me⟩ := by
        rcases hErr with ⟨h, _⟩ | h
        · exact absurd h hne
        · exact h
      repeat refine qO ?_
      refine wg_draw rfl ?_
      repeat (first
        | (refine xC rfl rfl rfl rfl rfl ?_
           repeat (first | refine qG ?_ | refine qJ rfl rfl ?_ | refine qI rfl rfl rfl ?_ | refine qW rfl rfl ?_ | refine wo_build rfl rfl rfl ?_)
           refine ⟨rfl, ?_⟩)
        | (refine xI rfl rfl rfl rfl rfl rfl rfl ?_
           repeat (first | refine qG ?_ | refine qP rfl rfl rfl rfl (by assumption) rfl ?_)
           refine ⟨rfl, _, rfl, ?_⟩))
      refine wd_act rfl rfl rfl ?_
      refine qZ rfl rfl rfl rfl rfl rfl I.h2 rfl ?_
      have hc' := (Only.put (x := .cells 0 false 5 (clc [] [] .nils .nils .nils)) I.st.only.wf (I.st.only.wf _ _ I.h2)).keep _ _ hc fun e => n2.1 e.symm
      repeat refine qG ?_
      refine ⟨⟨.inr (stillE rfl hc' rfl), trivial⟩, ?_⟩
      refine wd_act rfl rfl rfl ?_
      repeat (first | refine qG ?_ | refine qE rfl rfl ?_)
      refine ⟨⟨.inl (by show bit 63 4 = true; rfl), trivial⟩, wd_nil ?_⟩
      refine wg_ret2 rfl rfl rfl (loadN_eq rfl rfl (by rw [AW.put_get, if_pos rfl]) rfl) ?_
      refine ⟨Only.fresh hw (only I.st) (Only.put I.st.only.wf (I.st.only.wf _ _ I.h2)) fun g hg => by cases hg; exact l2, zCl, .nils, .nils, .nils, e', rfl, ⟨nilF, nilF, [], nilF, rfl⟩, fun g hg => by rcases hg with hg | hg | hg <;> exact hg.elim, .inr ⟨hr.1, hr.2.1, rfl, ⟨rfl, rfl, rfl⟩, fun ok => hr.2.2 ok.2⟩⟩
    · have hz : e' = 0 := Decidable.byContradiction hz
      subst hz
      have hcl := hErr.ok rfl
      repeat (first | refine qO ?_ | refine qS ?_ | refine qA ?_)
      refine xG (vs := clc n su pv fv mv) rfl rfl rfl rfl I.h6 rfl ?_
      refine qZ rfl rfl rfl rfl rfl rfl I.h2 rfl ?_
      repeat (first | refine qG ?_ | refine qE rfl rfl ?_)
      refine wg_ret2 rfl rfl rfl (loadN_eq rfl rfl (by rw [AW.put_get, if_pos rfl]) rfl) ?_
      have op2 := Only.put (x := .cells 0 false 5 (clc n su pv fv mv)) I.st.only.wf (I.st.only.wf _ _ I.h2)
      refine ⟨Only.fresh hw (only I.st) op2 fun g hg => by cases hg; exact l2, ⟨n, su, po, fi, me⟩, pv, fv, mv, 0, rfl, (I.R.keep2 I.op I.of I.om op2 fun g hg => by cases hg; exact sN).mono (by omega), fun g hg => ?_, .inl ⟨rfl, rfl, hcl, rfl⟩⟩
      have : N ≤ g := by
        rcases hg with hg | hg | hg
        · exact I.op g hg
        · exact I.of g hg
        · exact I.om g hg
      omega
  · have he : ¬ ee = 0 := he
    have hr : 30 ≤ ee ∧ ee ≤ 54 := hE.resolve_left he
    repeat (first | refine qO ?_ | refine qS ?_ | refine qA ?_ | refine qG ?_ | refine qJ rfl rfl ?_ | refine qI rfl rfl rfl ?_ | refine qW rfl rfl ?_ | refine qP rfl rfl rfl rfl (by assumption) rfl ?_ | refine xL rfl rfl rfl ?_)
    refine qV rfl (fun _ => ?_) fun h => absurd he h
    repeat refine qO ?_
    refine wg_draw rfl ?_
    repeat (first
      | (refine xC rfl rfl rfl rfl rfl ?_
         repeat (first | refine qG ?_ | refine qJ rfl rfl ?_ | refine qI rfl rfl rfl ?_ | refine qW rfl rfl ?_ | refine wo_build rfl rfl rfl ?_)
         refine ⟨rfl, ?_⟩)
      | (refine xI rfl rfl rfl rfl rfl rfl rfl ?_
         repeat (first | refine qG ?_ | refine qP rfl rfl rfl rfl (by assumption) rfl ?_)
         refine ⟨rfl, _, rfl, ?_⟩))
    refine wd_act rfl rfl rfl ?_
    refine qZ rfl rfl rfl rfl rfl rfl I.h2 rfl ?_
    have hc' := (Only.put (x := .cells 0 false 5 (clc [] [] .nils .nils .nils)) I.st.only.wf (I.st.only.wf _ _ I.h2)).keep _ _ hc fun e => n2.1 e.symm
    repeat refine qG ?_
    refine ⟨⟨.inr (stillE rfl hc' rfl), trivial⟩, ?_⟩
    refine wd_act rfl rfl rfl ?_
    repeat (first | refine qG ?_ | refine qE rfl rfl ?_)
    refine ⟨⟨.inl (by show bit 63 4 = true; rfl), trivial⟩, wd_nil ?_⟩
    refine wg_ret2 rfl rfl rfl (loadN_eq rfl rfl (by rw [AW.put_get, if_pos rfl]) rfl) ?_
    refine ⟨Only.fresh hw (only I.st) (Only.put I.st.only.wf (I.st.only.wf _ _ I.h2)) fun g hg => by cases hg; exact l2, zCl, .nils, .nils, .nils, ee, rfl, ⟨nilF, nilF, [], nilF, rfl⟩, fun g hg => by rcases hg with hg | hg | hg <;> exact hg.elim, .inr ⟨hr.1, hr.2, rfl, ⟨rfl, rfl, rfl⟩, fun ok => he ok.1⟩⟩
end Go.Proofs.YtiecclkgjcnaoaaGreat.Ae
