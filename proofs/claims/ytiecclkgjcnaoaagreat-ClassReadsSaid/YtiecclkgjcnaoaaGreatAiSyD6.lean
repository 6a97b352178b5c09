/-
  THE READER OF CLASSES, by the rules: a field, a handler, code.
  THE READER OF CLASSES, by the rules: code.
-/
import Derived.Test.YtiecclkgjcnaoaaGreatAiSyD4
namespace Go.Proofs.YtiecclkgjcnaoaaGreat.Ae
open Go.AE
set_option linter.unusedVariables false
set_option maxRecDepth 100000
def zFi : FiT := ⟨[], (0, []), false⟩
def pF (e : Int) (bs : List Nat) : FiT × Int × List Nat :=
  (⟨(pT e bs).1, (pK (pT e bs).2.1 (pT e bs).2.2).1, decide (((pB (pK (pT e bs).2.1 (pT e bs).2.2).2.1 (pK (pT e bs).2.1 (pT e bs).2.2).2.2).1 : Int) = 1)⟩,
   badE (decide ((1 : Int) < ((pB (pK (pT e bs).2.1 (pT e bs).2.2).2.1 (pK (pT e bs).2.1 (pT e bs).2.2).2.2).1 : Int))) 31 (pB (pK (pT e bs).2.1 (pT e bs).2.2).2.1 (pK (pT e bs).2.1 (pT e bs).2.2).2.2).2.1,
   (pB (pK (pT e bs).2.1 (pT e bs).2.2).2.1 (pK (pT e bs).2.1 (pT e bs).2.2).2.2).2.2)
set_option maxHeartbeats 4000000 in
theorem cfield_spec {K : FuncId} {A : AW} {fc fr : Nat} {v : AV} {e : Int} {bs : List Nat} (hw : Wf A) (h : PS A fc fr v e bs) :
    CallP (ES K) 20 [.ptr fc 0 0] A fun r A1 => r = .agg (fic (pF e bs).1) ∧ ∃ v', PStep A A1 fc fr v v' (pF e bs).2.1 (pF e bs).2.2 := by
  refine call_of rfl rfl rfl ?_
  have hlt := h.lt hw
  unfold pF
  repeat (first | refine qO ?_ | refine qA ?_)
  refine wo_alloc rfl rfl rfl ?_
  refine wo_A (fun A1 => Only A A1 none' ∧ A1.heap.get A.nxt = some (.cells 0 false 4 (fic zFi))) ⟨Only.add hw _, by rw [AW.add_get, if_pos rfl]; rfl⟩ ?_
  rintro A1 ⟨o1, h2⟩
  generalize hf2 : A.nxt = f2 at h2
  have l2 : A.nxt ≤ f2 := by omega
  repeat (first | refine qO ?_ | refine qA ?_ | refine qG ?_ | refine qJ rfl rfl ?_)
  refine qU rfl rfl orc_cons rfl (ctext_spec o1.wf (h.keep o1)) ?_
  rintro r A2 ⟨rfl, v1, st1⟩
  generalize pT e bs = n at st1
  obtain ⟨n, e1, b1⟩ := n
  have st1 : PStep A1 A2 fc fr v v1 e1 b1 := st1
  repeat refine qJ rfl rfl ?_
  refine qU rfl rfl orc_cons rfl (ckind_spec st1.only.wf st1.ps) ?_
  rintro r A3 ⟨rfl, v2, st2⟩
  have st12 := st1.trans st2
  simp only
  generalize pK e1 b1 = t at st12
  obtain ⟨t, e2, b2⟩ := t
  have st12 : PStep A1 A3 fc fr v v2 e2 b2 := st12
  repeat refine wo_build rfl rfl rfl ?_
  refine wo_alloc rfl rfl rfl ?_
  refine qZ rfl rfl rfl rfl rfl rfl (by rw [AW.add_get, if_pos rfl]) rfl ?_
  refine wo_A (fun A4 => Only A3 A4 none' ∧ A4.heap.get A3.nxt = some (.cells 0 false 4 (fic ⟨n, t, false⟩))) ⟨made st12.only.wf, by rw [AW.put_get, if_pos rfl]; rfl⟩ ?_
  rintro A4 ⟨o3, h3⟩
  have n23 : f2 ≠ A3.nxt := fun e => by
    have := st12.only.wf _ _ (st12.hold hlt h2 l2)
    omega
  have l3 := (st12.after o1).only.nxt
  generalize A3.nxt = f3 at h3 n23 l3
  have S : ST A A4 fc fr v v2 e2 b2 f2 f3 (fic zFi) (fic ⟨n, t, false⟩) := ST.made hlt l2 o1 h2 st12 o3 h3
  repeat (first | refine qO ?_ | refine qA ?_ | refine qG ?_ | refine qJ rfl rfl ?_)
  refine qU rfl rfl orc_cons rfl (cbyte_spec S.st.only.wf S.st.ps) ?_
  rintro r A5 ⟨rfl, v3, st3⟩
  have S := S.read hlt l2 l3 st3
  generalize pB e2 b2 = b at S
  obtain ⟨b, e3, b3⟩ := b
  have S : ST A A5 fc fr v v3 e3 b3 f2 f3 (fic zFi) (fic ⟨n, t, false⟩) := S
  repeat (first | refine qO ?_ | refine qA ?_ | refine qG ?_ | refine qJ rfl rfl ?_ | refine qE rfl rfl ?_ | refine wo_gtr rfl rfl rfl ?_)
  refine qU rfl rfl orc_cons rfl (cbad_spec (is := decide ((1 : Int) < (b : Int))) (x := 31) S.st.only.wf S.st.ps) ?_
  rintro r A6 ⟨rfl, st4⟩
  have S := S.read hlt l2 l3 st4
  repeat (first | refine qO ?_ | refine qA ?_ | refine qG ?_ | refine qJ rfl rfl ?_ | refine qI rfl rfl rfl ?_ | refine xD rfl rfl rfl ?_)
  refine qZ rfl rfl rfl rfl rfl rfl S.h3 rfl ?_
  refine wo_A (fun A7 => ST A A7 fc fr v v3 _ _ f2 f3 (fic zFi) (fic ⟨n, t, decide ((b : Int) = 1)⟩)) (S.put hw h l3 n23 (cs' := fic ⟨n, t, decide ((b : Int) = 1)⟩) rfl) ?_
  intro A7 S
  have h2 := S.h2
  have h3 := S.h3
  unfold fic at h3
  repeat (first | refine qO ?_ | refine qA ?_ | refine qG ?_)
  refine xG rfl rfl rfl rfl h3 rfl ?_
  refine qZ rfl rfl rfl rfl rfl rfl h2 rfl ?_
  repeat refine qG ?_
  refine wg_ret1 rfl rfl (loadN_eq rfl rfl (by rw [AW.put_get, if_pos rfl]) rfl) ?_
  exact ⟨rfl, v3, S.done hw h l2⟩
theorem stillP {K : FuncId} {C : FnE} {l : Kn} {A : AW} {d : Option Tmp} {t : Tmp} {pos : String} {ty : TypeId} {after : Array Edge} {gd : Option (Nat × Bool)} {f g : Nat} (hl : l.find t = some (.ptr f 0 0)) (hf : A.heap.get f = some (.cells 0 false 1 [.ptr g 0 0])) :
    (∀ F, Kf C l F → execA (ES K) F ⟨d, .load 50 (.tmp t), ty, pos, after, gd⟩ A = .val (.ptr g 0 0) A) ∧ valEq (.ptr g 0 0) (.ptr g 0 0) = true := by
  refine ⟨fun F hF => ?_, ?_⟩
  · show liftR (loadA (ES K) 50 (ev F (.tmp t)) A) = _
    rw [hF.ev (x := .tmp t) (v := .ptr f 0 0) hl, loadA_eq (dt := d50) rfl rfl hf rfl]
    rfl
  · show (Nat.beq g g && Nat.beq 0 0 && Nat.beq 0 0) = true
    simp only [Nat.beq_refl, Bool.and_self]
def pN := pC 1048576
theorem pC_lt {m e : Int} {bs : List Nat} (hm : m < 9223372036854775808) : (pC m e bs).1 < 9223372036854775808 := by
  unfold pC
  by_cases he : e = 0
  · subst he
    rw [kp_ok]
    exact (rdC_le hm).1
  · rw [kp_no he]
    exact (by decide : (0 : Nat) < 9223372036854775808)
def pH5 (a b c d f : Nat × Int × List Nat) : HaT × Int × List Nat := (⟨(a.1 : Int), (b.1 : Int), (c.1 : Int), (d.1 : Int) - 1, (f.1 : Int)⟩, f.2)
def pH (e : Int) (bs : List Nat) : HaT × Int × List Nat :=
  let a := pN e bs
  let b := pN a.2.1 a.2.2
  let c := pN b.2.1 b.2.2
  let d := pN c.2.1 c.2.2
  pH5 a b c d (pN d.2.1 d.2.2)
set_option maxHeartbeats 4000000 in
theorem chandler_spec {K : FuncId} {A : AW} {fc fr fb : Nat} {v : AV} {e : Int} {bs : List Nat} (hw : Wf A) (h : PS A fc fr v e bs) (hb : A.heap.get fb = some (.cells 0 false 1 [.ptr fc 0 0])) (nb : fb ≠ fc ∧ fb ≠ fr) :
    CallP (ES K) 70 [.ptr fb 0 0] A fun r A1 => r = .agg (hac (pH e bs).1) ∧ ∃ v', PStep A A1 fc fr v v' (pH e bs).2.1 (pH e bs).2.2 := by
  refine call_of rfl rfl rfl ?_
  have hlt := h.lt hw
  have lb := hw _ _ hb
  have hkeep : ∀ {A1 A2 : AW}, Only A1 A2 (both (one fc) (one fr)) → A1.heap.get fb = some (.cells 0 false 1 [.ptr fc 0 0]) → A2.heap.get fb = some (.cells 0 false 1 [.ptr fc 0 0]) := fun o h => o.keep _ _ h fun e => e.elim nb.1 nb.2
  unfold pH
  repeat (first | refine qO ?_ | refine qA ?_)
  refine wo_alloc rfl rfl rfl ?_
  refine wo_A (fun A1 => Only A A1 none' ∧ A1.heap.get A.nxt = some (.cells 0 false 5 (hac ⟨0, 0, 0, 0, 0⟩))) ⟨Only.add hw _, by rw [AW.add_get, if_pos rfl]; rfl⟩ ?_
  rintro A1 ⟨o1, h2⟩
  generalize hf2 : A.nxt = f2 at h2
  have l2 : A.nxt ≤ f2 := by omega
  have hb := o1.keep _ _ hb fun h => h
  repeat (first | refine qO ?_ | refine qG ?_)
  refine wg_draw rfl ?_
  repeat (first
    | (refine xI rfl rfl rfl rfl rfl rfl rfl ?_
       repeat (first | refine qG ?_ | refine qP rfl rfl rfl rfl (by assumption) rfl ?_)
       refine ⟨rfl, _, rfl, ?_⟩))
  refine wd_act rfl rfl rfl ?_
  refine qU rfl rfl orc_cons rfl (cnumber_spec o1.wf (h.keep o1)) ?_
  rintro r A2 ⟨rfl, v1, st⟩
  have hb := hkeep st.only hb
  repeat refine qG ?_
  refine ⟨?_, ?_⟩
  · repeat (first | exact trivial | refine ⟨.inr (stillP rfl hb), ?_⟩)
  refine wd_act rfl rfl rfl ?_
  refine qU rfl rfl orc_cons rfl (cnumber_spec st.only.wf st.ps) ?_
  rintro r A3 ⟨rfl, v2, st2⟩
  have hb := hkeep st2.only hb
  have st := st.trans st2
  repeat refine qG ?_
  refine ⟨?_, ?_⟩
  · repeat (first | exact trivial | refine ⟨.inr (stillP rfl hb), ?_⟩)
  refine wd_act rfl rfl rfl ?_
  refine qU rfl rfl orc_cons rfl (cnumber_spec st.only.wf st.ps) ?_
  rintro r A4 ⟨rfl, v3, st3⟩
  have hb := hkeep st3.only hb
  have st := st.trans st3
  repeat refine qG ?_
  refine ⟨?_, ?_⟩
  · repeat (first | exact trivial | refine ⟨.inr (stillP rfl hb), ?_⟩)
  refine wd_act rfl rfl rfl ?_
  refine qU rfl rfl orc_cons rfl (cnumber_spec st.only.wf st.ps) ?_
  rintro r A5 ⟨rfl, v4, st4⟩
  have hb := hkeep st4.only hb
  have st := st.trans st4
  repeat refine qG ?_
  refine ⟨?_, ?_⟩
  · repeat (first | exact trivial | refine ⟨.inr (stillP rfl hb), ?_⟩)
  refine xC rfl rfl rfl rfl rfl ?_
  refine wo_sub rfl rfl rfl ?_ ?_ ?_
  · omega
  · have := pC_lt (m := 1048576) (e := (pC 1048576 (pC 1048576 (pC 1048576 e bs).2.1 (pC 1048576 e bs).2.2).2.1 (pC 1048576 (pC 1048576 e bs).2.1 (pC 1048576 e bs).2.2).2.2).2.1) (bs := (pC 1048576 (pC 1048576 (pC 1048576 e bs).2.1 (pC 1048576 e bs).2.2).2.1 (pC 1048576 (pC 1048576 e bs).2.1 (pC 1048576 e bs).2.2).2.2).2.2) (by decide)
    omega
  repeat refine qG ?_
  refine ⟨rfl, ?_⟩
  refine wd_act rfl rfl rfl ?_
  refine qU rfl rfl orc_cons rfl (cnumber_spec st.only.wf st.ps) ?_
  rintro r A6 ⟨rfl, v5, st5⟩
  have hb := hkeep st5.only hb
  have st := st.trans st5
  repeat refine qG ?_
  refine ⟨?_, ?_⟩
  · repeat (first | exact trivial | refine ⟨.inr (stillP rfl hb), ?_⟩)
  repeat (first
    | (refine xC rfl rfl rfl rfl rfl ?_
       repeat (first | refine qG ?_ | refine wo_build rfl rfl rfl ?_)
       refine ⟨rfl, ?_⟩))
  have h2 := st.hold hlt h2 l2
  have st := st.after o1
  refine wd_act rfl rfl rfl ?_
  refine qZ rfl rfl rfl rfl rfl rfl h2 rfl ?_
  have op := Only.put (x := .cells 0 false 5 (hac (pH e bs).1)) st.only.wf (st.only.wf _ _ h2)
  refine wo_A (fun A7 => Only A6 A7 (one f2) ∧ A7.heap.get f2 = some (.cells 0 false 5 (hac (pH e bs).1))) ⟨op, by rw [AW.put_get, if_pos rfl]; rfl⟩ ?_
  rintro A7 ⟨o7, h2⟩
  have hb := o7.keep _ _ hb fun e => by
    have e : fb = f2 := e
    omega
  repeat refine qG ?_
  refine ⟨?_, wd_nil ?_⟩
  · repeat (first | exact trivial | refine ⟨.inr (stillP rfl hb), ?_⟩)
  refine wg_ret1 rfl rfl (loadN_eq rfl rfl h2 rfl) ?_
  exact ⟨rfl, v5, st.fresh hw h o7 fun g hg => by cases hg; exact l2⟩
end Go.Proofs.YtiecclkgjcnaoaaGreat.Ae
namespace Go.Proofs.YtiecclkgjcnaoaaGreat.Ae
open Go.AE
set_option linter.unusedVariables false
set_option maxRecDepth 100000
theorem buf_still {A : AW} {es : Nat} {v : AV} {n : Nat} {cs : List AV} (h : Buf A es v n cs) : valEq v v = true := by
  rcases h with ⟨rfl, _⟩ | ⟨f, t, rfl, _⟩
  · rfl
  · show (Nat.beq f f && Nat.beq t t && Nat.beq 0 0 && Nat.beq n n && Nat.beq n n && (false == false)) = true
    simp only [Nat.beq_refl, beq_self_eq_true, Bool.and_self]
theorem buf_fam {A : AW} {es : Nat} {v : AV} {n : Nat} {cs : List AV} (h : Buf A es v n cs) {g : Nat} (hg : v.isFam g) : ∃ t, A.heap.get g = some (.cells t false es cs) ∧ cs.length = n * es ∧ 0 < n := by
  rcases h with ⟨rfl, _⟩ | ⟨f, t, rfl, h1, h2, h3⟩
  · exact hg.elim
  · cases hg; exact ⟨t, h1, h2, h3⟩
theorem stillB {K : FuncId} {C : FnE} {l : Kn} {A : AW} {d : Option Tmp} {t : Tmp} {pos : String} {ty : TypeId} {after : Array Edge} {gd : Option (Nat × Bool)} {f es n : Nat} {v : AV} {cs : List AV} (hl : l.find t = some (.ptr f 0 0)) (hf : A.heap.get f = some (.cells 0 false 1 [v])) (hv : Buf A es v n cs) :
    (∀ F, Kf C l F → execA (ES K) F ⟨d, .load 22 (.tmp t), ty, pos, after, gd⟩ A = .val v A) ∧ valEq v v = true := by
  refine ⟨fun F hF => ?_, buf_still hv⟩
  show liftR (loadA (ES K) 22 (ev F (.tmp t)) A) = _
  rw [hF.ev (x := .tmp t) (v := .ptr f 0 0) hl, loadA_eq (dt := d22) rfl rfl hf rfl]
  rfl
def cdE (n : Nat × Int × List Nat) : Int := badE (decide ((n.2.2.length : Int) < (n.1 : Int))) 30 n.2.1
def pCd' (n : Nat × Int × List Nat) : List In × Int × List Nat :=
  if cdE n ≠ 0 then ([], cdE n, n.2.2) else ((getL (n.2.2.take n.1)).1, (getL (n.2.2.take n.1)).2, n.2.2.drop n.1)
def pCd (e : Int) (bs : List Nat) : List In × Int × List Nat := pCd' (pC 20000 e bs)
structure CI (A A1 : AW) (fc fr : Nat) (v v' : AV) (e1 : Int) (b1 : List Nat) (f4 : Nat) (vb : AV) (i : Nat) : Prop where
  st : PStep A A1 fc fr v v' e1 (b1.drop i)
  h4 : A1.heap.get f4 = some (.cells 0 false 1 [vb])
  buf : Buf A1 1 vb i (bys (b1.take i))
  own : ∀ g, vb.isFam g → A.nxt ≤ g
  n4 : ¬ vb.isFam f4
theorem pC_most {m e : Int} {bs : List Nat} (hm : 0 ≤ m) : ((pC m e bs).1 : Int) ≤ m := by
  unfold pC
  by_cases he : e = 0
  · subst he
    rw [kp_ok]
    exact rdC_most hm
  · rw [kp_no he]
    exact hm
set_option maxHeartbeats 4000000 in
theorem ccode_spec {K : FuncId} {A : AW} {fc fr : Nat} {v : AV} {e : Int} {bs : List Nat} (hw : Wf A) (h : PS A fc fr v e bs) :
    CallP (ES K) 68 [.ptr fc 0 0] A fun r A1 => (Buf A1 2 r (pCd e bs).1.length (ics (pCd e bs).1) ∧ ∀ g, r.isFam g → A.nxt ≤ g) ∧ ∃ v', PStep A A1 fc fr v v' (pCd e bs).2.1 (pCd e bs).2.2 := by
  refine call_of rfl rfl rfl ?_
  have hlt := h.lt hw
  unfold pCd
  repeat (first | refine qO ?_ | refine qA ?_ | refine qG ?_ | refine qJ rfl rfl ?_ | refine qE rfl rfl ?_)
  refine qU rfl rfl orc_cons rfl (ccount_spec hw h (by decide) (by decide)) ?_
  rintro r A1 ⟨rfl, v1, st⟩
  have hm := pC_most (m := 20000) (e := e) (bs := bs) (by decide)
  have h256 := st.ps.rd.lt
  generalize pC 20000 e bs = n at st hm h256
  obtain ⟨n, e0, b1⟩ := n
  have hm : (n : Int) ≤ 20000 := hm
  have h256 : ∀ b ∈ b1, b < 256 := h256
  have st : PStep A A1 fc fr v v1 e0 b1 := st
  repeat (first | refine qO ?_ | refine qA ?_ | refine qG ?_ | refine qE rfl rfl ?_)
  refine wo_alloc rfl rfl rfl ?_
  refine wo_A (fun A2 => Only A1 A2 none' ∧ A2.heap.get A1.nxt = some (.cells 0 false 1 [.nils])) ⟨Only.add st.only.wf _, by rw [AW.add_get, if_pos rfl]; rfl⟩ ?_
  rintro A2 ⟨o2, h4⟩
  have l4 := st.only.nxt
  generalize A1.nxt = f4 at h4 l4
  have st := st.quiet o2
  have hc := st.ps.cell
  repeat (first | refine qO ?_ | refine qA ?_ | refine qG ?_ | refine qJ rfl rfl ?_ | refine qI rfl rfl rfl ?_ | refine qW rfl rfl ?_ | refine qP rfl rfl rfl rfl (by assumption) rfl ?_)
  refine qU rfl rfl orc_cons rfl (left_spec st.ps.rd) ?_
  rintro r A3 ⟨rfl, e3⟩
  obtain rfl : A2 = A3 := e3.symm
  repeat refine wo_gtr rfl rfl rfl ?_
  refine qU rfl rfl orc_cons rfl (cbad_spec (is := decide ((b1.length : Int) < (n : Int))) (x := 30) st.only.wf st.ps) ?_
  rintro r A3 ⟨rfl, st3⟩
  have h4 := st3.hold hlt h4 l4
  have st := st.trans st3
  have hE : cdE (n, e0, b1) = badE (decide ((b1.length : Int) < (n : Int))) 30 e0 := rfl
  have hn : cdE (n, e0, b1) = 0 → n ≤ b1.length := fun h0 => by
    rw [hE] at h0
    unfold badE at h0
    by_cases hx : (b1.length : Int) < (n : Int)
    · rw [decide_eq_true hx] at h0
      split at h0
      · cases h0
      · rename_i h1
        exact absurd ⟨rfl, h0⟩ h1
    · omega
  rw [← hE] at st
  unfold pCd'
  generalize cdE (n, e0, b1) = e1 at st hn
  repeat (first | refine qO ?_ | refine qY ?_ | refine qG ?_)
  refine wg_loop ?_
  refine wg_le (.put 0 (.ptr fc 0 0) (.put 3 (.int .i64 (n : Int)) (.put 4 (.ptr f4 0 0) .nil))) ?_ ⟨rfl, rfl, rfl, trivial⟩
  refine wg_ind (ι := Nat × AV × AV) (fun i => n - i.1) (fun i => .put 0 (.ptr fc 0 0) (.put 3 (.int .i64 (n : Int)) (.put 4 (.ptr f4 0 0) .nil))) (fun i A4 => CI A A4 fc fr v i.2.2 e1 b1 f4 i.2.1 i.1 ∧ i.1 ≤ n ∧ (e1 ≠ 0 → i.1 = 0)) ?_ (0, .nils, v1) A3 ⟨⟨st, h4, .inl ⟨rfl, rfl, rfl⟩, fun g h => h.elim, fun h => h⟩, Nat.zero_le _, fun _ => rfl⟩
  rintro ⟨i, vb, v2⟩ A4 ⟨ci, hi, h0⟩ ih
  have ci : CI A A4 fc fr v v2 e1 b1 f4 vb i := ci
  have hi : i ≤ n := hi
  have h0 : e1 ≠ 0 → i = 0 := h0
  have hc := ci.st.ps.cell
  have h4 := ci.h4
  repeat (first | refine qO ?_ | refine qA ?_ | refine qJ rfl rfl ?_ | refine qI rfl rfl rfl ?_ | refine qW rfl rfl ?_ | refine qP rfl rfl rfl rfl (by assumption) rfl ?_ | refine xD rfl rfl rfl ?_)
  by_cases he : e1 = 0
  · refine xA 21 true rfl (decide_eq_true he) ?_
    repeat (first | refine qP rfl rfl rfl rfl (by assumption) rfl ?_ | refine qX rfl ?_)
    refine xJ rfl rfl rfl ci.buf.lenV ?_
    repeat (first | refine qG ?_ | refine qJ rfl rfl ?_ | refine xM rfl rfl rfl ?_ | refine qR rfl rfl rfl ?_ | refine qX rfl ?_)
    refine qV rfl (fun hx => ?_) fun hx => ?_
    · have hx : i < n := Int.ofNat_lt.1 hx
      have hnb := hn he
      obtain ⟨b, hb⟩ : ∃ b, b1[i]? = some b := ⟨b1[i], List.getElem?_eq_getElem (by omega)⟩
      have hdr : b1.drop i = b :: b1.drop (i + 1) := by
        rw [List.getElem?_eq_getElem (by omega), Option.some.injEq] at hb
        rw [← hb]
        exact List.drop_eq_getElem_cons (by omega)
      have hpb : pB e1 (b1.drop i) = (b, e1, b1.drop (i + 1)) := by
        unfold pB
        rw [he, kp_ok, hdr]
        rfl
      repeat (first | refine qS ?_ | refine qY ?_)
      refine wg_draw rfl ?_
      repeat (first
        | (refine xC rfl rfl rfl rfl rfl ?_
           repeat (first | refine qG ?_ | refine qJ rfl rfl ?_)
           refine ⟨rfl, ?_⟩)
        | (refine xI rfl rfl rfl rfl rfl rfl rfl ?_
           repeat (first | refine qG ?_ | refine qP rfl rfl rfl rfl (by assumption) rfl ?_)
           refine ⟨rfl, _, rfl, ?_⟩))
      refine wd_act rfl rfl rfl ?_
      refine qU rfl rfl orc_cons rfl (cbyte_spec ci.st.only.wf ci.st.ps) ?_
      rw [hpb]
      rintro r A5 ⟨rfl, v3, st5⟩
      have h4 := st5.hold hlt ci.h4 l4
      have hbuf := ci.buf.keep st5.only fun g hg hb => by
        have := ci.own g hg
        rcases hb with hb | hb <;> cases hb <;> omega
      have st := ci.st.trans st5
      repeat refine qG ?_
      refine ⟨⟨.inr (stillB rfl h4 hbuf), trivial⟩, ?_⟩
      refine wd_make rfl rfl rfl rfl ?_
      refine wo_buildSlice rfl rfl rfl ?_
      repeat refine qG ?_
      refine wd_act rfl rfl rfl ?_
      refine wo_append rfl rfl rfl rfl rfl (append_one (n := i) (de := d5) rfl rfl rfl rfl st.only.wf hbuf rfl (by decide) (room_of (by omega) (by decide))) ?_
      intro vb' A6 g
      have h46 := g.only.keep _ _ h4 ci.n4
      have w6 : Wf A6 := g.only.wf
      repeat refine qG ?_
      refine ⟨⟨.inl (by show bit 15 0 = true; rfl), trivial⟩, ?_⟩
      refine wd_act rfl rfl rfl ?_
      refine qZ rfl rfl g.buf.cells rfl rfl rfl h46 rfl ?_
      have op := Only.put (x := .cells 0 false 1 [vb']) w6 (w6 _ _ h46)
      refine wo_A (fun A7 => Only A6 A7 (one f4) ∧ A7.heap.get f4 = some (.cells 0 false 1 [vb'])) ⟨op, by rw [AW.put_get, if_pos rfl]⟩ ?_
      rintro A7 ⟨o7, h47⟩
      have nv4 : ¬ vb'.isFam f4 := fun hg => by
        obtain ⟨t, ht, q1, q2⟩ := buf_fam g.buf hg
        rcases g.grow f4 hg with e | e
        · exact ci.n4 e
        · have := st.only.wf _ _ h4
          omega
      have st7 : PStep A A7 fc fr v v3 e1 (b1.drop (i + 1)) := (st.fresh hw h g.only ci.own).fresh hw h o7 fun g hg => by cases hg; exact l4
      have b7 : Buf A7 1 vb' (i + 1) (bys (b1.take (i + 1))) := by
        have := g.buf.keep o7 fun k hk e => by cases e; exact nv4 hk
        rw [List.take_add_one, hb, bys_append]
        exact this
      repeat refine qG ?_
      refine ⟨⟨.inl (by show bit 31 0 = true; rfl), trivial⟩, wd_nil ?_⟩
      repeat refine xB ?_
      refine xN ?_
      refine wg_le (.put 0 (.ptr fc 0 0) (.put 3 (.int .i64 (n : Int)) (.put 4 (.ptr f4 0 0) .nil))) ?_ ⟨rfl, rfl, rfl, trivial⟩
      refine ih (i + 1, vb', v3) A7 (by simp only; omega) ⟨⟨st7, h47, b7, fun k hk => (g.grow k hk).elim (ci.own k) fun h => Nat.le_trans st.only.nxt h, nv4⟩, hx, fun h => absurd he h⟩
    · have hx : i = n := by
        have hx : ¬ (i : Int) < (n : Int) := hx
        omega
      subst hx
      have hnb := hn he
      rw [if_neg (fun h => h he)]
      refine wg_exit rfl ?_
      repeat (first | refine qO ?_ | refine qA ?_ | refine qJ rfl rfl ?_)
      refine wo_makeFunc rfl rfl rfl ?_
      subst he
      refine qU rfl rfl orc_cons rfl (keepI_ok ci.st.ps orc_cons rfl (Q := fun x e' A5 => (Buf A5 2 x (getL (b1.take i)).1.length (ics (getL (b1.take i)).1) ∧ ∀ g, x.isFam g → A4.nxt ≤ g) ∧ e' = (getL (b1.take i)).2 ∧ Only A4 A5 none') ?_ fun x e1 A1 ⟨_, _, o⟩ => o.keep _ _ ci.st.ps.cell fun h => h) ?_
      · refine call_of rfl rfl rfl ?_
        repeat (first | refine qO ?_ | refine qA ?_ | refine qG ?_ | refine qE rfl rfl ?_ | refine qP rfl rfl rfl rfl (by assumption) rfl ?_)
        have hbl : (b1.take i).length = i := by rw [List.length_take]; omega
        refine qU rfl rfl orc_cons rfl (get_spec (bs := b1.take i) ci.st.only.wf (by rw [hbl]; exact ci.buf.row) (by rw [hbl]; omega) (fun b hb => ?_)) ?_
        · exact h256 b (List.mem_of_mem_take hb)
        rintro r A5 ⟨vl, rfl, q1, q2, q3⟩
        repeat (first | refine qG ?_ | refine qE rfl rfl ?_ | refine xK rfl rfl rfl ?_)
        exact qQ rfl ⟨_, _, rfl, ⟨q1, fun g hg => (q3 g hg).resolve_left fun h => h⟩, rfl, q2⟩
      rintro r A6 ⟨e', A5, ⟨⟨q1, q2⟩, rfl, o5⟩, rfl⟩
      repeat (first | refine qG ?_ | refine qE rfl rfl ?_)
      have st5 := ci.st.quiet o5
      have st6 := PStep.err (e1 := (getL (b1.take i)).2) st5.only.wf st5.ps
      have lf := (ci.st.ps.lt ci.st.only.wf)
      refine qQ rfl ⟨⟨q1.keep st6.only fun g hg hb => ?_, fun g hg => Nat.le_trans ci.st.only.nxt (q2 g hg)⟩, v2, st5.trans st6⟩
      have := q2 g hg
      rcases hb with hb | hb <;> cases hb <;> omega
  · refine xA 21 false rfl (decide_eq_false he) ?_
    obtain rfl := h0 he
    rw [if_pos he]
    repeat (first | refine qG ?_ | refine qR rfl rfl rfl ?_ | refine xE rfl rfl ?_)
    refine wg_false rfl ?_
    refine wg_exit rfl ?_
    repeat (first | refine qO ?_ | refine qA ?_ | refine qJ rfl rfl ?_)
    refine wo_makeFunc rfl rfl rfl ?_
    refine qU rfl rfl orc_cons rfl (keepI_no ci.st.ps he) ?_
    rintro r A5 ⟨rfl, e5⟩
    obtain rfl : A4 = A5 := e5.symm
    repeat (first | refine qG ?_ | refine qE rfl rfl ?_)
    exact qQ rfl ⟨⟨.inl ⟨rfl, rfl, rfl⟩, fun g h => h.elim⟩, v2, ci.st⟩
end Go.Proofs.YtiecclkgjcnaoaaGreat.Ae
