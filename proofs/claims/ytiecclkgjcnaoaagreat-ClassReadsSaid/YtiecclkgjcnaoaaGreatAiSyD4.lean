/-
  THE READER OF CLASSES, by the rules: kind, constant, field, a handler.
-/
import Derived.Test.YtiecclkgjcnaoaaGreatAiSyD3
namespace Go.Proofs.YtiecclkgjcnaoaaGreat.Ae
open Go.AE
set_option linter.unusedVariables false
set_option maxRecDepth 100000
section
variable {E : Env} {C : FnE} {l : Kn} {A : AW} {R : AV → AW → Prop} {k : List Item}
theorem wg_ret1 {c : Nat} {t : TypeId} {p v : AV} {A1 : AW} (hc : C.fn.results.toList = [.cell c t]) (h1 : l.find c = some p) (hl : loadA E t p A = .val v A1) (h : R v A) : WG E C (.code .ret :: k) l A R := ⟨fun F hF => by
  have hr : resultsOf E F A C.fn.results.toList = some [v] := by
    rw [hc]
    simp only [resultsOf, resultOne, hF.get c p h1, hl]
  exact ⟨F, A, _, out_of hr, h, 1, fun n hn => by
    obtain ⟨m, rfl⟩ : ∃ m, n = m + 1 := ⟨n - 1, by omega⟩
    rfl⟩⟩
end
abbrev Ty' := Int × Str
def tyc (x : Ty') : List AV := [.int .i64 x.1, .str x.2]
structure CoT where
  kind : Int
  int : Int
  x : Nat × Nat
  cls : Str
  name : Str
def coc (c : CoT) : List AV := [.int .i64 c.kind, .int .i64 c.int, .cplx .f64 c.x.1 c.x.2, .str c.cls, .str c.name]
structure FiT where
  name : Str
  ty : Ty'
  vol : Bool
def fic (f : FiT) : List AV := [.str f.name, .int .i64 f.ty.1, .str f.ty.2, .bool f.vol]
structure HaT where
  lo : Int
  hi : Int
  tg : Int
  cl : Int
  de : Int
def hac (h : HaT) : List AV := [.int .i64 h.lo, .int .i64 h.hi, .int .i64 h.tg, .int .i64 h.cl, .int .i64 h.de]
theorem pB_lt {A : AW} {fc fr : Nat} {v : AV} {e : Int} {bs : List Nat} (h : PS A fc fr v e bs) : (pB e bs).1 < 256 := by
  unfold pB
  by_cases he : e = 0
  · subst he
    rw [kp_ok]
    exact rdB_lt h.rd.lt
  · rw [kp_no he]
    exact (by decide : (0 : Nat) < 256)
theorem wrap_byte {n : Nat} (h : n < 256) : IntKind.i64.wrap (n : Int) = (n : Int) := wrap_i64 (by omega) (by omega)
def pK (e : Int) (bs : List Nat) : Ty' × Int × List Nat :=
  if ((pB e bs).1 : Int) = 4 then ((4, (pT (pB e bs).2.1 (pB e bs).2.2).1), (pT (pB e bs).2.1 (pB e bs).2.2).2) else ((((pB e bs).1 : Int), []), (pB e bs).2)
theorem ckind_spec {K : FuncId} {A : AW} {fc fr : Nat} {v : AV} {e : Int} {bs : List Nat} (hw : Wf A) (h : PS A fc fr v e bs) :
    CallP (ES K) 65 [.ptr fc 0 0] A fun r A1 => r = .agg (tyc (pK e bs).1) ∧ ∃ v', PStep A A1 fc fr v v' (pK e bs).2.1 (pK e bs).2.2 := by
  refine call_of rfl rfl rfl ?_
  have hlt := h.lt hw
  repeat (first | refine qO ?_ | refine qA ?_)
  refine wo_alloc rfl rfl rfl ?_
  refine wo_A (fun A1 => Only A A1 none' ∧ A1.heap.get A.nxt = some (.cells 0 false 2 [.int .i64 0, .str []])) ⟨Only.add hw _, by rw [AW.add_get, if_pos rfl]; rfl⟩ ?_
  rintro A1 ⟨o1, h2⟩
  generalize hf2 : A.nxt = f2 at h2
  have l2 : A.nxt ≤ f2 := by omega
  repeat (first | refine qO ?_ | refine qA ?_ | refine qG ?_ | refine qJ rfl rfl ?_)
  refine qU rfl rfl orc_cons rfl (cbyte_spec o1.wf (h.keep o1)) ?_
  rintro r A2 ⟨rfl, v1, st1⟩
  have hb := pB_lt (h.keep o1)
  have h2 := st1.hold hlt h2 l2
  have st := st1.after o1
  unfold pK
  generalize pB e bs = b at hb st
  obtain ⟨k, e1, b1⟩ := b
  have hb : k < 256 := hb
  have st : PStep A A2 fc fr v v1 e1 b1 := st
  refine wo_conv rfl rfl rfl rfl (k : Int) (wrap_byte hb) ?_
  repeat refine wo_build rfl rfl rfl ?_
  refine wo_alloc rfl rfl rfl ?_
  refine qZ rfl rfl rfl rfl rfl rfl (by rw [AW.add_get, if_pos rfl]) rfl ?_
  refine wo_A (fun A3 => Only A2 A3 none' ∧ A3.heap.get A2.nxt = some (.cells 0 false 2 [.int .i64 (k : Int), .str []])) ⟨made st.only.wf, by rw [AW.put_get, if_pos rfl]; rfl⟩ ?_
  rintro A3 ⟨o3, h3⟩
  have n23 : f2 ≠ A2.nxt := fun e => by
    have := st.only.wf _ _ h2
    omega
  have l3 := st.only.nxt
  generalize A2.nxt = f3 at h3 n23 l3
  have h2 := o3.keep _ _ h2 fun h => h
  have st := st.quiet o3
  repeat (first | refine qO ?_ | refine qA ?_ | refine qG ?_ | refine qI rfl rfl rfl ?_ | refine qP rfl rfl rfl rfl (by assumption) rfl ?_ | refine xD rfl rfl rfl ?_)
  refine qV rfl (fun c4 => ?_) fun c4 => ?_
  · have c4 : (k : Int) = 4 := c4
    rw [if_pos c4]
    repeat (first | refine qA ?_ | refine qJ rfl rfl ?_)
    refine qU rfl rfl orc_cons rfl (ctext_spec st.only.wf st.ps) ?_
    rintro r A4 ⟨rfl, v2, st2⟩
    have h2 := st2.hold hlt h2 l2
    have h3 := st2.hold hlt h3 l3
    have st := st.trans st2
    repeat refine qI rfl rfl rfl ?_
    refine qZ rfl rfl rfl rfl rfl rfl h3 rfl ?_
    have op := Only.put (x := .cells 0 false 2 [.int .i64 (k : Int), .str (pT e1 b1).1]) st.only.wf (st.only.wf _ _ h3)
    refine wo_A (fun A5 => Only A4 A5 (one f3) ∧ A5.heap.get f3 = some (.cells 0 false 2 [.int .i64 (k : Int), .str (pT e1 b1).1])) ⟨op, by rw [AW.put_get, if_pos rfl]⟩ ?_
    rintro A5 ⟨o5, h3⟩
    have h2 := o5.keep _ _ h2 fun e => n23 e
    have st := st.fresh hw h o5 fun g hg => by cases hg; exact l3
    repeat (first | refine qO ?_ | refine qA ?_ | refine qG ?_)
    refine xG rfl rfl rfl rfl h3 rfl ?_
    refine qZ rfl rfl rfl rfl rfl rfl h2 rfl ?_
    repeat refine qG ?_
    refine wg_ret1 rfl rfl (loadN_eq rfl rfl (by rw [AW.put_get, if_pos rfl]) rfl) ?_
    refine ⟨by rw [c4]; rfl, v2, st.fresh hw h (Only.put st.only.wf (st.only.wf _ _ h2)) fun g hg => by cases hg; exact l2⟩
  · have c4 : ¬ (k : Int) = 4 := c4
    rw [if_neg c4]
    repeat (first | refine qO ?_ | refine qS ?_ | refine qA ?_)
    refine xG rfl rfl rfl rfl h3 rfl ?_
    refine qZ rfl rfl rfl rfl rfl rfl h2 rfl ?_
    repeat refine qG ?_
    refine wg_ret1 rfl rfl (loadN_eq rfl rfl (by rw [AW.put_get, if_pos rfl]) rfl) ?_
    refine ⟨rfl, v1, st.fresh hw h (Only.put st.only.wf (st.only.wf _ _ h2)) fun g hg => by cases hg; exact l2⟩
def zCo : CoT := ⟨0, 0, (0, 0), [], []⟩
def pCo' (k : Nat) (e : Int) (bs : List Nat) : CoT × Int × List Nat :=
  if (k : Int) = 1 then (⟨1, (pZ e bs).1, (0, 0), [], []⟩, (pZ e bs).2)
  else if (k : Int) = 2 then (⟨2, 0, (pX e bs).1, [], []⟩, (pX e bs).2)
  else if (k : Int) = 3 then (⟨3, 0, (0, 0), (pT e bs).1, []⟩, (pT e bs).2)
  else if (k : Int) = 4 ∨ (k : Int) = 5 then (⟨(k : Int), 0, (0, 0), (pT e bs).1, (pT (pT e bs).2.1 (pT e bs).2.2).1⟩, (pT (pT e bs).2.1 (pT e bs).2.2).2)
  else (⟨(k : Int), 0, (0, 0), [], []⟩, badE true 51 e, bs)
def pCo (e : Int) (bs : List Nat) : CoT × Int × List Nat := pCo' (pB e bs).1 (pB e bs).2.1 (pB e bs).2.2
structure ST (A A1 : AW) (fc fr : Nat) (v v' : AV) (e : Int) (bs : List Nat) (f2 f3 : Nat) (z cs : List AV) : Prop where
  st : PStep A A1 fc fr v v' e bs
  h2 : A1.heap.get f2 = some (.cells 0 false cs.length z)
  h3 : A1.heap.get f3 = some (.cells 0 false cs.length cs)
theorem ST.read {A A1 A2 : AW} {fc fr : Nat} {v v1 v2 : AV} {e e1 : Int} {bs b1 : List Nat} {f2 f3 : Nat} {z cs : List AV} (hlt : fc < A.nxt ∧ fr < A.nxt) (l2 : A.nxt ≤ f2) (l3 : A.nxt ≤ f3) (h : ST A A1 fc fr v v1 e bs f2 f3 z cs) (k : PStep A1 A2 fc fr v1 v2 e1 b1) :
    ST A A2 fc fr v v2 e1 b1 f2 f3 z cs := ⟨h.st.trans k, k.hold hlt h.h2 l2, k.hold hlt h.h3 l3⟩
theorem ST.put {A A1 : AW} {fc fr : Nat} {v v1 : AV} {e e0 : Int} {bs b0 : List Nat} {f2 f3 : Nat} {z cs cs' : List AV} (hw : Wf A) (h0 : PS A fc fr v e0 b0) (l3 : A.nxt ≤ f3) (n23 : f2 ≠ f3) (h : ST A A1 fc fr v v1 e bs f2 f3 z cs) (hl : cs.length = cs'.length) :
    ST A (A1.put f3 (.cells 0 false cs.length cs')) fc fr v v1 e bs f2 f3 z cs' := by
  have op := Only.put (x := .cells 0 false cs.length cs') h.st.only.wf (h.st.only.wf _ _ h.h3)
  refine ⟨h.st.fresh hw h0 op fun g hg => by cases hg; exact l3, ?_, ?_⟩
  · rw [← hl]
    exact op.keep _ _ h.h2 fun e => n23 e
  · rw [← hl, AW.put_get, if_pos rfl]
theorem ST.done {A A1 : AW} {fc fr : Nat} {v v1 : AV} {e e0 : Int} {bs b0 : List Nat} {f2 f3 : Nat} {z cs : List AV} {x : AFam} (hw : Wf A) (h0 : PS A fc fr v e0 b0) (l2 : A.nxt ≤ f2) (h : ST A A1 fc fr v v1 e bs f2 f3 z cs) :
    PStep A (A1.put f2 x) fc fr v v1 e bs := h.st.fresh hw h0 (Only.put h.st.only.wf (h.st.only.wf _ _ h.h2)) fun g hg => by cases hg; exact l2
theorem ST.made {A A1 A2 A3 : AW} {fc fr : Nat} {v v1 : AV} {e1 : Int} {b1 : List Nat} {f2 f3 : Nat} {z cs : List AV} (hlt : fc < A.nxt ∧ fr < A.nxt) (l2 : A.nxt ≤ f2) (o1 : Only A A1 none') (h2 : A1.heap.get f2 = some (.cells 0 false cs.length z)) (k : PStep A1 A2 fc fr v v1 e1 b1)
    (o3 : Only A2 A3 none') (h3 : A3.heap.get f3 = some (.cells 0 false cs.length cs)) : ST A A3 fc fr v v1 e1 b1 f2 f3 z cs :=
  ⟨(k.after o1).quiet o3, o3.keep _ _ (k.hold hlt h2 l2) fun h => h, h3⟩
set_option maxHeartbeats 4000000 in
theorem cconst_spec {K : FuncId} {A : AW} {fc fr : Nat} {v : AV} {e : Int} {bs : List Nat} (hw : Wf A) (h : PS A fc fr v e bs) :
    CallP (ES K) 18 [.ptr fc 0 0] A fun r A1 => r = .agg (coc (pCo e bs).1) ∧ ∃ v', PStep A A1 fc fr v v' (pCo e bs).2.1 (pCo e bs).2.2 := by
  refine call_of rfl rfl rfl ?_
  have hlt := h.lt hw
  repeat (first | refine qO ?_ | refine qA ?_)
  refine wo_alloc rfl rfl rfl ?_
  refine wo_A (fun A1 => Only A A1 none' ∧ A1.heap.get A.nxt = some (.cells 0 false 5 (coc zCo))) ⟨Only.add hw _, by rw [AW.add_get, if_pos rfl]; rfl⟩ ?_
  rintro A1 ⟨o1, h2⟩
  generalize hf2 : A.nxt = f2 at h2
  have l2 : A.nxt ≤ f2 := by omega
  repeat (first | refine qO ?_ | refine qA ?_ | refine qG ?_ | refine qJ rfl rfl ?_)
  refine qU rfl rfl orc_cons rfl (cbyte_spec o1.wf (h.keep o1)) ?_
  rintro r A2 ⟨rfl, v1, st1⟩
  have hb := pB_lt (h.keep o1)
  unfold pCo
  generalize pB e bs = b at hb st1
  obtain ⟨k, e1, b1⟩ := b
  have hb : k < 256 := hb
  have st1 : PStep A1 A2 fc fr v v1 e1 b1 := st1
  refine wo_conv rfl rfl rfl rfl (k : Int) (wrap_byte hb) ?_
  repeat refine wo_build rfl rfl rfl ?_
  refine wo_alloc rfl rfl rfl ?_
  refine qZ rfl rfl rfl rfl rfl rfl (by rw [AW.add_get, if_pos rfl]) rfl ?_
  refine wo_A (fun A3 => Only A2 A3 none' ∧ A3.heap.get A2.nxt = some (.cells 0 false 5 (coc ⟨(k : Int), 0, (0, 0), [], []⟩))) ⟨made st1.only.wf, by rw [AW.put_get, if_pos rfl]; rfl⟩ ?_
  rintro A3 ⟨o3, h3⟩
  have n23 : f2 ≠ A2.nxt := fun e => by
    have := st1.only.wf _ _ (st1.hold hlt h2 l2)
    omega
  have l3 := (st1.after o1).only.nxt
  generalize A2.nxt = f3 at h3 n23 l3
  have S : ST A A3 fc fr v v1 e1 b1 f2 f3 (coc zCo) (coc ⟨(k : Int), 0, (0, 0), [], []⟩) := ST.made hlt l2 o1 h2 st1 o3 h3
  have h3 := S.h3
  repeat (first | refine qO ?_ | refine qY ?_ | refine qA ?_ | refine qG ?_ | refine qE rfl rfl ?_ | refine qI rfl rfl rfl ?_ | refine qP rfl rfl rfl rfl (by assumption) rfl ?_ | refine xD rfl rfl rfl ?_)
  refine wg_cut (fun l1 A4 => (Kn.put 2 (.ptr f2 0 0) (.put 3 (.ptr f3 0 0) .nil)).le l1 ∧ ∃ v4, ST A A4 fc fr v v4 (pCo' k e1 b1).2.1 (pCo' k e1 b1).2.2 f2 f3 (coc zCo) (coc (pCo' k e1 b1).1)) (fun k' hk => ?_) ?_
  · skip
    refine qV rfl (fun c1 => ?_) fun c1 => ?_
    · have c1 : (k : Int) = 1 := c1
      have e0 : pCo' k e1 b1 = (⟨1, (pZ e1 b1).1, (0, 0), [], []⟩, (pZ e1 b1).2) := by unfold pCo'; rw [if_pos c1]
      have hc := S.st.ps.cell
      repeat (first | refine qA ?_ | refine qJ rfl rfl ?_ | refine qI rfl rfl rfl ?_ | refine qW rfl rfl ?_ | refine qP rfl rfl rfl rfl (by assumption) rfl ?_)
      refine wo_makeFunc rfl rfl rfl ?_
      refine qU rfl rfl orc_cons rfl (keep_of (AV.int .i64) 0 rdZ S.st.only.wf S.st.ps (fun he => keepL_no S.st.ps he) fun he => ?_) ?_
      · subst he
        exact keepL_ok S.st.ps orc_cons rfl ((rint_spec S.st.only.wf S.st.ps.rd).mono fun r A1 ⟨h1, h2⟩ => ⟨_, _, h1, rfl, rfl, h2⟩) fun x e1 A1 ⟨_, _, v', st⟩ => st.only.keep _ _ S.st.ps.cell fun e => S.st.ps.ne e
      rintro r A4 ⟨rfl, v2, st2⟩
      have S := S.read hlt l2 l3 st2
      repeat refine qI rfl rfl rfl ?_
      refine qZ rfl rfl rfl rfl rfl rfl S.h3 rfl ?_
      have S := S.put hw h l3 n23 (cs' := coc ⟨1, (pZ e1 b1).1, (0, 0), [], []⟩) rfl
      rw [c1]
      repeat refine qG ?_
      exact hk _ _ ⟨⟨rfl, rfl, trivial⟩, v2, by rw [e0]; exact S⟩
    have c1 : ¬ (k : Int) = 1 := c1
    repeat (first | refine qO ?_ | refine qA ?_ | refine qG ?_ | refine qE rfl rfl ?_ | refine xD rfl rfl rfl ?_)
    refine qV rfl (fun c2 => ?_) fun c2 => ?_
    · have c2 : (k : Int) = 2 := c2
      have e0 : pCo' k e1 b1 = (⟨2, 0, (pX e1 b1).1, [], []⟩, (pX e1 b1).2) := by unfold pCo'; rw [if_neg c1, if_pos c2]
      have hc := S.st.ps.cell
      repeat (first | refine qA ?_ | refine qJ rfl rfl ?_ | refine qI rfl rfl rfl ?_ | refine qW rfl rfl ?_ | refine qP rfl rfl rfl rfl (by assumption) rfl ?_)
      refine wo_makeFunc rfl rfl rfl ?_
      refine qU rfl rfl orc_cons rfl (keep_of cxv (0, 0) rdX S.st.only.wf S.st.ps (fun he => keepX_no S.st.ps he) fun he => ?_) ?_
      · subst he
        exact keepX_ok S.st.ps orc_cons rfl ((rcplx_spec S.st.only.wf S.st.ps.rd).mono fun r A1 ⟨h1, h2⟩ => ⟨_, _, h1, rfl, rfl, h2⟩) fun x e1 A1 ⟨_, _, v', st⟩ => st.only.keep _ _ S.st.ps.cell fun e => S.st.ps.ne e
      rintro r A4 ⟨rfl, v2, st2⟩
      have S := S.read hlt l2 l3 st2
      repeat refine qI rfl rfl rfl ?_
      refine qZ rfl rfl rfl rfl rfl rfl S.h3 rfl ?_
      have S := S.put hw h l3 n23 (cs' := coc ⟨2, 0, (pX e1 b1).1, [], []⟩) rfl
      rw [c2]
      repeat refine qG ?_
      exact hk _ _ ⟨⟨rfl, rfl, trivial⟩, v2, by rw [e0]; exact S⟩
    have c2 : ¬ (k : Int) = 2 := c2
    repeat (first | refine qO ?_ | refine qA ?_ | refine qG ?_ | refine qE rfl rfl ?_ | refine xD rfl rfl rfl ?_)
    refine qV rfl (fun c3 => ?_) fun c3 => ?_
    · have c3 : (k : Int) = 3 := c3
      have e0 : pCo' k e1 b1 = (⟨3, 0, (0, 0), (pT e1 b1).1, []⟩, (pT e1 b1).2) := by unfold pCo'; rw [if_neg c1, if_neg c2, if_pos c3]
      repeat (first | refine qA ?_ | refine qJ rfl rfl ?_)
      refine qU rfl rfl orc_cons rfl (ctext_spec S.st.only.wf S.st.ps) ?_
      rintro r A4 ⟨rfl, v2, st2⟩
      have S := S.read hlt l2 l3 st2
      repeat refine qI rfl rfl rfl ?_
      refine qZ rfl rfl rfl rfl rfl rfl S.h3 rfl ?_
      have S := S.put hw h l3 n23 (cs' := coc ⟨3, 0, (0, 0), (pT e1 b1).1, []⟩) rfl
      rw [c3]
      repeat refine qG ?_
      exact hk _ _ ⟨⟨rfl, rfl, trivial⟩, v2, by rw [e0]; exact S⟩
    have c3 : ¬ (k : Int) = 3 := c3
    repeat (first | refine qO ?_ | refine qA ?_ | refine qG ?_ | refine qE rfl rfl ?_ | refine xD rfl rfl rfl ?_)
    refine wg_cut (fun l1 A4 => (Kn.put 0 (.ptr fc 0 0) (.put 2 (.ptr f2 0 0) (.put 3 (.ptr f3 0 0) (.put 37 (.bool (decide ((k : Int) = 4 ∨ (k : Int) = 5))) .nil)))).le l1 ∧ A4 = A3) (fun k'' hk2 => ?_) ?_
    · refine qV rfl (fun c4 => ?_) fun c4 => ?_
      · have c4 : (k : Int) = 4 := c4
        repeat refine qS ?_
        exact hk2 _ _ ⟨⟨rfl, rfl, rfl, congrArg (fun x => some (AV.bool x)) (show decide _ = decide _ from decide_eq_decide.2 ⟨fun _ => .inl c4, fun _ => c4⟩), trivial⟩, rfl⟩
      · have c4 : ¬ (k : Int) = 4 := c4
        repeat (first | refine qA ?_ | refine qG ?_ | refine qE rfl rfl ?_ | refine xD rfl rfl rfl ?_)
        exact hk2 _ _ ⟨⟨rfl, rfl, rfl, congrArg (fun x => some (AV.bool x)) (show decide _ = decide _ from decide_eq_decide.2 ⟨.inr, fun h => h.resolve_left c4⟩), trivial⟩, rfl⟩
    rintro l1 A4 ⟨hl1, e4⟩
    subst e4
    refine wg_le _ ?_ hl1
    refine qV rfl (fun c4 => ?_) fun c4 => ?_
    · have e0 : pCo' k e1 b1 = (⟨(k : Int), 0, (0, 0), (pT e1 b1).1, (pT (pT e1 b1).2.1 (pT e1 b1).2.2).1⟩, (pT (pT e1 b1).2.1 (pT e1 b1).2.2).2) := by unfold pCo'; rw [if_neg c1, if_neg c2, if_neg c3, if_pos c4]
      repeat (first | refine qO ?_ | refine qA ?_ | refine qJ rfl rfl ?_)
      refine qU rfl rfl orc_cons rfl (ctext_spec S.st.only.wf S.st.ps) ?_
      rintro r A5 ⟨rfl, v2, st2⟩
      have S := S.read hlt l2 l3 st2
      repeat refine qI rfl rfl rfl ?_
      refine qZ rfl rfl rfl rfl rfl rfl S.h3 rfl ?_
      refine wo_A (fun A6 => ST A A6 fc fr v v2 (pT e1 b1).2.1 (pT e1 b1).2.2 f2 f3 (coc zCo) (coc ⟨(k : Int), 0, (0, 0), (pT e1 b1).1, []⟩)) (S.put hw h l3 n23 (cs' := coc ⟨(k : Int), 0, (0, 0), (pT e1 b1).1, []⟩) rfl) ?_
      intro A6 S
      repeat (first | refine qA ?_ | refine qG ?_ | refine qJ rfl rfl ?_)
      refine qU rfl rfl orc_cons rfl (ctext_spec S.st.only.wf S.st.ps) ?_
      rintro r A7 ⟨rfl, v3, st3⟩
      have S := S.read hlt l2 l3 st3
      repeat refine qI rfl rfl rfl ?_
      refine qZ rfl rfl rfl rfl rfl rfl S.h3 rfl ?_
      have S := S.put hw h l3 n23 (cs' := coc ⟨(k : Int), 0, (0, 0), (pT e1 b1).1, (pT (pT e1 b1).2.1 (pT e1 b1).2.2).1⟩) rfl
      repeat refine qG ?_
      exact hk _ _ ⟨⟨rfl, rfl, trivial⟩, v3, by rw [e0]; exact S⟩
    · have e0 : pCo' k e1 b1 = (⟨(k : Int), 0, (0, 0), [], []⟩, badE true 51 e1, b1) := by unfold pCo'; rw [if_neg c1, if_neg c2, if_neg c3, if_neg c4]
      repeat (first | refine qA ?_ | refine qJ rfl rfl ?_)
      refine qU rfl rfl orc_cons rfl (cbad_spec (is := true) S.st.only.wf S.st.ps) ?_
      rintro r A5 ⟨rfl, st2⟩
      have S := S.read hlt l2 l3 st2
      repeat refine qG ?_
      exact hk _ _ ⟨⟨rfl, rfl, trivial⟩, v1, by rw [e0]; exact S⟩
  rintro l1 A4 ⟨hl1, v4, S⟩
  refine wg_le _ ?_ hl1
  have h2 := S.h2
  have h3 := S.h3
  unfold coc at h3
  generalize pCo' k e1 b1 = y at h2 h3 S
  repeat (first | refine qO ?_ | refine xB ?_ | refine qA ?_)
  refine xG rfl rfl rfl rfl h3 rfl ?_
  refine qZ rfl rfl rfl rfl rfl rfl h2 rfl ?_
  repeat refine qG ?_
  refine wg_ret1 rfl rfl (loadN_eq rfl rfl (by rw [AW.put_get, if_pos rfl]) rfl) ?_
  exact ⟨rfl, v4, S.done hw h l2⟩
end Go.Proofs.YtiecclkgjcnaoaaGreat.Ae
