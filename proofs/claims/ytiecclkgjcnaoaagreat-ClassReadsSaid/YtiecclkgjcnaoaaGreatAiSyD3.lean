/-
  THE READER OF CLASSES, by the rules: keep, bad, byte, text, count, number.
  THE READER OF CLASSES, by the rules: byte, text, count, number, bad, kind.
-/
import Derived.Test.YtiecclkgjcnaoaaGreatAiSyD1
import Derived.Test.YtiecclkgjcnaoaaGreatAiSyW14
import Derived.Test.YtiecclkgjcnaoaaGreatAiSyC6
namespace Go.Proofs.YtiecclkgjcnaoaaGreat.Ae
open Go.AE
set_option linter.unusedVariables false
set_option maxRecDepth 100000
structure PS (A : AW) (fc fr : Nat) (v : AV) (e : Int) (bs : List Nat) : Prop where
  cell : A.heap.get fc = some (.cells 0 false 2 [.ptr fr 0 0, .int .i64 e])
  rd : Rd A fr v bs
  ne : fc ≠ fr
  nv : ¬ v.isFam fc
structure PStep (A A1 : AW) (fc fr : Nat) (v v' : AV) (e : Int) (bs : List Nat) : Prop where
  ps : PS A1 fc fr v' e bs
  only : Only A A1 (both (one fc) (one fr))
  sub : ∀ g, v'.isFam g → v.isFam g
theorem PStep.refl {A : AW} {fc fr : Nat} {v : AV} {e : Int} {bs : List Nat} (hw : Wf A) (h : PS A fc fr v e bs) : PStep A A fc fr v v e bs := ⟨h, Only.refl hw _, fun _ h => h⟩
theorem PStep.trans {A A1 A2 : AW} {fc fr : Nat} {v v1 v2 : AV} {e e1 : Int} {bs cs : List Nat} (h : PStep A A1 fc fr v v1 e bs) (k : PStep A1 A2 fc fr v1 v2 e1 cs) : PStep A A2 fc fr v v2 e1 cs :=
  ⟨k.ps, h.only.same k.only, fun g hg => h.sub g (k.sub g hg)⟩
theorem PS.keep {A A1 : AW} {fc fr : Nat} {v : AV} {e : Int} {bs : List Nat} (h : PS A fc fr v e bs) (o : Only A A1 none') : PS A1 fc fr v e bs :=
  ⟨o.keep _ _ h.cell fun h => h, h.rd.keep o fun _ _ h => h, h.ne, h.nv⟩
theorem PStep.quiet {A A1 A2 : AW} {fc fr : Nat} {v v' : AV} {e : Int} {bs : List Nat} (h : PStep A A1 fc fr v v' e bs) (o : Only A1 A2 none') : PStep A A2 fc fr v v' e bs :=
  ⟨h.ps.keep o, h.only.same (o.mono fun _ h => h.elim), h.sub⟩
theorem PStep.after {A A1 A2 : AW} {fc fr : Nat} {v v' : AV} {e : Int} {bs : List Nat} (o : Only A A1 none') (h : PStep A1 A2 fc fr v v' e bs) : PStep A A2 fc fr v v' e bs :=
  ⟨h.ps, (o.mono fun _ h => h.elim).same h.only, h.sub⟩
theorem PS.lt {A : AW} {fc fr : Nat} {v : AV} {e : Int} {bs : List Nat} (hw : Wf A) (h : PS A fc fr v e bs) : fc < A.nxt ∧ fr < A.nxt := ⟨hw _ _ h.cell, hw _ _ h.rd.cell⟩
theorem PStep.own {A A1 : AW} {fc fr : Nat} {v v' : AV} {e e' : Int} {bs cs : List Nat} (hw : Wf A) (h : PS A fc fr v e bs) (k : PStep A A1 fc fr v v' e' cs) {S : Nat → Prop} (hs : ∀ g, S g → A.nxt ≤ g) : Disj S (both (one fc) (one fr)) := fun g hg hb => by
  have := hs g hg
  obtain ⟨h1, h2⟩ := h.lt hw
  rcases hb with hb | hb <;> cases hb <;> omega
theorem PStep.of {A A1 : AW} {fc fr : Nat} {v v' : AV} {e e1 : Int} {bs cs : List Nat} (hw : Wf A) (h : PS A fc fr v e bs) (st : RStep A A1 fr v v' cs) : PStep A (A1.put fc (.cells 0 false 2 [.ptr fr 0 0, .int .i64 e1])) fc fr v v' e1 cs := by
  have c1 := st.only.keep _ _ h.cell fun e => h.ne e
  have op : Only A1 (A1.put fc (.cells 0 false 2 [.ptr fr 0 0, .int .i64 e1])) (one fc) := Only.put st.only.wf (st.only.wf _ _ c1)
  refine ⟨⟨by rw [AW.put_get, if_pos rfl], st.rd.keep op fun g hg e => ?_, h.ne, fun hg => h.nv (st.sub _ hg)⟩, (st.only.mono fun g hg => .inr hg).same (op.mono fun g hg => .inl hg), st.sub⟩
  cases e
  rcases hg with hg | hg
  · exact h.ne hg
  · exact h.nv (st.sub _ hg)
theorem PStep.err {A : AW} {fc fr : Nat} {v : AV} {e e1 : Int} {bs : List Nat} (hw : Wf A) (h : PS A fc fr v e bs) : PStep A (A.put fc (.cells 0 false 2 [.ptr fr 0 0, .int .i64 e1])) fc fr v v e1 bs :=
  PStep.of hw h (RStep.refl hw h.rd)
theorem keepB_no {K : FuncId} {A : AW} {fc fr : Nat} {v rd : AV} {e : Int} {bs : List Nat} (h : PS A fc fr v e bs) (he : e ≠ 0) : CallP (ES K) 55 [.ptr fc 0 0, rd] A fun r A1 => r = .int .u8 0 ∧ A1 = A := by
  refine call_of rfl rfl rfl ?_
  have hc := h.cell
  repeat (first | refine qO ?_ | refine qA ?_ | refine qG ?_ | refine qJ rfl rfl ?_ | refine qE rfl rfl ?_ | refine qI rfl rfl rfl ?_ | refine qW rfl rfl ?_ | refine qP rfl rfl rfl rfl (by assumption) rfl ?_ | refine xL rfl rfl rfl ?_)
  refine qV rfl (fun _ => ?_) fun h => absurd he h
  repeat (first | refine qO ?_ | refine qA ?_ | refine qG ?_ | refine qJ rfl rfl ?_ | refine qE rfl rfl ?_)
  exact qQ rfl ⟨rfl, rfl⟩
theorem keepB_ok {K : FuncId} {A : AW} {fc fr : Nat} {v : AV} {bs : List Nat} {g : FuncId} {first cap : List AV} {Q : AV → Int → AW → Prop} (h : PS A fc fr v 0 bs) (ho : (ES K).orc g (first ++ cap) = none) (hb : R.hasB (ES K) g = true)
    (hr : CallP (ES K) g (first ++ cap) A fun r A1 => ∃ x e1, r = .tuple [x, .int .i64 e1] ∧ Q x e1 A1) (hq : ∀ x e1 A1, Q x e1 A1 → A1.heap.get fc = some (.cells 0 false 2 [.ptr fr 0 0, .int .i64 0])) :
    CallP (ES K) 55 [.ptr fc 0 0, .func g first cap] A fun r A2 => ∃ e1 A1, Q r e1 A1 ∧ A2 = A1.put fc (.cells 0 false 2 [.ptr fr 0 0, .int .i64 e1]) := by
  refine call_of rfl rfl rfl ?_
  have hc := h.cell
  repeat (first | refine qO ?_ | refine qA ?_ | refine qG ?_ | refine qJ rfl rfl ?_ | refine qE rfl rfl ?_ | refine qI rfl rfl rfl ?_ | refine qW rfl rfl ?_ | refine qP rfl rfl rfl rfl (by assumption) rfl ?_ | refine xL rfl rfl rfl ?_)
  refine qV rfl (fun h => absurd rfl h) fun _ => ?_
  repeat (first | refine qO ?_ | refine qS ?_ | refine qA ?_ | refine qJ rfl rfl ?_)
  refine wo_callV (vs := []) (ws := first ++ cap) rfl rfl rfl (by rw [List.append_nil]) ho hb hr ?_
  rintro r A1 ⟨x, e1, rfl, q⟩
  have hc1 := hq _ _ _ q
  repeat (first | refine qJ rfl rfl ?_ | refine qE rfl rfl ?_ | refine qI rfl rfl rfl ?_ | refine qW rfl rfl ?_ | refine xK rfl rfl rfl ?_)
  refine qZ rfl rfl rfl rfl rfl rfl hc1 rfl ?_
  repeat (first | refine qO ?_ | refine qA ?_ | refine qG ?_ | refine qJ rfl rfl ?_ | refine qE rfl rfl ?_)
  exact qQ rfl ⟨e1, A1, q, rfl⟩
theorem keepS_no {K : FuncId} {A : AW} {fc fr : Nat} {v rd : AV} {e : Int} {bs : List Nat} (h : PS A fc fr v e bs) (he : e ≠ 0) : CallP (ES K) 57 [.ptr fc 0 0, rd] A fun r A1 => r = .str [] ∧ A1 = A := by
  refine call_of rfl rfl rfl ?_
  have hc := h.cell
  repeat (first | refine qO ?_ | refine qA ?_ | refine qG ?_ | refine qJ rfl rfl ?_ | refine qE rfl rfl ?_ | refine qI rfl rfl rfl ?_ | refine qW rfl rfl ?_ | refine qP rfl rfl rfl rfl (by assumption) rfl ?_ | refine xL rfl rfl rfl ?_)
  refine qV rfl (fun _ => ?_) fun h => absurd he h
  repeat (first | refine qO ?_ | refine qA ?_ | refine qG ?_ | refine qJ rfl rfl ?_ | refine qE rfl rfl ?_)
  exact qQ rfl ⟨rfl, rfl⟩
theorem keepS_ok {K : FuncId} {A : AW} {fc fr : Nat} {v : AV} {bs : List Nat} {g : FuncId} {first cap : List AV} {Q : AV → Int → AW → Prop} (h : PS A fc fr v 0 bs) (ho : (ES K).orc g (first ++ cap) = none) (hb : R.hasB (ES K) g = true)
    (hr : CallP (ES K) g (first ++ cap) A fun r A1 => ∃ x e1, r = .tuple [x, .int .i64 e1] ∧ Q x e1 A1) (hq : ∀ x e1 A1, Q x e1 A1 → A1.heap.get fc = some (.cells 0 false 2 [.ptr fr 0 0, .int .i64 0])) :
    CallP (ES K) 57 [.ptr fc 0 0, .func g first cap] A fun r A2 => ∃ e1 A1, Q r e1 A1 ∧ A2 = A1.put fc (.cells 0 false 2 [.ptr fr 0 0, .int .i64 e1]) := by
  refine call_of rfl rfl rfl ?_
  have hc := h.cell
  repeat (first | refine qO ?_ | refine qA ?_ | refine qG ?_ | refine qJ rfl rfl ?_ | refine qE rfl rfl ?_ | refine qI rfl rfl rfl ?_ | refine qW rfl rfl ?_ | refine qP rfl rfl rfl rfl (by assumption) rfl ?_ | refine xL rfl rfl rfl ?_)
  refine qV rfl (fun h => absurd rfl h) fun _ => ?_
  repeat (first | refine qO ?_ | refine qS ?_ | refine qA ?_ | refine qJ rfl rfl ?_)
  refine wo_callV (vs := []) (ws := first ++ cap) rfl rfl rfl (by rw [List.append_nil]) ho hb hr ?_
  rintro r A1 ⟨x, e1, rfl, q⟩
  have hc1 := hq _ _ _ q
  repeat (first | refine qJ rfl rfl ?_ | refine qE rfl rfl ?_ | refine qI rfl rfl rfl ?_ | refine qW rfl rfl ?_ | refine xK rfl rfl rfl ?_)
  refine qZ rfl rfl rfl rfl rfl rfl hc1 rfl ?_
  repeat (first | refine qO ?_ | refine qA ?_ | refine qG ?_ | refine qJ rfl rfl ?_ | refine qE rfl rfl ?_)
  exact qQ rfl ⟨e1, A1, q, rfl⟩
theorem keepL_no {K : FuncId} {A : AW} {fc fr : Nat} {v rd : AV} {e : Int} {bs : List Nat} (h : PS A fc fr v e bs) (he : e ≠ 0) : CallP (ES K) 61 [.ptr fc 0 0, rd] A fun r A1 => r = .int .i64 0 ∧ A1 = A := by
  refine call_of rfl rfl rfl ?_
  have hc := h.cell
  repeat (first | refine qO ?_ | refine qA ?_ | refine qG ?_ | refine qJ rfl rfl ?_ | refine qE rfl rfl ?_ | refine qI rfl rfl rfl ?_ | refine qW rfl rfl ?_ | refine qP rfl rfl rfl rfl (by assumption) rfl ?_ | refine xL rfl rfl rfl ?_)
  refine qV rfl (fun _ => ?_) fun h => absurd he h
  repeat (first | refine qO ?_ | refine qA ?_ | refine qG ?_ | refine qJ rfl rfl ?_ | refine qE rfl rfl ?_)
  exact qQ rfl ⟨rfl, rfl⟩
theorem keepL_ok {K : FuncId} {A : AW} {fc fr : Nat} {v : AV} {bs : List Nat} {g : FuncId} {first cap : List AV} {Q : AV → Int → AW → Prop} (h : PS A fc fr v 0 bs) (ho : (ES K).orc g (first ++ cap) = none) (hb : R.hasB (ES K) g = true)
    (hr : CallP (ES K) g (first ++ cap) A fun r A1 => ∃ x e1, r = .tuple [x, .int .i64 e1] ∧ Q x e1 A1) (hq : ∀ x e1 A1, Q x e1 A1 → A1.heap.get fc = some (.cells 0 false 2 [.ptr fr 0 0, .int .i64 0])) :
    CallP (ES K) 61 [.ptr fc 0 0, .func g first cap] A fun r A2 => ∃ e1 A1, Q r e1 A1 ∧ A2 = A1.put fc (.cells 0 false 2 [.ptr fr 0 0, .int .i64 e1]) := by
  refine call_of rfl rfl rfl ?_
  have hc := h.cell
  repeat (first | refine qO ?_ | refine qA ?_ | refine qG ?_ | refine qJ rfl rfl ?_ | refine qE rfl rfl ?_ | refine qI rfl rfl rfl ?_ | refine qW rfl rfl ?_ | refine qP rfl rfl rfl rfl (by assumption) rfl ?_ | refine xL rfl rfl rfl ?_)
  refine qV rfl (fun h => absurd rfl h) fun _ => ?_
  repeat (first | refine qO ?_ | refine qS ?_ | refine qA ?_ | refine qJ rfl rfl ?_)
  refine wo_callV (vs := []) (ws := first ++ cap) rfl rfl rfl (by rw [List.append_nil]) ho hb hr ?_
  rintro r A1 ⟨x, e1, rfl, q⟩
  have hc1 := hq _ _ _ q
  repeat (first | refine qJ rfl rfl ?_ | refine qE rfl rfl ?_ | refine qI rfl rfl rfl ?_ | refine qW rfl rfl ?_ | refine xK rfl rfl rfl ?_)
  refine qZ rfl rfl rfl rfl rfl rfl hc1 rfl ?_
  repeat (first | refine qO ?_ | refine qA ?_ | refine qG ?_ | refine qJ rfl rfl ?_ | refine qE rfl rfl ?_)
  exact qQ rfl ⟨e1, A1, q, rfl⟩
theorem keepX_no {K : FuncId} {A : AW} {fc fr : Nat} {v rd : AV} {e : Int} {bs : List Nat} (h : PS A fc fr v e bs) (he : e ≠ 0) : CallP (ES K) 63 [.ptr fc 0 0, rd] A fun r A1 => r = .cplx .f64 0 0 ∧ A1 = A := by
  refine call_of rfl rfl rfl ?_
  have hc := h.cell
  repeat (first | refine qO ?_ | refine qA ?_ | refine qG ?_ | refine qJ rfl rfl ?_ | refine qE rfl rfl ?_ | refine qI rfl rfl rfl ?_ | refine qW rfl rfl ?_ | refine qP rfl rfl rfl rfl (by assumption) rfl ?_ | refine xL rfl rfl rfl ?_)
  refine qV rfl (fun _ => ?_) fun h => absurd he h
  repeat (first | refine qO ?_ | refine qA ?_ | refine qG ?_ | refine qJ rfl rfl ?_ | refine qE rfl rfl ?_)
  exact qQ rfl ⟨rfl, rfl⟩
theorem keepX_ok {K : FuncId} {A : AW} {fc fr : Nat} {v : AV} {bs : List Nat} {g : FuncId} {first cap : List AV} {Q : AV → Int → AW → Prop} (h : PS A fc fr v 0 bs) (ho : (ES K).orc g (first ++ cap) = none) (hb : R.hasB (ES K) g = true)
    (hr : CallP (ES K) g (first ++ cap) A fun r A1 => ∃ x e1, r = .tuple [x, .int .i64 e1] ∧ Q x e1 A1) (hq : ∀ x e1 A1, Q x e1 A1 → A1.heap.get fc = some (.cells 0 false 2 [.ptr fr 0 0, .int .i64 0])) :
    CallP (ES K) 63 [.ptr fc 0 0, .func g first cap] A fun r A2 => ∃ e1 A1, Q r e1 A1 ∧ A2 = A1.put fc (.cells 0 false 2 [.ptr fr 0 0, .int .i64 e1]) := by
  refine call_of rfl rfl rfl ?_
  have hc := h.cell
  repeat (first | refine qO ?_ | refine qA ?_ | refine qG ?_ | refine qJ rfl rfl ?_ | refine qE rfl rfl ?_ | refine qI rfl rfl rfl ?_ | refine qW rfl rfl ?_ | refine qP rfl rfl rfl rfl (by assumption) rfl ?_ | refine xL rfl rfl rfl ?_)
  refine qV rfl (fun h => absurd rfl h) fun _ => ?_
  repeat (first | refine qO ?_ | refine qS ?_ | refine qA ?_ | refine qJ rfl rfl ?_)
  refine wo_callV (vs := []) (ws := first ++ cap) rfl rfl rfl (by rw [List.append_nil]) ho hb hr ?_
  rintro r A1 ⟨x, e1, rfl, q⟩
  have hc1 := hq _ _ _ q
  repeat (first | refine qJ rfl rfl ?_ | refine qE rfl rfl ?_ | refine qI rfl rfl rfl ?_ | refine qW rfl rfl ?_ | refine xK rfl rfl rfl ?_)
  refine qZ rfl rfl rfl rfl rfl rfl hc1 rfl ?_
  repeat (first | refine qO ?_ | refine qA ?_ | refine qG ?_ | refine qJ rfl rfl ?_ | refine qE rfl rfl ?_)
  exact qQ rfl ⟨e1, A1, q, rfl⟩
theorem keepN_no {K : FuncId} {A : AW} {fc fr : Nat} {v rd : AV} {e : Int} {bs : List Nat} (h : PS A fc fr v e bs) (he : e ≠ 0) : CallP (ES K) 100 [.ptr fc 0 0, rd] A fun r A1 => r = .int .i64 0 ∧ A1 = A := by
  refine call_of rfl rfl rfl ?_
  have hc := h.cell
  repeat (first | refine qO ?_ | refine qA ?_ | refine qG ?_ | refine qJ rfl rfl ?_ | refine qE rfl rfl ?_ | refine qI rfl rfl rfl ?_ | refine qW rfl rfl ?_ | refine qP rfl rfl rfl rfl (by assumption) rfl ?_ | refine xL rfl rfl rfl ?_)
  refine qV rfl (fun _ => ?_) fun h => absurd he h
  repeat (first | refine qO ?_ | refine qA ?_ | refine qG ?_ | refine qJ rfl rfl ?_ | refine qE rfl rfl ?_)
  exact qQ rfl ⟨rfl, rfl⟩
theorem keepN_ok {K : FuncId} {A : AW} {fc fr : Nat} {v : AV} {bs : List Nat} {g : FuncId} {first cap : List AV} {Q : AV → Int → AW → Prop} (h : PS A fc fr v 0 bs) (ho : (ES K).orc g (first ++ cap) = none) (hb : R.hasB (ES K) g = true)
    (hr : CallP (ES K) g (first ++ cap) A fun r A1 => ∃ x e1, r = .tuple [x, .int .i64 e1] ∧ Q x e1 A1) (hq : ∀ x e1 A1, Q x e1 A1 → A1.heap.get fc = some (.cells 0 false 2 [.ptr fr 0 0, .int .i64 0])) :
    CallP (ES K) 100 [.ptr fc 0 0, .func g first cap] A fun r A2 => ∃ e1 A1, Q r e1 A1 ∧ A2 = A1.put fc (.cells 0 false 2 [.ptr fr 0 0, .int .i64 e1]) := by
  refine call_of rfl rfl rfl ?_
  have hc := h.cell
  repeat (first | refine qO ?_ | refine qA ?_ | refine qG ?_ | refine qJ rfl rfl ?_ | refine qE rfl rfl ?_ | refine qI rfl rfl rfl ?_ | refine qW rfl rfl ?_ | refine qP rfl rfl rfl rfl (by assumption) rfl ?_ | refine xL rfl rfl rfl ?_)
  refine qV rfl (fun h => absurd rfl h) fun _ => ?_
  repeat (first | refine qO ?_ | refine qS ?_ | refine qA ?_ | refine qJ rfl rfl ?_)
  refine wo_callV (vs := []) (ws := first ++ cap) rfl rfl rfl (by rw [List.append_nil]) ho hb hr ?_
  rintro r A1 ⟨x, e1, rfl, q⟩
  have hc1 := hq _ _ _ q
  repeat (first | refine qJ rfl rfl ?_ | refine qE rfl rfl ?_ | refine qI rfl rfl rfl ?_ | refine qW rfl rfl ?_ | refine xK rfl rfl rfl ?_)
  refine qZ rfl rfl rfl rfl rfl rfl hc1 rfl ?_
  repeat (first | refine qO ?_ | refine qA ?_ | refine qG ?_ | refine qJ rfl rfl ?_ | refine qE rfl rfl ?_)
  exact qQ rfl ⟨e1, A1, q, rfl⟩
theorem keepI_no {K : FuncId} {A : AW} {fc fr : Nat} {v rd : AV} {e : Int} {bs : List Nat} (h : PS A fc fr v e bs) (he : e ≠ 0) : CallP (ES K) 105 [.ptr fc 0 0, rd] A fun r A1 => r = .nils ∧ A1 = A := by
  refine call_of rfl rfl rfl ?_
  have hc := h.cell
  repeat (first | refine qO ?_ | refine qA ?_ | refine qG ?_ | refine qJ rfl rfl ?_ | refine qE rfl rfl ?_ | refine qI rfl rfl rfl ?_ | refine qW rfl rfl ?_ | refine qP rfl rfl rfl rfl (by assumption) rfl ?_ | refine xL rfl rfl rfl ?_)
  refine qV rfl (fun _ => ?_) fun h => absurd he h
  repeat (first | refine qO ?_ | refine qA ?_ | refine qG ?_ | refine qJ rfl rfl ?_ | refine qE rfl rfl ?_)
  exact qQ rfl ⟨rfl, rfl⟩
theorem keepI_ok {K : FuncId} {A : AW} {fc fr : Nat} {v : AV} {bs : List Nat} {g : FuncId} {first cap : List AV} {Q : AV → Int → AW → Prop} (h : PS A fc fr v 0 bs) (ho : (ES K).orc g (first ++ cap) = none) (hb : R.hasB (ES K) g = true)
    (hr : CallP (ES K) g (first ++ cap) A fun r A1 => ∃ x e1, r = .tuple [x, .int .i64 e1] ∧ Q x e1 A1) (hq : ∀ x e1 A1, Q x e1 A1 → A1.heap.get fc = some (.cells 0 false 2 [.ptr fr 0 0, .int .i64 0])) :
    CallP (ES K) 105 [.ptr fc 0 0, .func g first cap] A fun r A2 => ∃ e1 A1, Q r e1 A1 ∧ A2 = A1.put fc (.cells 0 false 2 [.ptr fr 0 0, .int .i64 e1]) := by
  refine call_of rfl rfl rfl ?_
  have hc := h.cell
  repeat (first | refine qO ?_ | refine qA ?_ | refine qG ?_ | refine qJ rfl rfl ?_ | refine qE rfl rfl ?_ | refine qI rfl rfl rfl ?_ | refine qW rfl rfl ?_ | refine qP rfl rfl rfl rfl (by assumption) rfl ?_ | refine xL rfl rfl rfl ?_)
  refine qV rfl (fun h => absurd rfl h) fun _ => ?_
  repeat (first | refine qO ?_ | refine qS ?_ | refine qA ?_ | refine qJ rfl rfl ?_)
  refine wo_callV (vs := []) (ws := first ++ cap) rfl rfl rfl (by rw [List.append_nil]) ho hb hr ?_
  rintro r A1 ⟨x, e1, rfl, q⟩
  have hc1 := hq _ _ _ q
  repeat (first | refine qJ rfl rfl ?_ | refine qE rfl rfl ?_ | refine qI rfl rfl rfl ?_ | refine qW rfl rfl ?_ | refine xK rfl rfl rfl ?_)
  refine qZ rfl rfl rfl rfl rfl rfl hc1 rfl ?_
  repeat (first | refine qO ?_ | refine qA ?_ | refine qG ?_ | refine qJ rfl rfl ?_ | refine qE rfl rfl ?_)
  exact qQ rfl ⟨e1, A1, q, rfl⟩
end Go.Proofs.YtiecclkgjcnaoaaGreat.Ae
namespace Go.Proofs.YtiecclkgjcnaoaaGreat.Ae
open Go.AE
set_option linter.unusedVariables false
set_option maxRecDepth 100000
theorem Full.under' {A : AW} {es : Nat} {v : AV} {n : Nat} {cs : List AV} (hw : Wf A) (h : Full A es v n cs) : Under A v.isFam := h.row.under hw
theorem PStep.hold {A A1 : AW} {fc fr n : Nat} {v v' : AV} {e : Int} {bs : List Nat} (k : PStep A A1 fc fr v v' e bs) (h1 : fc < n ∧ fr < n) {g : Nat} {F : AFam} (hF : A.heap.get g = some F) (hg : n ≤ g) : A1.heap.get g = some F :=
  k.only.keep _ _ hF fun hb => by rcases hb with hb | hb <;> cases hb <;> omega
theorem PStep.fresh {A A1 A2 : AW} {fc fr : Nat} {v v' : AV} {e e0 : Int} {bs cs : List Nat} {T : Nat → Prop} (hw : Wf A) (h : PS A fc fr v e0 cs) (k : PStep A A1 fc fr v v' e bs) (o : Only A1 A2 T) (ht : ∀ g, T g → A.nxt ≤ g) : PStep A A2 fc fr v v' e bs := by
  obtain ⟨l1, l2⟩ := h.lt hw
  have nt : ∀ g, g < A.nxt → ¬ T g := fun g hg h => by
    have := ht g h
    omega
  have hv : ∀ g, v'.isFam g → ¬ T g := fun g hg => nt g (Full.under' hw h.rd.full g (k.sub g hg))
  refine ⟨⟨o.keep _ _ k.ps.cell (nt _ l1), k.ps.rd.keep o fun g hg => ?_, k.ps.ne, k.ps.nv⟩, ⟨o.wf, Nat.le_trans k.only.nxt o.nxt, fun g F hg hn => ?_⟩, k.sub⟩
  · rcases hg with hg | hg
    · cases hg
      exact nt _ l2
    · exact hv g hg
  · exact o.keep _ _ (k.only.keep _ _ hg hn) (nt g (hw g F hg))
def kp {α : Type} (z : α) (f : List Nat → α × Nat × Nat) (e : Int) (bs : List Nat) : α × Int × List Nat := if e ≠ 0 then (z, e, bs) else ((f bs).1, ((f bs).2.1 : Int), bs.drop (f bs).2.2)
theorem kp_no {α : Type} {z : α} {f : List Nat → α × Nat × Nat} {e : Int} {bs : List Nat} (h : e ≠ 0) : kp z f e bs = (z, e, bs) := if_pos h
theorem kp_ok {α : Type} {z : α} {f : List Nat → α × Nat × Nat} {bs : List Nat} : kp z f 0 bs = ((f bs).1, ((f bs).2.1 : Int), bs.drop (f bs).2.2) := if_neg fun h => h rfl
theorem keep_of {K g : FuncId} {args : List AV} {A : AW} {fc fr : Nat} {v : AV} {e : Int} {bs : List Nat} {α : Type} (c : α → AV) (z : α) (f : List Nat → α × Nat × Nat) (hw : Wf A) (h : PS A fc fr v e bs)
    (hno : e ≠ 0 → CallP (ES K) g args A fun r A1 => r = c z ∧ A1 = A)
    (hok : e = 0 → CallP (ES K) g args A fun r A2 => ∃ e' A1, (r = c (f bs).1 ∧ e' = ((f bs).2.1 : Int) ∧ ∃ v', RStep A A1 fr v v' (bs.drop (f bs).2.2)) ∧ A2 = A1.put fc (.cells 0 false 2 [.ptr fr 0 0, .int .i64 e'])) :
    CallP (ES K) g args A fun r A1 => r = c (kp z f e bs).1 ∧ ∃ v', PStep A A1 fc fr v v' (kp z f e bs).2.1 (kp z f e bs).2.2 := by
  by_cases he : e = 0
  · subst he
    rw [kp_ok]
    refine (hok rfl).mono ?_
    rintro r A2 ⟨e', A1, ⟨rfl, rfl, v', st⟩, rfl⟩
    exact ⟨rfl, v', PStep.of hw h st⟩
  · rw [kp_no he]
    refine (hno he).mono ?_
    rintro r A2 ⟨rfl, rfl⟩
    exact ⟨rfl, v, PStep.refl hw h⟩
def pB := kp 0 rdB
def pT := kp [] (rdT 20)
def pC (m : Int) := kp 0 (rdC m)
def rdZ (bs : List Nat) : Int × Nat × Nat := (unz (rdG bs 0 0).1, (rdG bs 0 0).2)
def pZ := kp 0 rdZ
def pX := kp (0, 0) rdX
def u8v (n : Nat) : AV := .int .u8 (n : Int)
def i64v (n : Nat) : AV := .int .i64 (n : Int)
def cxv (x : Nat × Nat) : AV := .cplx .f64 x.1 x.2
theorem cbyte_spec {K : FuncId} {A : AW} {fc fr : Nat} {v : AV} {e : Int} {bs : List Nat} (hw : Wf A) (h : PS A fc fr v e bs) :
    CallP (ES K) 15 [.ptr fc 0 0] A fun r A1 => r = .int .u8 ((pB e bs).1 : Int) ∧ ∃ v', PStep A A1 fc fr v v' (pB e bs).2.1 (pB e bs).2.2 := by
  refine call_of rfl rfl rfl ?_
  have hc := h.cell
  repeat (first | refine qO ?_ | refine qA ?_ | refine qG ?_ | refine qJ rfl rfl ?_ | refine qE rfl rfl ?_ | refine qI rfl rfl rfl ?_ | refine qW rfl rfl ?_ | refine qP rfl rfl rfl rfl (by assumption) rfl ?_)
  refine wo_makeFunc rfl rfl rfl ?_
  refine qU rfl rfl orc_cons rfl (keep_of u8v 0 rdB hw h (fun he => keepB_no h he) fun he => ?_) ?_
  · subst he
    exact keepB_ok h orc_cons rfl ((rbyte_spec hw h.rd).mono fun r A1 ⟨h1, h2⟩ => ⟨_, _, h1, rfl, rfl, h2⟩) fun x e1 A1 ⟨_, _, v', st⟩ => st.only.keep _ _ h.cell fun e => h.ne e
  rintro r A1 ⟨rfl, v', st⟩
  repeat (first | refine qG ?_ | refine qE rfl rfl ?_)
  exact qQ rfl ⟨rfl, v', st⟩
theorem ctext_spec {K : FuncId} {A : AW} {fc fr : Nat} {v : AV} {e : Int} {bs : List Nat} (hw : Wf A) (h : PS A fc fr v e bs) :
    CallP (ES K) 16 [.ptr fc 0 0] A fun r A1 => r = .str (pT e bs).1 ∧ ∃ v', PStep A A1 fc fr v v' (pT e bs).2.1 (pT e bs).2.2 := by
  refine call_of rfl rfl rfl ?_
  repeat (first | refine qO ?_ | refine qA ?_)
  refine wo_box rfl rfl rfl rfl ?_
  refine wo_A (fun A1 => Only A A1 none' ∧ A1.heap.get A.nxt = some (.cells 0 false 1 [.ptr fc 0 0])) ⟨Only.add hw _, by rw [AW.add_get, if_pos rfl]; rfl⟩ ?_
  rintro A1 ⟨o1, hb⟩
  have n1 : A.nxt ≠ fr := fun e => by have := (h.lt hw).2; omega
  generalize A.nxt = fb at hb n1
  have h1 := h.keep o1
  repeat (first | refine qO ?_ | refine qA ?_ | refine qG ?_ | refine qE rfl rfl ?_ | refine qP rfl rfl rfl rfl (by assumption) rfl ?_)
  refine wo_makeFunc rfl rfl rfl ?_
  refine qU rfl rfl orc_cons rfl (keep_of AV.str [] (rdT 20) o1.wf h1 (fun he => keepS_no h1 he) fun he => ?_) ?_
  · subst he
    refine keepS_ok h1 orc_cons rfl (Q := fun x e' A2 => x = .str (rdT 20 bs).1 ∧ e' = ((rdT 20 bs).2.1 : Int) ∧ ∃ v', RStep A1 A2 fr v v' (bs.drop (rdT 20 bs).2.2)) ?_ fun x e1 A1 ⟨_, _, v', st⟩ => st.only.keep _ _ h1.cell fun e => h1.ne e
    refine call_of rfl rfl rfl ?_
    have hc := h1.cell
    repeat (first | refine qO ?_ | refine qA ?_ | refine qG ?_ | refine qE rfl rfl ?_ | refine qI rfl rfl rfl ?_ | refine qW rfl rfl ?_ | refine qP rfl rfl rfl rfl (by assumption) rfl ?_)
    refine qU rfl rfl orc_cons rfl (rtext_spec o1.wf h1.rd (by decide) (by decide)) ?_
    rintro r A2 ⟨rfl, h2⟩
    repeat (first | refine qG ?_ | refine qE rfl rfl ?_ | refine xK rfl rfl rfl ?_)
    exact qQ rfl ⟨_, _, rfl, rfl, rfl, h2⟩
  rintro r A2 ⟨rfl, v', st⟩
  repeat (first | refine qG ?_ | refine qE rfl rfl ?_)
  exact qQ rfl ⟨rfl, v', st.after o1⟩
theorem ccount_spec {K : FuncId} {A : AW} {fc fr : Nat} {v : AV} {e m : Int} {bs : List Nat} (hw : Wf A) (h : PS A fc fr v e bs) (m1 : -9223372036854775808 ≤ m) (m2 : m < 9223372036854775808) :
    CallP (ES K) 60 [.ptr fc 0 0, .int .i64 m] A fun r A1 => r = .int .i64 ((pC m e bs).1 : Int) ∧ ∃ v', PStep A A1 fc fr v v' (pC m e bs).2.1 (pC m e bs).2.2 := by
  refine call_of rfl rfl rfl ?_
  repeat (first | refine qO ?_ | refine qA ?_)
  refine wo_box rfl rfl rfl rfl ?_
  refine wo_A (fun A1 => Only A A1 none' ∧ A1.heap.get A.nxt = some (.cells 0 false 1 [.ptr fc 0 0])) ⟨Only.add hw _, by rw [AW.add_get, if_pos rfl]; rfl⟩ ?_
  rintro A1 ⟨o1, hb⟩
  generalize A.nxt = fb at hb
  refine wo_box rfl rfl rfl rfl ?_
  refine wo_A (fun A2 => Only A1 A2 none' ∧ A2.heap.get A1.nxt = some (.cells 0 false 1 [.int .i64 m])) ⟨Only.add o1.wf _, by rw [AW.add_get, if_pos rfl]; rfl⟩ ?_
  rintro A2 ⟨o2, hm⟩
  generalize A1.nxt = fm at hm
  have hb := o2.keep _ _ hb fun h => h
  have o12 := o1.same o2
  have h1 := h.keep o12
  repeat (first | refine qO ?_ | refine qA ?_ | refine qG ?_ | refine qE rfl rfl ?_ | refine qP rfl rfl rfl rfl (by assumption) rfl ?_)
  refine wo_makeFunc rfl rfl rfl ?_
  refine qU rfl rfl orc_cons rfl (keep_of i64v 0 (rdC m) o12.wf h1 (fun he => keepN_no h1 he) fun he => ?_) ?_
  · subst he
    refine keepN_ok h1 orc_cons rfl (Q := fun x e' A3 => x = i64v (rdC m bs).1 ∧ e' = ((rdC m bs).2.1 : Int) ∧ ∃ v', RStep A2 A3 fr v v' (bs.drop (rdC m bs).2.2)) ?_ fun x e1 A1 ⟨_, _, v', st⟩ => st.only.keep _ _ h1.cell fun e => h1.ne e
    refine call_of rfl rfl rfl ?_
    have hc := h1.cell
    repeat (first | refine qO ?_ | refine qA ?_ | refine qG ?_ | refine qE rfl rfl ?_)
    refine wg_draw rfl ?_
    repeat (first
      | (refine xC rfl rfl rfl rfl rfl ?_
         repeat (first | refine qG ?_ | refine qI rfl rfl rfl ?_ | refine qW rfl rfl ?_)
         refine ⟨rfl, ?_⟩)
      | (refine xI rfl rfl rfl rfl rfl rfl rfl ?_
         repeat (first | refine qG ?_ | refine qP rfl rfl rfl rfl (by assumption) rfl ?_)
         refine ⟨rfl, _, rfl, ?_⟩))
    refine wd_act rfl rfl rfl ?_
    refine qU rfl rfl orc_cons rfl (rCount_spec o12.wf h1.rd m1 m2) ?_
    rintro r A3 ⟨rfl, h2⟩
    repeat refine qG ?_
    refine ⟨⟨.inl (by show bit 31 4 = true; rfl), .inl (by show bit 31 3 = true; rfl), .inl (by show bit 31 0 = true; rfl), trivial⟩, ?_⟩
    repeat (first
      | (refine xC rfl rfl rfl rfl rfl ?_
         repeat (first | refine qG ?_ | refine xK rfl rfl rfl ?_)
         refine ⟨rfl, ?_⟩))
    refine wd_act rfl rfl rfl ?_
    repeat (first | refine qG ?_ | refine qE rfl rfl ?_)
    refine ⟨⟨.inl (by show bit 255 4 = true; rfl), .inl (by show bit 255 3 = true; rfl), .inl (by show bit 255 0 = true; rfl), trivial⟩, ?_⟩
    refine wd_act rfl rfl rfl ?_
    repeat (first | refine qG ?_ | refine qE rfl rfl ?_)
    refine ⟨⟨.inl (by show bit 511 4 = true; rfl), .inl (by show bit 511 3 = true; rfl), .inl (by show bit 511 0 = true; rfl), trivial⟩, wd_nil ?_⟩
    exact qQ rfl ⟨_, _, rfl, rfl, rfl, h2⟩
  rintro r A3 ⟨rfl, v', st⟩
  repeat (first | refine qG ?_ | refine qE rfl rfl ?_)
  exact qQ rfl ⟨rfl, v', st.after o12⟩
theorem cnumber_spec {K : FuncId} {A : AW} {fc fr : Nat} {v : AV} {e : Int} {bs : List Nat} (hw : Wf A) (h : PS A fc fr v e bs) :
    CallP (ES K) 67 [.ptr fc 0 0] A fun r A1 => r = .int .i64 ((pC 1048576 e bs).1 : Int) ∧ ∃ v', PStep A A1 fc fr v v' (pC 1048576 e bs).2.1 (pC 1048576 e bs).2.2 := by
  refine call_of rfl rfl rfl ?_
  repeat (first | refine qO ?_ | refine qA ?_ | refine qG ?_ | refine qJ rfl rfl ?_ | refine qE rfl rfl ?_)
  refine qU rfl rfl orc_cons rfl (ccount_spec hw h (by decide) (by decide)) ?_
  rintro r A1 ⟨rfl, v', st⟩
  repeat (first | refine qG ?_ | refine qE rfl rfl ?_)
  exact qQ rfl ⟨rfl, v', st⟩
def badE (is : Bool) (x e : Int) : Int := if is = true ∧ e = 0 then x else e
theorem cbad_spec {K : FuncId} {A : AW} {fc fr : Nat} {v : AV} {e x : Int} {is : Bool} {bs : List Nat} (hw : Wf A) (h : PS A fc fr v e bs) :
    CallP (ES K) 14 [.ptr fc 0 0, .bool is, .int .i64 x] A fun r A1 => r = .tuple [] ∧ PStep A A1 fc fr v v (badE is x e) bs := by
  refine call_of rfl rfl rfl ?_
  have hc := h.cell
  unfold badE
  cases is with
  | false =>
    rw [if_neg (fun h => by cases h.1)]
    repeat (first | refine qO ?_ | refine qA ?_ | refine qG ?_ | refine qJ rfl rfl ?_ | refine qR rfl rfl rfl ?_ | refine xE rfl rfl ?_)
    refine wg_false rfl ?_
    repeat refine qS ?_
    exact wg_nil rfl ⟨rfl, PStep.refl hw h⟩
  | true =>
    repeat (first | refine qO ?_ | refine qA ?_ | refine qG ?_ | refine qJ rfl rfl ?_ | refine qI rfl rfl rfl ?_ | refine qW rfl rfl ?_ | refine qP rfl rfl rfl rfl (by assumption) rfl ?_ | refine xD rfl rfl rfl ?_ | refine qR rfl rfl rfl ?_ | refine qX rfl ?_)
    refine qV rfl (fun he => ?_) fun he => ?_
    · have he : e = 0 := he
      rw [if_pos ⟨rfl, he⟩]
      repeat (first | refine qA ?_ | refine qJ rfl rfl ?_ | refine qI rfl rfl rfl ?_ | refine qW rfl rfl ?_)
      refine qZ rfl rfl rfl rfl rfl rfl hc rfl ?_
      repeat refine qG ?_
      exact wg_nil rfl ⟨rfl, PStep.err hw h⟩
    · have he : ¬ e = 0 := he
      rw [if_neg fun h => he h.2]
      repeat refine qS ?_
      exact wg_nil rfl ⟨rfl, PStep.refl hw h⟩
end Go.Proofs.YtiecclkgjcnaoaaGreat.Ae
