/-
  TYPES, by the rules: refers, real, Fits, Merge.
-/
import Derived.Test.YtokieeiohfcgdaaAiSyT3
namespace Go.Proofs.Ytokieeiohfcgdaa.Ae
open Go.AE
set_option linter.unusedVariables false
set_option maxRecDepth 100000

section
variable {E : Env} {C : FnE} {l : Kn} {A : AW} {R : AV → AW → Prop} {k : List Item}
theorem loadN_eq {t : TypeId} {f s o : Nat} {dt : ATy} {ro : Bool} {es : Nat} {cs vs : List AV} (ht : E.tys.get t = some dt) (hg : dt.agg = true) (hf : A.heap.get f = some (.cells s ro es cs)) (hn : takeN dt.size (dropN o cs) = some vs) :
    loadA E t (.ptr f s o) A = .val (.agg vs) A := by
  simp only [loadA, ht, hg, cond_true, readCells, hf, Nat.beq_refl, cond_true, hn]
/-- One result, read from its cell. -/
theorem wg_ret1 {c : Nat} {t : TypeId} {p v : AV} {A1 : AW} (hc : C.fn.results.toList = [.cell c t]) (h1 : l.find c = some p) (hl : loadA E t p A = .val v A1) (h : R v A) : WG E C (.code .ret :: k) l A R := ⟨fun F hF => by
  have hr : resultsOf E F A C.fn.results.toList = some [v] := by
    rw [hc]
    simp only [resultsOf, resultOne, hF.get c p h1, hl]
  exact ⟨F, A, _, out_of hr, h, 1, fun n hn => by
    obtain ⟨m, rfl⟩ : ∃ m, n = m + 1 := ⟨n - 1, by omega⟩
    rfl⟩⟩
end
def refersT (x : Ty') : Prop := x.1 = 3 ∨ x.1 = 4
instance (x : Ty') : Decidable (refersT x) := by unfold refersT; exact inferInstance
def realT (hs : Hs) (x : Ty') : Prop := if x.1 = 4 then has hs x.2 = true else x.2 = [] ∧ 1 ≤ x.1 ∧ x.1 ≤ 5
instance (hs : Hs) (x : Ty') : Decidable (realT hs x) := by unfold realT; exact inferInstance
def fitsT (hs : Hs) (a b : Ty') : Prop := if b.1 = 6 then True else if a.1 = 5 then b.1 = 5 ∨ b.1 = 3 ∨ b.1 = 4 else if a.1 = 4 ∧ b.1 = 4 then sub hs a.2 b.2 = true else a.1 = b.1 ∧ 1 ≤ a.1 ∧ a.1 ≤ 3
instance (hs : Hs) (a b : Ty') : Decidable (fitsT hs a b) := by unfold fitsT; exact inferInstance
def mergeT (hs : Hs) (a b : Ty') : Ty' := if a = b then a else if a.1 = 5 ∧ refersT b then b else if b.1 = 5 ∧ refersT a then a else if a.1 ≠ 4 ∨ b.1 ≠ 4 then (6, []) else if com hs a.2 b.2 ≠ [] then (4, com hs a.2 b.2) else (6, [])

theorem refers_spec {K : FuncId} {A : AW} {x : Ty'} (hw : Wf A) : CallP (ES K) 57 [tv x] A fun r A1 => r = .bool (decide (refersT x)) ∧ Only A A1 none' := by
  obtain ⟨a, s⟩ := x
  refine call_of rfl rfl rfl ?_
  unfold tv
  repeat (first | refine wg_seq ?_ | refine wg_region ?_)
  refine wo_box rfl rfl rfl rfl ?_
  refine wo_A (fun A1 => Only A A1 none' ∧ A1.heap.get A.nxt = some (.cells 0 false 2 [.int .i64 a, .str s])) ⟨Only.add hw _, by rw [AW.add_get, if_pos rfl]; rfl⟩ ?_
  rintro A1 ⟨o1, hx⟩
  generalize A.nxt = fx at hx
  repeat (first | refine wg_seq ?_ | refine wg_region ?_ | refine wo_nil ?_ | refine wo_move rfl rfl ?_ | refine wo_assign rfl rfl ?_ | refine wo_fieldAddr rfl rfl rfl ?_ | refine wo_load rfl rfl rfl rfl (by assumption) rfl ?_ | refine wo_eql rfl rfl rfl ?_)
  by_cases h3 : a = 3
  · refine wo_is 6 true rfl (decide_eq_true h3) ?_
    repeat (first | refine wo_nil ?_ | refine wo_assign rfl rfl ?_ | refine wo_pick rfl rfl rfl ?_ | refine wo_off rfl rfl ?_)
    exact wg_ret rfl ⟨congrArg AV.bool (decide_eq_true (.inl h3)).symm, o1⟩
  · refine wo_is 6 false rfl (decide_eq_false h3) ?_
    repeat (first | refine wo_nil ?_ | refine wo_assign rfl rfl ?_ | refine wo_fieldAddr rfl rfl rfl ?_ | refine wo_load rfl rfl rfl rfl (by assumption) rfl ?_ | refine wo_eql rfl rfl rfl ?_ | refine wo_pick rfl rfl rfl ?_ | refine wo_on rfl ?_)
    exact wg_ret rfl ⟨congrArg AV.bool (decide_eq_decide.2 ⟨.inr, fun h => h.resolve_left h3⟩), o1⟩
theorem real_spec {K : FuncId} {A : AW} {fr fm : Nat} {vn : AV} {hs : Hs} {x : Ty'} (hw : Wf A) (h : Hi A fr fm vn hs) : CallP (ES K) 23 [.ptr fr 0 0, tv x] A fun r A1 => r = .bool (decide (realT hs x)) ∧ Only A A1 none' := by
  obtain ⟨a, s⟩ := x
  refine call_of rfl rfl rfl ?_
  unfold tv
  repeat (first | refine wg_seq ?_ | refine wg_region ?_)
  refine wo_box rfl rfl rfl rfl ?_
  refine wo_A (fun A1 => Only A A1 none' ∧ A1.heap.get A.nxt = some (.cells 0 false 2 [.int .i64 a, .str s])) ⟨Only.add hw _, by rw [AW.add_get, if_pos rfl]; rfl⟩ ?_
  rintro A1 ⟨o1, hx⟩
  generalize A.nxt = fx at hx
  repeat (first | refine wg_seq ?_ | refine wg_region ?_ | refine wo_nil ?_ | refine wo_assign rfl rfl ?_ | refine wo_fieldAddr rfl rfl rfl ?_ | refine wo_load rfl rfl rfl rfl (by assumption) rfl ?_ | refine wo_eql rfl rfl rfl ?_)
  refine wg_dec rfl (fun h4 => ?_) fun h4 => ?_
  · have h4 : a = 4 := h4
    repeat (first | refine wg_seq ?_ | refine wg_region ?_ | refine wo_move rfl rfl ?_ | refine wo_fieldAddr rfl rfl rfl ?_ | refine wo_load rfl rfl rfl rfl (by assumption) rfl ?_)
    refine wo_call rfl rfl orc_cons rfl (has_spec (h.keep o1)) ?_
    rintro r A2 ⟨rfl, rfl⟩
    repeat (first | refine wo_nil ?_ | refine wo_assign rfl rfl ?_)
    refine wg_ret rfl ⟨congrArg AV.bool ?_, o1⟩
    have e : realT hs (a, s) ↔ has hs s = true := by
      unfold realT
      rw [if_pos h4]
    cases hb : has hs s
    · exact (decide_eq_false fun h => by rw [e.1 h] at hb; cases hb).symm
    · exact (decide_eq_true (e.2 hb)).symm
  · have h4 : ¬ a = 4 := h4
    have e : realT hs (a, s) ↔ s = [] ∧ 1 ≤ a ∧ a ≤ 5 := by
      unfold realT
      rw [if_neg h4]
    repeat (first | refine wg_seq ?_ | refine wg_skip ?_ | refine wg_region ?_ | refine wo_move rfl rfl ?_ | refine wo_fieldAddr rfl rfl rfl ?_ | refine wo_load rfl rfl rfl rfl (by assumption) rfl ?_ | refine wo_strEq rfl rfl rfl ?_)
    by_cases c1 : s = []
    · refine wo_is 15 true rfl (decide_eq_true c1) ?_
      repeat (first | refine wo_move rfl rfl ?_ | refine wo_fieldAddr rfl rfl rfl ?_ | refine wo_load rfl rfl rfl rfl (by assumption) rfl ?_ | refine wo_geq rfl rfl rfl ?_ | refine wo_pick rfl rfl rfl ?_ | refine wo_on rfl ?_)
      by_cases c2 : 1 ≤ a
      · refine wo_is 20 true rfl (decide_eq_true c2) ?_
        repeat (first | refine wo_nil ?_ | refine wo_assign rfl rfl ?_ | refine wo_fieldAddr rfl rfl rfl ?_ | refine wo_load rfl rfl rfl rfl (by assumption) rfl ?_ | refine wo_leq rfl rfl rfl ?_ | refine wo_pick rfl rfl rfl ?_ | refine wo_on rfl ?_)
        exact wg_ret rfl ⟨congrArg AV.bool (decide_eq_decide.2 ⟨fun h => e.2 ⟨c1, c2, h⟩, fun h => (e.1 h).2.2⟩), o1⟩
      · refine wo_is 20 false rfl (decide_eq_false c2) ?_
        repeat (first | refine wo_nil ?_ | refine wo_assign rfl rfl ?_ | refine wo_pick rfl rfl rfl ?_ | refine wo_off rfl rfl ?_)
        exact wg_ret rfl ⟨congrArg AV.bool (decide_eq_false fun h => c2 (e.1 h).2.1).symm, o1⟩
    · refine wo_is 15 false rfl (decide_eq_false c1) ?_
      repeat (first | refine wo_nil ?_ | refine wo_move rfl rfl ?_ | refine wo_assign rfl rfl ?_ | refine wo_pick rfl rfl rfl ?_ | refine wo_off rfl rfl ?_)
      exact wg_ret rfl ⟨congrArg AV.bool (decide_eq_false fun h => c1 (e.1 h).1).symm, o1⟩
theorem fits_spec {K : FuncId} {A : AW} {fr fm : Nat} {vn : AV} {hs : Hs} {x y : Ty'} (hw : Wf A) (h : Hi A fr fm vn hs) (hg : Good hs) (hn : hs.length ≤ 100) :
    CallP (ES K) 20 [.ptr fr 0 0, tv x, tv y] A fun r A1 => r = .bool (decide (fitsT hs x y)) ∧ Only A A1 none' := by
  obtain ⟨a, s⟩ := x
  obtain ⟨b, t⟩ := y
  refine call_of rfl rfl rfl ?_
  unfold tv
  repeat (first | refine wg_seq ?_ | refine wg_region ?_)
  refine wo_box rfl rfl rfl rfl ?_
  refine wo_A (fun A1 => Only A A1 none' ∧ A1.heap.get A.nxt = some (.cells 0 false 2 [.int .i64 a, .str s])) ⟨Only.add hw _, by rw [AW.add_get, if_pos rfl]; rfl⟩ ?_
  rintro A1 ⟨o1, hx⟩
  generalize A.nxt = fx at hx
  refine wo_box rfl rfl rfl rfl ?_
  refine wo_A (fun A2 => Only A1 A2 none' ∧ A2.heap.get A1.nxt = some (.cells 0 false 2 [.int .i64 b, .str t])) ⟨Only.add o1.wf _, by rw [AW.add_get, if_pos rfl]; rfl⟩ ?_
  rintro A2 ⟨o2, hy⟩
  generalize A1.nxt = fy at hy
  have hx := o2.keep _ _ hx fun h => h
  have o12 := o1.same o2
  repeat (first | refine wg_seq ?_ | refine wg_block ?_ | refine wg_region ?_ | refine wo_nil ?_ | refine wo_assign rfl rfl ?_ | refine wo_fieldAddr rfl rfl rfl ?_ | refine wo_load rfl rfl rfl rfl (by assumption) rfl ?_ | refine wo_eql rfl rfl rfl ?_)
  refine wg_dec rfl (fun h6 => ?_) fun h6 => ?_
  · have h6 : b = 6 := h6
    have e : fitsT hs (a, s) (b, t) := by
      unfold fitsT
      rw [if_pos h6]
      trivial
    repeat (first | refine wg_seq ?_ | refine wg_region ?_ | refine wo_nil ?_ | refine wo_assign rfl rfl ?_)
    exact wg_ret rfl ⟨congrArg AV.bool (decide_eq_true e).symm, o12⟩
  have h6 : ¬ b = 6 := h6
  repeat (first | refine wg_seq ?_ | refine wg_region ?_ | refine wo_nil ?_ | refine wo_assign rfl rfl ?_ | refine wo_fieldAddr rfl rfl rfl ?_ | refine wo_load rfl rfl rfl rfl (by assumption) rfl ?_ | refine wo_eql rfl rfl rfl ?_)
  refine wg_dec rfl (fun h5 => ?_) fun h5 => ?_
  · have h5 : a = 5 := h5
    have e : fitsT hs (a, s) (b, t) ↔ b = 5 ∨ b = 3 ∨ b = 4 := by
      unfold fitsT
      rw [if_neg h6, if_pos h5]
    repeat (first | refine wg_seq ?_ | refine wg_region ?_ | refine wo_move rfl rfl ?_ | refine wo_fieldAddr rfl rfl rfl ?_ | refine wo_load rfl rfl rfl rfl (by assumption) rfl ?_ | refine wo_eql rfl rfl rfl ?_)
    by_cases c1 : b = 5
    · refine wo_is 18 true rfl (decide_eq_true c1) ?_
      repeat (first | refine wo_nil ?_ | refine wo_move rfl rfl ?_ | refine wo_assign rfl rfl ?_ | refine wo_pick rfl rfl rfl ?_ | refine wo_off rfl rfl ?_)
      exact wg_ret rfl ⟨congrArg AV.bool (decide_eq_true (e.2 (.inl c1))).symm, o12⟩
    · refine wo_is 18 false rfl (decide_eq_false c1) ?_
      repeat (first | refine wo_move rfl rfl ?_ | refine wo_fieldAddr rfl rfl rfl ?_ | refine wo_load rfl rfl rfl rfl (by assumption) rfl ?_ | refine wo_eql rfl rfl rfl ?_ | refine wo_pick rfl rfl rfl ?_ | refine wo_on rfl ?_)
      by_cases c2 : b = 3
      · refine wo_is 23 true rfl (decide_eq_true c2) ?_
        repeat (first | refine wo_nil ?_ | refine wo_assign rfl rfl ?_ | refine wo_pick rfl rfl rfl ?_ | refine wo_off rfl rfl ?_)
        exact wg_ret rfl ⟨congrArg AV.bool (decide_eq_true (e.2 (.inr (.inl c2)))).symm, o12⟩
      · refine wo_is 23 false rfl (decide_eq_false c2) ?_
        repeat (first | refine wo_nil ?_ | refine wo_assign rfl rfl ?_ | refine wo_fieldAddr rfl rfl rfl ?_ | refine wo_load rfl rfl rfl rfl (by assumption) rfl ?_ | refine wo_eql rfl rfl rfl ?_ | refine wo_pick rfl rfl rfl ?_ | refine wo_on rfl ?_)
        exact wg_ret rfl ⟨congrArg AV.bool (decide_eq_decide.2 ⟨fun h => e.2 (.inr (.inr h)), fun h => ((e.1 h).resolve_left c1).resolve_left c2⟩), o12⟩
  have h5 : ¬ a = 5 := h5
  repeat refine wg_seq ?_
  refine wg_regionTo (.put 0 (.ptr fr 0 0) (.put 4 (.ptr fx 0 0) (.put 5 (.ptr fy 0 0) (.put 28 (.bool (decide (a = 4 ∧ b = 4))) .nil)))) ?_ ?_
  · repeat (first | refine wo_move rfl rfl ?_ | refine wo_fieldAddr rfl rfl rfl ?_ | refine wo_load rfl rfl rfl rfl (by assumption) rfl ?_ | refine wo_eql rfl rfl rfl ?_)
    by_cases c1 : a = 4
    · refine wo_is 32 true rfl (decide_eq_true c1) ?_
      repeat (first | refine wo_nil ?_ | refine wo_assign rfl rfl ?_ | refine wo_fieldAddr rfl rfl rfl ?_ | refine wo_load rfl rfl rfl rfl (by assumption) rfl ?_ | refine wo_eql rfl rfl rfl ?_ | refine wo_pick rfl rfl rfl ?_ | refine wo_on rfl ?_)
      exact ⟨rfl, rfl, rfl, rfl, congrArg (fun x => some (AV.bool x)) (decide_eq_decide.2 ⟨fun h => ⟨c1, h⟩, fun h => h.2⟩), trivial⟩
    · refine wo_is 32 false rfl (decide_eq_false c1) ?_
      repeat (first | refine wo_nil ?_ | refine wo_assign rfl rfl ?_ | refine wo_pick rfl rfl rfl ?_ | refine wo_off rfl rfl ?_)
      exact ⟨rfl, rfl, rfl, rfl, congrArg (fun x => some (AV.bool x)) (decide_eq_false fun h => c1 h.1).symm, trivial⟩
  refine wg_dec rfl (fun h44 => ?_) fun h44 => ?_
  · have e : fitsT hs (a, s) (b, t) ↔ sub hs s t = true := by
      unfold fitsT
      rw [if_neg h6, if_neg h5, if_pos h44]
    repeat (first | refine wg_seq ?_ | refine wg_region ?_ | refine wo_move rfl rfl ?_ | refine wo_fieldAddr rfl rfl rfl ?_ | refine wo_load rfl rfl rfl rfl (by assumption) rfl ?_)
    refine wo_call rfl rfl orc_cons rfl (sub_spec o12.wf (h.keep o12) hg hn) ?_
    rintro r A3 ⟨rfl, o3⟩
    repeat (first | refine wo_nil ?_ | refine wo_assign rfl rfl ?_)
    refine wg_ret rfl ⟨congrArg AV.bool ?_, o12.same o3⟩
    cases hb : sub hs s t
    · exact (decide_eq_false fun h => by rw [e.1 h] at hb; cases hb).symm
    · exact (decide_eq_true (e.2 hb)).symm
  · have e : fitsT hs (a, s) (b, t) ↔ a = b ∧ 1 ≤ a ∧ a ≤ 3 := by
      unfold fitsT
      rw [if_neg h6, if_neg h5, if_neg h44]
    repeat (first | refine wg_seq ?_ | refine wg_skip ?_ | refine wg_inBlock ?_ | refine wg_region ?_ | refine wo_move rfl rfl ?_ | refine wo_fieldAddr rfl rfl rfl ?_ | refine wo_load rfl rfl rfl rfl (by assumption) rfl ?_ | refine wo_eql rfl rfl rfl ?_)
    by_cases c1 : a = b
    · refine wo_is 48 true rfl (decide_eq_true c1) ?_
      repeat (first | refine wo_move rfl rfl ?_ | refine wo_fieldAddr rfl rfl rfl ?_ | refine wo_load rfl rfl rfl rfl (by assumption) rfl ?_ | refine wo_geq rfl rfl rfl ?_ | refine wo_pick rfl rfl rfl ?_ | refine wo_on rfl ?_)
      by_cases c2 : 1 ≤ a
      · refine wo_is 53 true rfl (decide_eq_true c2) ?_
        repeat (first | refine wo_nil ?_ | refine wo_assign rfl rfl ?_ | refine wo_fieldAddr rfl rfl rfl ?_ | refine wo_load rfl rfl rfl rfl (by assumption) rfl ?_ | refine wo_leq rfl rfl rfl ?_ | refine wo_pick rfl rfl rfl ?_ | refine wo_on rfl ?_)
        exact wg_ret rfl ⟨congrArg AV.bool (decide_eq_decide.2 ⟨fun h => e.2 ⟨c1, c2, h⟩, fun h => (e.1 h).2.2⟩), o12⟩
      · refine wo_is 53 false rfl (decide_eq_false c2) ?_
        repeat (first | refine wo_nil ?_ | refine wo_assign rfl rfl ?_ | refine wo_pick rfl rfl rfl ?_ | refine wo_off rfl rfl ?_)
        exact wg_ret rfl ⟨congrArg AV.bool (decide_eq_false fun h => c2 (e.1 h).2.1).symm, o12⟩
    · refine wo_is 48 false rfl (decide_eq_false c1) ?_
      repeat (first | refine wo_nil ?_ | refine wo_move rfl rfl ?_ | refine wo_assign rfl rfl ?_ | refine wo_pick rfl rfl rfl ?_ | refine wo_off rfl rfl ?_)
      exact wg_ret rfl ⟨congrArg AV.bool (decide_eq_false fun h => c1 (e.1 h).1).symm, o12⟩
end Go.Proofs.Ytokieeiohfcgdaa.Ae
