/-
  THE DOCUMENT'S FITS; WORDS, by the rules.
-/
import Derived.Test.YtokieeiohfcgdaaAiSyT4
import Derived.Test.YtokieeiohfcgdaaAiSyT14
namespace Go.Proofs.Ytokieeiohfcgdaa.Ae
open Go.AE
set_option linter.unusedVariables false
set_option maxRecDepth 100000

theorem rfits_spec {K : FuncId} {A : AW} {fr : Nat} {vn vs : AV} {hs : Hs} {x y : Ty'} (hw : Wf A) (h : Ri A fr vn vs hs) (hg : Good hs) (hu : ∀ k, has hs k = true → ¬ k = objN → has hs (up hs k) = true) (hd : Hd hs) (hn : hs.length ≤ 100) :
    CallP (ES K) 32 [.ptr fr 0 0, tv x, tv y] A fun r A1 => r = .bool (decide (fitsT hs x y)) ∧ Only A A1 none' := by
  obtain ⟨a, s⟩ := x
  obtain ⟨b, t⟩ := y
  refine call_of rfl rfl rfl ?_
  unfold tv
  repeat (first | refine wg_seq ?_ | refine wg_region ?_)
  refine wo_box rfl rfl rfl rfl ?_
  refine wo_A (fun A1 => Only A A1 none' ∧ A1.heap.get A.nxt = some (.cells 0 false 2 [.int .i64 a, .str s])) ⟨Only.add hw _, by rw [AW.add_get, if_pos rfl]; rfl⟩ ?_
  rintro A1 ⟨o1, hx⟩
  generalize A.nxt = fx at hx
  refine wo_box rfl rfl rfl rfl ?_
  refine wo_A (fun A2 => Only A1 A2 none' ∧ A2.heap.get A1.nxt = some (.cells 0 false 2 [.int .i64 b, .str t])) ⟨Only.add o1.wf _, by rw [AW.add_get, if_pos rfl]; rfl⟩ ?_
  rintro A2 ⟨o2, hy⟩
  generalize A1.nxt = fy at hy
  have hx := o2.keep _ _ hx fun h => h
  have o12 := o1.same o2
  repeat (first | refine wg_seq ?_ | refine wg_block ?_ | refine wg_region ?_ | refine wo_nil ?_ | refine wo_assign rfl rfl ?_ | refine wo_fieldAddr rfl rfl rfl ?_ | refine wo_load rfl rfl rfl rfl (by assumption) rfl ?_ | refine wo_eql rfl rfl rfl ?_)
  refine wg_dec rfl (fun h6 => ?_) fun h6 => ?_
  · have h6 : b = 6 := h6
    have e : fitsT hs (a, s) (b, t) := by
      unfold fitsT
      rw [if_pos h6]
      trivial
    repeat (first | refine wg_seq ?_ | refine wg_region ?_ | refine wo_nil ?_ | refine wo_assign rfl rfl ?_)
    exact wg_ret rfl ⟨congrArg AV.bool (decide_eq_true e).symm, o12⟩
  have h6 : ¬ b = 6 := h6
  repeat (first | refine wg_seq ?_ | refine wg_region ?_ | refine wo_nil ?_ | refine wo_assign rfl rfl ?_ | refine wo_fieldAddr rfl rfl rfl ?_ | refine wo_load rfl rfl rfl rfl (by assumption) rfl ?_ | refine wo_eql rfl rfl rfl ?_)
  refine wg_dec rfl (fun h5 => ?_) fun h5 => ?_
  · have h5 : a = 5 := h5
    have e : fitsT hs (a, s) (b, t) ↔ b = 5 ∨ b = 3 ∨ b = 4 := by
      unfold fitsT
      rw [if_neg h6, if_pos h5]
    repeat (first | refine wg_seq ?_ | refine wg_region ?_ | refine wo_move rfl rfl ?_ | refine wo_fieldAddr rfl rfl rfl ?_ | refine wo_load rfl rfl rfl rfl (by assumption) rfl ?_ | refine wo_eql rfl rfl rfl ?_)
    by_cases c1 : b = 5
    · refine wo_is 18 true rfl (decide_eq_true c1) ?_
      repeat (first | refine wo_nil ?_ | refine wo_move rfl rfl ?_ | refine wo_assign rfl rfl ?_ | refine wo_pick rfl rfl rfl ?_ | refine wo_off rfl rfl ?_)
      exact wg_ret rfl ⟨congrArg AV.bool (decide_eq_true (e.2 (.inl c1))).symm, o12⟩
    · refine wo_is 18 false rfl (decide_eq_false c1) ?_
      repeat (first | refine wo_move rfl rfl ?_ | refine wo_fieldAddr rfl rfl rfl ?_ | refine wo_load rfl rfl rfl rfl (by assumption) rfl ?_ | refine wo_eql rfl rfl rfl ?_ | refine wo_pick rfl rfl rfl ?_ | refine wo_on rfl ?_)
      by_cases c2 : b = 3
      · refine wo_is 23 true rfl (decide_eq_true c2) ?_
        repeat (first | refine wo_nil ?_ | refine wo_assign rfl rfl ?_ | refine wo_pick rfl rfl rfl ?_ | refine wo_off rfl rfl ?_)
        exact wg_ret rfl ⟨congrArg AV.bool (decide_eq_true (e.2 (.inr (.inl c2)))).symm, o12⟩
      · refine wo_is 23 false rfl (decide_eq_false c2) ?_
        repeat (first | refine wo_nil ?_ | refine wo_assign rfl rfl ?_ | refine wo_fieldAddr rfl rfl rfl ?_ | refine wo_load rfl rfl rfl rfl (by assumption) rfl ?_ | refine wo_eql rfl rfl rfl ?_ | refine wo_pick rfl rfl rfl ?_ | refine wo_on rfl ?_)
        exact wg_ret rfl ⟨congrArg AV.bool (decide_eq_decide.2 ⟨fun h => e.2 (.inr (.inr h)), fun h => ((e.1 h).resolve_left c1).resolve_left c2⟩), o12⟩
  have h5 : ¬ a = 5 := h5
  repeat (first | refine wg_seq ?_ | refine wg_region ?_ | refine wo_nil ?_ | refine wo_assign rfl rfl ?_ | refine wo_fieldAddr rfl rfl rfl ?_ | refine wo_load rfl rfl rfl rfl (by assumption) rfl ?_ | refine wo_neq rfl rfl rfl ?_)
  refine wg_dec rfl (fun hab => ?_) fun hab => ?_
  · have hab : ¬ a = b := hab
    have e : ¬ fitsT hs (a, s) (b, t) := by
      unfold fitsT
      rw [if_neg h6, if_neg h5, if_neg (fun h => hab (h.1.trans h.2.symm))]
      exact fun h => hab h.1
    repeat (first | refine wg_seq ?_ | refine wg_region ?_ | refine wo_nil ?_ | refine wo_assign rfl rfl ?_)
    exact wg_ret rfl ⟨congrArg AV.bool (decide_eq_false e).symm, o12⟩
  have hab : a = b := Decidable.byContradiction hab
  repeat (first | refine wg_seq ?_ | refine wg_region ?_ | refine wo_nil ?_ | refine wo_assign rfl rfl ?_ | refine wo_fieldAddr rfl rfl rfl ?_ | refine wo_load rfl rfl rfl rfl (by assumption) rfl ?_ | refine wo_eql rfl rfl rfl ?_)
  refine wg_dec rfl (fun h4 => ?_) fun h4 => ?_
  · have h4 : a = 4 := h4
    have e : fitsT hs (a, s) (b, t) ↔ sub hs s t = true := by
      unfold fitsT
      rw [if_neg h6, if_neg h5, if_pos ⟨h4, hab ▸ h4⟩]
    repeat (first | refine wg_seq ?_ | refine wg_region ?_ | refine wo_move rfl rfl ?_ | refine wo_fieldAddr rfl rfl rfl ?_ | refine wo_load rfl rfl rfl rfl (by assumption) rfl ?_)
    refine wo_call rfl rfl orc_cons rfl (rsub_spec o12.wf (h.keep o12) hg hu hd hn) ?_
    rintro r A3 ⟨rfl, o3⟩
    repeat (first | refine wo_nil ?_ | refine wo_assign rfl rfl ?_)
    refine wg_ret rfl ⟨congrArg AV.bool ?_, o12.same o3⟩
    cases hb : sub hs s t
    · exact (decide_eq_false fun h => by rw [e.1 h] at hb; cases hb).symm
    · exact (decide_eq_true (e.2 hb)).symm
  · have h4 : ¬ a = 4 := h4
    have e : fitsT hs (a, s) (b, t) ↔ 1 ≤ a ∧ a ≤ 3 := by
      unfold fitsT
      rw [if_neg h6, if_neg h5, if_neg (fun h => h4 h.1)]
      exact ⟨fun h => h.2, fun h => ⟨hab, h⟩⟩
    repeat (first | refine wg_seq ?_ | refine wg_skip ?_ | refine wg_inBlock ?_ | refine wg_region ?_ | refine wo_move rfl rfl ?_ | refine wo_fieldAddr rfl rfl rfl ?_ | refine wo_load rfl rfl rfl rfl (by assumption) rfl ?_ | refine wo_geq rfl rfl rfl ?_)
    by_cases c2 : 1 ≤ a
    · refine wo_is 47 true rfl (decide_eq_true c2) ?_
      repeat (first | refine wo_nil ?_ | refine wo_assign rfl rfl ?_ | refine wo_fieldAddr rfl rfl rfl ?_ | refine wo_load rfl rfl rfl rfl (by assumption) rfl ?_ | refine wo_leq rfl rfl rfl ?_ | refine wo_pick rfl rfl rfl ?_ | refine wo_on rfl ?_)
      exact wg_ret rfl ⟨congrArg AV.bool (decide_eq_decide.2 ⟨fun h => e.2 ⟨c2, h⟩, fun h => (e.1 h).2⟩), o12⟩
    · refine wo_is 47 false rfl (decide_eq_false c2) ?_
      repeat (first | refine wo_nil ?_ | refine wo_assign rfl rfl ?_ | refine wo_pick rfl rfl rfl ?_ | refine wo_off rfl rfl ?_)
      exact wg_ret rfl ⟨congrArg AV.bool (decide_eq_false fun h => c2 (e.1 h).1).symm, o12⟩
def wordsT (x : Ty') : Int := if x.1 = 2 then 2 else if x.1 = 1 ∨ x.1 = 3 ∨ x.1 = 4 ∨ x.1 = 5 then 1 else 0
theorem words_spec {K : FuncId} {A : AW} {x : Ty'} (hw : Wf A) : CallP (ES K) 21 [tv x] A fun r A1 => r = .int .i64 (wordsT x) ∧ Only A A1 none' := by
  obtain ⟨a, s⟩ := x
  unfold wordsT
  refine call_of rfl rfl rfl ?_
  unfold tv
  repeat (first | refine wg_seq ?_ | refine wg_region ?_)
  refine wo_box rfl rfl rfl rfl ?_
  refine wo_A (fun A1 => Only A A1 none' ∧ A1.heap.get A.nxt = some (.cells 0 false 2 [.int .i64 a, .str s])) ⟨Only.add hw _, by rw [AW.add_get, if_pos rfl]; rfl⟩ ?_
  rintro A1 ⟨o1, hx⟩
  generalize A.nxt = fx at hx
  repeat (first | refine wg_seq ?_ | refine wg_block ?_ | refine wg_region ?_ | refine wo_nil ?_ | refine wo_assign rfl rfl ?_ | refine wo_fieldAddr rfl rfl rfl ?_ | refine wo_load rfl rfl rfl rfl (by assumption) rfl ?_ | refine wo_eql rfl rfl rfl ?_)
  refine wg_dec rfl (fun h => ?_) fun h2 => ?_
  · rw [if_pos h]
    repeat (first | refine wg_seq ?_ | refine wg_region ?_ | refine wo_nil ?_ | refine wo_assign rfl rfl ?_)
    exact wg_ret rfl ⟨rfl, o1⟩
  rw [if_neg h2]
  repeat (first | refine wg_seq ?_ | refine wg_region ?_ | refine wo_nil ?_ | refine wo_assign rfl rfl ?_ | refine wo_eql rfl rfl rfl ?_)
  refine wg_dec rfl (fun h => ?_) fun h1 => ?_
  · have h : a = 1 := h
    rw [if_pos (.inl h)]
    repeat refine wg_skip ?_
    refine wg_dec rfl (fun _ => ?_) fun h' => absurd h h'
    repeat (first | refine wg_seq ?_ | refine wg_region ?_ | refine wo_nil ?_ | refine wo_assign rfl rfl ?_)
    exact wg_ret rfl ⟨rfl, o1⟩
  repeat (first | refine wg_seq ?_ | refine wg_region ?_ | refine wo_nil ?_ | refine wo_assign rfl rfl ?_ | refine wo_eql rfl rfl rfl ?_)
  refine wg_dec rfl (fun h => ?_) fun h3 => ?_
  · have h : a = 3 := h
    rw [if_pos (.inr (.inl h))]
    repeat refine wg_skip ?_
    refine wg_dec rfl (fun _ => ?_) fun h' => absurd h h'
    repeat (first | refine wg_seq ?_ | refine wg_region ?_ | refine wo_nil ?_ | refine wo_assign rfl rfl ?_)
    exact wg_ret rfl ⟨rfl, o1⟩
  repeat (first | refine wg_seq ?_ | refine wg_region ?_ | refine wo_nil ?_ | refine wo_assign rfl rfl ?_ | refine wo_eql rfl rfl rfl ?_)
  refine wg_dec rfl (fun h => ?_) fun h4 => ?_
  · have h : a = 4 := h
    rw [if_pos (.inr (.inr (.inl h)))]
    repeat refine wg_skip ?_
    refine wg_dec rfl (fun _ => ?_) fun h' => absurd h h'
    repeat (first | refine wg_seq ?_ | refine wg_region ?_ | refine wo_nil ?_ | refine wo_assign rfl rfl ?_)
    exact wg_ret rfl ⟨rfl, o1⟩
  repeat (first | refine wg_region ?_ | refine wo_nil ?_ | refine wo_assign rfl rfl ?_ | refine wo_eql rfl rfl rfl ?_)
  refine wg_dec rfl (fun h => ?_) fun h5 => ?_
  · have h : a = 5 := h
    rw [if_pos (.inr (.inr (.inr h)))]
    repeat (first | refine wg_seq ?_ | refine wg_region ?_ | refine wo_nil ?_ | refine wo_assign rfl rfl ?_)
    exact wg_ret rfl ⟨rfl, o1⟩
  · have h1 : ¬ a = 1 := h1
    have h3 : ¬ a = 3 := h3
    have h4 : ¬ a = 4 := h4
    have h5 : ¬ a = 5 := h5
    rw [if_neg (by rintro (h | h | h | h) <;> contradiction)]
    repeat (first | refine wg_seq ?_ | refine wg_skip ?_ | refine wg_inBlock ?_ | refine wg_region ?_ | refine wo_nil ?_ | refine wo_assign rfl rfl ?_)
    exact wg_ret rfl ⟨rfl, o1⟩
theorem rwords_spec {K : FuncId} {A : AW} {x : Ty'} (hw : Wf A) : CallP (ES K) 34 [tv x] A fun r A1 => r = .int .i64 (wordsT x) ∧ Only A A1 none' := by
  obtain ⟨a, s⟩ := x
  unfold wordsT
  refine call_of rfl rfl rfl ?_
  unfold tv
  repeat (first | refine wg_seq ?_ | refine wg_region ?_)
  refine wo_box rfl rfl rfl rfl ?_
  refine wo_A (fun A1 => Only A A1 none' ∧ A1.heap.get A.nxt = some (.cells 0 false 2 [.int .i64 a, .str s])) ⟨Only.add hw _, by rw [AW.add_get, if_pos rfl]; rfl⟩ ?_
  rintro A1 ⟨o1, hx⟩
  generalize A.nxt = fx at hx
  repeat (first | refine wg_seq ?_ | refine wg_block ?_ | refine wg_region ?_ | refine wo_nil ?_ | refine wo_assign rfl rfl ?_ | refine wo_fieldAddr rfl rfl rfl ?_ | refine wo_load rfl rfl rfl rfl (by assumption) rfl ?_ | refine wo_eql rfl rfl rfl ?_)
  refine wg_dec rfl (fun h => ?_) fun h2 => ?_
  · rw [if_pos h]
    repeat (first | refine wg_seq ?_ | refine wg_region ?_ | refine wo_nil ?_ | refine wo_assign rfl rfl ?_)
    exact wg_ret rfl ⟨rfl, o1⟩
  rw [if_neg h2]
  repeat (first | refine wg_seq ?_ | refine wg_region ?_ | refine wo_nil ?_ | refine wo_assign rfl rfl ?_ | refine wo_eql rfl rfl rfl ?_)
  refine wg_dec rfl (fun h => ?_) fun h1 => ?_
  · have h : a = 1 := h
    rw [if_pos (.inl h)]
    repeat refine wg_skip ?_
    refine wg_dec rfl (fun _ => ?_) fun h' => absurd h h'
    repeat (first | refine wg_seq ?_ | refine wg_region ?_ | refine wo_nil ?_ | refine wo_assign rfl rfl ?_)
    exact wg_ret rfl ⟨rfl, o1⟩
  repeat (first | refine wg_seq ?_ | refine wg_region ?_ | refine wo_nil ?_ | refine wo_assign rfl rfl ?_ | refine wo_eql rfl rfl rfl ?_)
  refine wg_dec rfl (fun h => ?_) fun h3 => ?_
  · have h : a = 3 := h
    rw [if_pos (.inr (.inl h))]
    repeat refine wg_skip ?_
    refine wg_dec rfl (fun _ => ?_) fun h' => absurd h h'
    repeat (first | refine wg_seq ?_ | refine wg_region ?_ | refine wo_nil ?_ | refine wo_assign rfl rfl ?_)
    exact wg_ret rfl ⟨rfl, o1⟩
  repeat (first | refine wg_seq ?_ | refine wg_region ?_ | refine wo_nil ?_ | refine wo_assign rfl rfl ?_ | refine wo_eql rfl rfl rfl ?_)
  refine wg_dec rfl (fun h => ?_) fun h4 => ?_
  · have h : a = 4 := h
    rw [if_pos (.inr (.inr (.inl h)))]
    repeat refine wg_skip ?_
    refine wg_dec rfl (fun _ => ?_) fun h' => absurd h h'
    repeat (first | refine wg_seq ?_ | refine wg_region ?_ | refine wo_nil ?_ | refine wo_assign rfl rfl ?_)
    exact wg_ret rfl ⟨rfl, o1⟩
  repeat (first | refine wg_region ?_ | refine wo_nil ?_ | refine wo_assign rfl rfl ?_ | refine wo_eql rfl rfl rfl ?_)
  refine wg_dec rfl (fun h => ?_) fun h5 => ?_
  · have h : a = 5 := h
    rw [if_pos (.inr (.inr (.inr h)))]
    repeat (first | refine wg_seq ?_ | refine wg_region ?_ | refine wo_nil ?_ | refine wo_assign rfl rfl ?_)
    exact wg_ret rfl ⟨rfl, o1⟩
  · have h1 : ¬ a = 1 := h1
    have h3 : ¬ a = 3 := h3
    have h4 : ¬ a = 4 := h4
    have h5 : ¬ a = 5 := h5
    rw [if_neg (by rintro (h | h | h | h) <;> contradiction)]
    repeat (first | refine wg_seq ?_ | refine wg_skip ?_ | refine wg_inBlock ?_ | refine wg_region ?_ | refine wo_nil ?_ | refine wo_assign rfl rfl ?_)
    exact wg_ret rfl ⟨rfl, o1⟩
end Go.Proofs.Ytokieeiohfcgdaa.Ae
