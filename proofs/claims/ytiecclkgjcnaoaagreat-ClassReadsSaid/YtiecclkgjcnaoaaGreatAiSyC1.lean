/-
  INSTRUCTIONS, by the rules: an op's operand; whether an instruction may be.
-/
import Derived.Test.YtiecclkgjcnaoaaGreatAiSyTab
import Derived.Test.YtiecclkgjcnaoaaGreatAiSy5
namespace Go.Proofs.YtiecclkgjcnaoaaGreat.Ae
open Go.AE
set_option linter.unusedVariables false
set_option maxRecDepth 100000
def opd (op : Int) : Int :=
  if op = 4 ∨ op = 5 ∨ op = 38 ∨ op = 39 then 1 else if op = 1 ∨ op = 2 ∨ op = 25 ∨ op = 26 ∨ op = 27 ∨ op = 32 ∨ op = 36 ∨ op = 37 ∨ op = 43 then 2 else if op = 22 ∨ op = 23 ∨ op = 24 then 3 else if op < 0 ∨ 48 ≤ op then -1 else 0
theorem opd_range (op : Int) : -1 ≤ opd op ∧ opd op ≤ 3 ∧ (opd op ≠ -1 → 0 ≤ op ∧ op < 48) := by
  unfold opd
  split
  · omega
  · split
    · omega
    · split
      · omega
      · split <;> omega
theorem operand_spec {K : FuncId} {A : AW} {op : Int} : CallP (ES K) 120 [.int .i64 op] A fun r A1 => r = .int .i64 (opd op) ∧ A1 = A := by
  refine call_of rfl rfl rfl ?_
  repeat (first | refine qO ?_ | refine qY ?_ | refine qA ?_ | refine qG ?_ | refine qJ rfl rfl ?_ | refine qE rfl rfl ?_ | refine xD rfl rfl rfl ?_)
  refine qV rfl (fun h => ?_) fun h4 => ?_
  · obtain rfl : op = 4 := h
    repeat (first | refine qO ?_ | refine qS ?_ | refine qA ?_ | refine qG ?_ | refine qE rfl rfl ?_ | refine xH rfl ?_)
    exact qQ rfl ⟨rfl, rfl⟩
  have h4 : ¬ op = 4 := h4
  repeat (first | refine qO ?_ | refine qA ?_ | refine qG ?_ | refine qE rfl rfl ?_ | refine xD rfl rfl rfl ?_)
  refine qV rfl (fun h => ?_) fun h5 => ?_
  · obtain rfl : op = 5 := h
    repeat (first | refine qO ?_ | refine qS ?_ | refine qA ?_ | refine qG ?_ | refine qE rfl rfl ?_ | refine xH rfl ?_)
    exact qQ rfl ⟨rfl, rfl⟩
  have h5 : ¬ op = 5 := h5
  repeat (first | refine qO ?_ | refine qA ?_ | refine qG ?_ | refine qE rfl rfl ?_ | refine xD rfl rfl rfl ?_)
  refine qV rfl (fun h => ?_) fun h38 => ?_
  · obtain rfl : op = 38 := h
    repeat (first | refine qO ?_ | refine qS ?_ | refine qA ?_ | refine qG ?_ | refine qE rfl rfl ?_ | refine xH rfl ?_)
    exact qQ rfl ⟨rfl, rfl⟩
  have h38 : ¬ op = 38 := h38
  repeat (first | refine qA ?_ | refine qG ?_ | refine qE rfl rfl ?_ | refine xD rfl rfl rfl ?_)
  refine qV rfl (fun h => ?_) fun h39 => ?_
  · obtain rfl : op = 39 := h
    repeat (first | refine qO ?_ | refine qA ?_ | refine qG ?_ | refine qE rfl rfl ?_)
    exact qQ rfl ⟨rfl, rfl⟩
  have h39 : ¬ op = 39 := h39
  repeat (first | refine qO ?_ | refine qA ?_ | refine qG ?_ | refine qE rfl rfl ?_ | refine xD rfl rfl rfl ?_)
  refine qV rfl (fun h => ?_) fun h1 => ?_
  · obtain rfl : op = 1 := h
    repeat (first | refine qO ?_ | refine qS ?_ | refine qA ?_ | refine qG ?_ | refine qE rfl rfl ?_ | refine xH rfl ?_)
    exact qQ rfl ⟨rfl, rfl⟩
  have h1 : ¬ op = 1 := h1
  repeat (first | refine qO ?_ | refine qA ?_ | refine qG ?_ | refine qE rfl rfl ?_ | refine xD rfl rfl rfl ?_)
  refine qV rfl (fun h => ?_) fun h2 => ?_
  · obtain rfl : op = 2 := h
    repeat (first | refine qO ?_ | refine qS ?_ | refine qA ?_ | refine qG ?_ | refine qE rfl rfl ?_ | refine xH rfl ?_)
    exact qQ rfl ⟨rfl, rfl⟩
  have h2 : ¬ op = 2 := h2
  repeat (first | refine qO ?_ | refine qA ?_ | refine qG ?_ | refine qE rfl rfl ?_ | refine xD rfl rfl rfl ?_)
  refine qV rfl (fun h => ?_) fun h25 => ?_
  · obtain rfl : op = 25 := h
    repeat (first | refine qO ?_ | refine qS ?_ | refine qA ?_ | refine qG ?_ | refine qE rfl rfl ?_ | refine xH rfl ?_)
    exact qQ rfl ⟨rfl, rfl⟩
  have h25 : ¬ op = 25 := h25
  repeat (first | refine qO ?_ | refine qA ?_ | refine qG ?_ | refine qE rfl rfl ?_ | refine xD rfl rfl rfl ?_)
  refine qV rfl (fun h => ?_) fun h26 => ?_
  · obtain rfl : op = 26 := h
    repeat (first | refine qO ?_ | refine qS ?_ | refine qA ?_ | refine qG ?_ | refine qE rfl rfl ?_ | refine xH rfl ?_)
    exact qQ rfl ⟨rfl, rfl⟩
  have h26 : ¬ op = 26 := h26
  repeat (first | refine qO ?_ | refine qA ?_ | refine qG ?_ | refine qE rfl rfl ?_ | refine xD rfl rfl rfl ?_)
  refine qV rfl (fun h => ?_) fun h27 => ?_
  · obtain rfl : op = 27 := h
    repeat (first | refine qO ?_ | refine qS ?_ | refine qA ?_ | refine qG ?_ | refine qE rfl rfl ?_ | refine xH rfl ?_)
    exact qQ rfl ⟨rfl, rfl⟩
  have h27 : ¬ op = 27 := h27
  repeat (first | refine qO ?_ | refine qA ?_ | refine qG ?_ | refine qE rfl rfl ?_ | refine xD rfl rfl rfl ?_)
  refine qV rfl (fun h => ?_) fun h32 => ?_
  · obtain rfl : op = 32 := h
    repeat (first | refine qO ?_ | refine qS ?_ | refine qA ?_ | refine qG ?_ | refine qE rfl rfl ?_ | refine xH rfl ?_)
    exact qQ rfl ⟨rfl, rfl⟩
  have h32 : ¬ op = 32 := h32
  repeat (first | refine qO ?_ | refine qA ?_ | refine qG ?_ | refine qE rfl rfl ?_ | refine xD rfl rfl rfl ?_)
  refine qV rfl (fun h => ?_) fun h36 => ?_
  · obtain rfl : op = 36 := h
    repeat (first | refine qO ?_ | refine qS ?_ | refine qA ?_ | refine qG ?_ | refine qE rfl rfl ?_ | refine xH rfl ?_)
    exact qQ rfl ⟨rfl, rfl⟩
  have h36 : ¬ op = 36 := h36
  repeat (first | refine qO ?_ | refine qA ?_ | refine qG ?_ | refine qE rfl rfl ?_ | refine xD rfl rfl rfl ?_)
  refine qV rfl (fun h => ?_) fun h37 => ?_
  · obtain rfl : op = 37 := h
    repeat (first | refine qO ?_ | refine qS ?_ | refine qA ?_ | refine qG ?_ | refine qE rfl rfl ?_ | refine xH rfl ?_)
    exact qQ rfl ⟨rfl, rfl⟩
  have h37 : ¬ op = 37 := h37
  repeat (first | refine qA ?_ | refine qG ?_ | refine qE rfl rfl ?_ | refine xD rfl rfl rfl ?_)
  refine qV rfl (fun h => ?_) fun h43 => ?_
  · obtain rfl : op = 43 := h
    repeat (first | refine qO ?_ | refine qA ?_ | refine qG ?_ | refine qE rfl rfl ?_)
    exact qQ rfl ⟨rfl, rfl⟩
  have h43 : ¬ op = 43 := h43
  repeat (first | refine qO ?_ | refine qA ?_ | refine qG ?_ | refine qE rfl rfl ?_ | refine xD rfl rfl rfl ?_)
  refine qV rfl (fun h => ?_) fun h22 => ?_
  · obtain rfl : op = 22 := h
    repeat (first | refine qO ?_ | refine qS ?_ | refine qA ?_ | refine qG ?_ | refine qE rfl rfl ?_ | refine xH rfl ?_)
    exact qQ rfl ⟨rfl, rfl⟩
  have h22 : ¬ op = 22 := h22
  repeat (first | refine qO ?_ | refine qA ?_ | refine qG ?_ | refine qE rfl rfl ?_ | refine xD rfl rfl rfl ?_)
  refine qV rfl (fun h => ?_) fun h23 => ?_
  · obtain rfl : op = 23 := h
    repeat (first | refine qO ?_ | refine qS ?_ | refine qA ?_ | refine qG ?_ | refine qE rfl rfl ?_ | refine xH rfl ?_)
    exact qQ rfl ⟨rfl, rfl⟩
  have h23 : ¬ op = 23 := h23
  repeat (first | refine qA ?_ | refine qG ?_ | refine qE rfl rfl ?_ | refine xD rfl rfl rfl ?_)
  refine qV rfl (fun h => ?_) fun h24 => ?_
  · obtain rfl : op = 24 := h
    repeat (first | refine qO ?_ | refine qA ?_ | refine qG ?_ | refine qE rfl rfl ?_)
    exact qQ rfl ⟨rfl, rfl⟩
  have h24 : ¬ op = 24 := h24
  repeat (first | refine qO ?_ | refine qS ?_ | refine xB ?_)
  refine wg_regionTo (.put 0 (.int .i64 op) (.put 28 (.bool (decide (op < 0 ∨ 48 ≤ op))) .nil)) ?_ ?_
  · repeat (first | refine qJ rfl rfl ?_ | refine xM rfl rfl rfl ?_)
    by_cases c1 : op < 0
    · refine xA 25 true rfl (decide_eq_true c1) ?_
      repeat (first | refine qG ?_ | refine qR rfl rfl rfl ?_ | refine xE rfl rfl ?_)
      exact ⟨rfl, rfl, congrArg (fun x => some (AV.bool x)) (decide_eq_true (.inl c1)).symm, trivial⟩
    · refine xA 25 false rfl (decide_eq_false c1) ?_
      repeat (first | refine qG ?_ | refine qJ rfl rfl ?_ | refine wo_geq rfl rfl rfl ?_ | refine qR rfl rfl rfl ?_ | refine qX rfl ?_)
      exact ⟨rfl, rfl, congrArg (fun x => some (AV.bool x)) (decide_eq_decide.2 ⟨fun h => .inr h, fun h => h.resolve_left c1⟩), trivial⟩
  have e1 : ¬ (op = 4 ∨ op = 5 ∨ op = 38 ∨ op = 39) := by omega
  have e2 : ¬ (op = 1 ∨ op = 2 ∨ op = 25 ∨ op = 26 ∨ op = 27 ∨ op = 32 ∨ op = 36 ∨ op = 37 ∨ op = 43) := by omega
  have e3 : ¬ (op = 22 ∨ op = 23 ∨ op = 24) := by omega
  unfold opd
  rw [if_neg e1, if_neg e2, if_neg e3]
  refine qV rfl (fun h => ?_) fun h => ?_
  · rw [if_pos h]
    repeat (first | refine qO ?_ | refine qA ?_ | refine qG ?_ | refine qE rfl rfl ?_)
    exact qQ rfl ⟨rfl, rfl⟩
  · rw [if_neg h]
    repeat (first | refine qO ?_ | refine qS ?_ | refine qA ?_ | refine qG ?_ | refine qE rfl rfl ?_)
    exact qQ rfl ⟨rfl, rfl⟩
theorem roperand_spec {K : FuncId} {A : AW} {op : Int} : CallP (ES K) 110 [.int .i64 op] A fun r A1 => r = .int .i64 (opd op) ∧ A1 = A := by
  refine call_of rfl rfl rfl ?_
  repeat (first | refine qO ?_ | refine qY ?_ | refine qA ?_ | refine qG ?_ | refine qJ rfl rfl ?_ | refine qE rfl rfl ?_ | refine xD rfl rfl rfl ?_)
  refine qV rfl (fun h => ?_) fun h4 => ?_
  · obtain rfl : op = 4 := h
    repeat (first | refine qO ?_ | refine qS ?_ | refine qA ?_ | refine qG ?_ | refine qE rfl rfl ?_ | refine xH rfl ?_)
    exact qQ rfl ⟨rfl, rfl⟩
  have h4 : ¬ op = 4 := h4
  repeat (first | refine qO ?_ | refine qA ?_ | refine qG ?_ | refine qE rfl rfl ?_ | refine xD rfl rfl rfl ?_)
  refine qV rfl (fun h => ?_) fun h5 => ?_
  · obtain rfl : op = 5 := h
    repeat (first | refine qO ?_ | refine qS ?_ | refine qA ?_ | refine qG ?_ | refine qE rfl rfl ?_ | refine xH rfl ?_)
    exact qQ rfl ⟨rfl, rfl⟩
  have h5 : ¬ op = 5 := h5
  repeat (first | refine qO ?_ | refine qA ?_ | refine qG ?_ | refine qE rfl rfl ?_ | refine xD rfl rfl rfl ?_)
  refine qV rfl (fun h => ?_) fun h38 => ?_
  · obtain rfl : op = 38 := h
    repeat (first | refine qO ?_ | refine qS ?_ | refine qA ?_ | refine qG ?_ | refine qE rfl rfl ?_ | refine xH rfl ?_)
    exact qQ rfl ⟨rfl, rfl⟩
  have h38 : ¬ op = 38 := h38
  repeat (first | refine qA ?_ | refine qG ?_ | refine qE rfl rfl ?_ | refine xD rfl rfl rfl ?_)
  refine qV rfl (fun h => ?_) fun h39 => ?_
  · obtain rfl : op = 39 := h
    repeat (first | refine qO ?_ | refine qA ?_ | refine qG ?_ | refine qE rfl rfl ?_)
    exact qQ rfl ⟨rfl, rfl⟩
  have h39 : ¬ op = 39 := h39
  repeat (first | refine qO ?_ | refine qA ?_ | refine qG ?_ | refine qE rfl rfl ?_ | refine xD rfl rfl rfl ?_)
  refine qV rfl (fun h => ?_) fun h1 => ?_
  · obtain rfl : op = 1 := h
    repeat (first | refine qO ?_ | refine qS ?_ | refine qA ?_ | refine qG ?_ | refine qE rfl rfl ?_ | refine xH rfl ?_)
    exact qQ rfl ⟨rfl, rfl⟩
  have h1 : ¬ op = 1 := h1
  repeat (first | refine qO ?_ | refine qA ?_ | refine qG ?_ | refine qE rfl rfl ?_ | refine xD rfl rfl rfl ?_)
  refine qV rfl (fun h => ?_) fun h2 => ?_
  · obtain rfl : op = 2 := h
    repeat (first | refine qO ?_ | refine qS ?_ | refine qA ?_ | refine qG ?_ | refine qE rfl rfl ?_ | refine xH rfl ?_)
    exact qQ rfl ⟨rfl, rfl⟩
  have h2 : ¬ op = 2 := h2
  repeat (first | refine qO ?_ | refine qA ?_ | refine qG ?_ | refine qE rfl rfl ?_ | refine xD rfl rfl rfl ?_)
  refine qV rfl (fun h => ?_) fun h25 => ?_
  · obtain rfl : op = 25 := h
    repeat (first | refine qO ?_ | refine qS ?_ | refine qA ?_ | refine qG ?_ | refine qE rfl rfl ?_ | refine xH rfl ?_)
    exact qQ rfl ⟨rfl, rfl⟩
  have h25 : ¬ op = 25 := h25
  repeat (first | refine qO ?_ | refine qA ?_ | refine qG ?_ | refine qE rfl rfl ?_ | refine xD rfl rfl rfl ?_)
  refine qV rfl (fun h => ?_) fun h26 => ?_
  · obtain rfl : op = 26 := h
    repeat (first | refine qO ?_ | refine qS ?_ | refine qA ?_ | refine qG ?_ | refine qE rfl rfl ?_ | refine xH rfl ?_)
    exact qQ rfl ⟨rfl, rfl⟩
  have h26 : ¬ op = 26 := h26
  repeat (first | refine qO ?_ | refine qA ?_ | refine qG ?_ | refine qE rfl rfl ?_ | refine xD rfl rfl rfl ?_)
  refine qV rfl (fun h => ?_) fun h27 => ?_
  · obtain rfl : op = 27 := h
    repeat (first | refine qO ?_ | refine qS ?_ | refine qA ?_ | refine qG ?_ | refine qE rfl rfl ?_ | refine xH rfl ?_)
    exact qQ rfl ⟨rfl, rfl⟩
  have h27 : ¬ op = 27 := h27
  repeat (first | refine qO ?_ | refine qA ?_ | refine qG ?_ | refine qE rfl rfl ?_ | refine xD rfl rfl rfl ?_)
  refine qV rfl (fun h => ?_) fun h32 => ?_
  · obtain rfl : op = 32 := h
    repeat (first | refine qO ?_ | refine qS ?_ | refine qA ?_ | refine qG ?_ | refine qE rfl rfl ?_ | refine xH rfl ?_)
    exact qQ rfl ⟨rfl, rfl⟩
  have h32 : ¬ op = 32 := h32
  repeat (first | refine qO ?_ | refine qA ?_ | refine qG ?_ | refine qE rfl rfl ?_ | refine xD rfl rfl rfl ?_)
  refine qV rfl (fun h => ?_) fun h36 => ?_
  · obtain rfl : op = 36 := h
    repeat (first | refine qO ?_ | refine qS ?_ | refine qA ?_ | refine qG ?_ | refine qE rfl rfl ?_ | refine xH rfl ?_)
    exact qQ rfl ⟨rfl, rfl⟩
  have h36 : ¬ op = 36 := h36
  repeat (first | refine qO ?_ | refine qA ?_ | refine qG ?_ | refine qE rfl rfl ?_ | refine xD rfl rfl rfl ?_)
  refine qV rfl (fun h => ?_) fun h37 => ?_
  · obtain rfl : op = 37 := h
    repeat (first | refine qO ?_ | refine qS ?_ | refine qA ?_ | refine qG ?_ | refine qE rfl rfl ?_ | refine xH rfl ?_)
    exact qQ rfl ⟨rfl, rfl⟩
  have h37 : ¬ op = 37 := h37
  repeat (first | refine qA ?_ | refine qG ?_ | refine qE rfl rfl ?_ | refine xD rfl rfl rfl ?_)
  refine qV rfl (fun h => ?_) fun h43 => ?_
  · obtain rfl : op = 43 := h
    repeat (first | refine qO ?_ | refine qA ?_ | refine qG ?_ | refine qE rfl rfl ?_)
    exact qQ rfl ⟨rfl, rfl⟩
  have h43 : ¬ op = 43 := h43
  repeat (first | refine qO ?_ | refine qA ?_ | refine qG ?_ | refine qE rfl rfl ?_ | refine xD rfl rfl rfl ?_)
  refine qV rfl (fun h => ?_) fun h22 => ?_
  · obtain rfl : op = 22 := h
    repeat (first | refine qO ?_ | refine qS ?_ | refine qA ?_ | refine qG ?_ | refine qE rfl rfl ?_ | refine xH rfl ?_)
    exact qQ rfl ⟨rfl, rfl⟩
  have h22 : ¬ op = 22 := h22
  repeat (first | refine qO ?_ | refine qA ?_ | refine qG ?_ | refine qE rfl rfl ?_ | refine xD rfl rfl rfl ?_)
  refine qV rfl (fun h => ?_) fun h23 => ?_
  · obtain rfl : op = 23 := h
    repeat (first | refine qO ?_ | refine qS ?_ | refine qA ?_ | refine qG ?_ | refine qE rfl rfl ?_ | refine xH rfl ?_)
    exact qQ rfl ⟨rfl, rfl⟩
  have h23 : ¬ op = 23 := h23
  repeat (first | refine qA ?_ | refine qG ?_ | refine qE rfl rfl ?_ | refine xD rfl rfl rfl ?_)
  refine qV rfl (fun h => ?_) fun h24 => ?_
  · obtain rfl : op = 24 := h
    repeat (first | refine qO ?_ | refine qA ?_ | refine qG ?_ | refine qE rfl rfl ?_)
    exact qQ rfl ⟨rfl, rfl⟩
  have h24 : ¬ op = 24 := h24
  repeat (first | refine qO ?_ | refine qS ?_ | refine xB ?_)
  refine wg_regionTo (.put 0 (.int .i64 op) (.put 28 (.bool (decide (op < 0 ∨ 48 ≤ op))) .nil)) ?_ ?_
  · repeat (first | refine qJ rfl rfl ?_ | refine xM rfl rfl rfl ?_)
    by_cases c1 : op < 0
    · refine xA 25 true rfl (decide_eq_true c1) ?_
      repeat (first | refine qG ?_ | refine qR rfl rfl rfl ?_ | refine xE rfl rfl ?_)
      exact ⟨rfl, rfl, congrArg (fun x => some (AV.bool x)) (decide_eq_true (.inl c1)).symm, trivial⟩
    · refine xA 25 false rfl (decide_eq_false c1) ?_
      repeat (first | refine qG ?_ | refine qJ rfl rfl ?_ | refine wo_geq rfl rfl rfl ?_ | refine qR rfl rfl rfl ?_ | refine qX rfl ?_)
      exact ⟨rfl, rfl, congrArg (fun x => some (AV.bool x)) (decide_eq_decide.2 ⟨fun h => .inr h, fun h => h.resolve_left c1⟩), trivial⟩
  have e1 : ¬ (op = 4 ∨ op = 5 ∨ op = 38 ∨ op = 39) := by omega
  have e2 : ¬ (op = 1 ∨ op = 2 ∨ op = 25 ∨ op = 26 ∨ op = 27 ∨ op = 32 ∨ op = 36 ∨ op = 37 ∨ op = 43) := by omega
  have e3 : ¬ (op = 22 ∨ op = 23 ∨ op = 24) := by omega
  unfold opd
  rw [if_neg e1, if_neg e2, if_neg e3]
  refine qV rfl (fun h => ?_) fun h => ?_
  · rw [if_pos h]
    repeat (first | refine qO ?_ | refine qA ?_ | refine qG ?_ | refine qE rfl rfl ?_)
    exact qQ rfl ⟨rfl, rfl⟩
  · rw [if_neg h]
    repeat (first | refine qO ?_ | refine qS ?_ | refine qA ?_ | refine qG ?_ | refine qE rfl rfl ?_)
    exact qQ rfl ⟨rfl, rfl⟩
def isP (op a : Int) : Prop := opd op ≠ -1 ∧ (opd op = 0 → a = 0) ∧ (opd op ≠ 0 → 0 ≤ a ∧ a ≤ 999)
instance (op a : Int) : Decidable (isP op a) := by unfold isP; exact inferInstance
theorem is_spec {K : FuncId} {A : AW} {op a : Int} (hw : Wf A) : CallP (ES K) 119 [.agg [.int .i64 op, .int .i64 a]] A fun r A1 => r = .bool (decide (isP op a)) ∧ Only A A1 none' := by
  have hr := opd_range op
  refine call_of rfl rfl rfl ?_
  repeat (first | refine qO ?_ | refine qA ?_)
  refine wo_box rfl rfl rfl rfl ?_
  refine wo_A (fun A1 => Only A A1 none' ∧ A1.heap.get A.nxt = some (.cells 0 false 2 [.int .i64 op, .int .i64 a])) ⟨Only.add hw _, by rw [AW.add_get, if_pos rfl]; rfl⟩ ?_
  rintro A1 ⟨o1, hx⟩
  generalize A.nxt = fx at hx
  repeat (first | refine qO ?_ | refine qA ?_ | refine qG ?_ | refine qE rfl rfl ?_ | refine qI rfl rfl rfl ?_ | refine qP rfl rfl rfl rfl (by assumption) rfl ?_)
  refine qU rfl rfl orc_cons rfl operand_spec ?_
  rintro r A2 ⟨rfl, rfl⟩
  repeat (first | refine qO ?_ | refine qY ?_ | refine qA ?_ | refine qG ?_ | refine qE rfl rfl ?_ | refine xD rfl rfl rfl ?_)
  refine qV rfl (fun h1 => ?_) fun h1 => ?_
  · have h1 : opd op = -1 := h1
    repeat (first | refine qO ?_ | refine qA ?_ | refine qG ?_ | refine qE rfl rfl ?_)
    exact qQ rfl ⟨congrArg AV.bool (decide_eq_false fun h => h.1 h1).symm, o1⟩
  have h1 : ¬ opd op = -1 := h1
  repeat (first | refine qO ?_ | refine qA ?_ | refine qG ?_ | refine qE rfl rfl ?_ | refine xD rfl rfl rfl ?_)
  refine qV rfl (fun h0 => ?_) fun h0 => ?_
  · have h0 : opd op = 0 := h0
    repeat (first | refine qO ?_ | refine qA ?_ | refine qG ?_ | refine qE rfl rfl ?_ | refine qI rfl rfl rfl ?_ | refine qP rfl rfl rfl rfl (by assumption) rfl ?_ | refine xD rfl rfl rfl ?_)
    exact qQ rfl ⟨congrArg AV.bool (decide_eq_decide.2 ⟨fun h => ⟨h1, fun _ => h, fun h' => absurd h0 h'⟩, fun h => h.2.1 h0⟩), o1⟩
  have h0 : ¬ opd op = 0 := h0
  repeat (first | refine qO ?_ | refine qS ?_ | refine xB ?_ | refine qA ?_ | refine qJ rfl rfl ?_ | refine qI rfl rfl rfl ?_ | refine qP rfl rfl rfl rfl (by assumption) rfl ?_ | refine wo_geq rfl rfl rfl ?_)
  by_cases c1 : 0 ≤ a
  · refine xA 16 true rfl (decide_eq_true c1) ?_
    repeat (first | refine qG ?_ | refine qE rfl rfl ?_ | refine qI rfl rfl rfl ?_ | refine qP rfl rfl rfl rfl (by assumption) rfl ?_ | refine wo_leq rfl rfl rfl ?_ | refine qR rfl rfl rfl ?_ | refine qX rfl ?_)
    exact qQ rfl ⟨congrArg AV.bool (decide_eq_decide.2 ⟨fun h => ⟨h1, fun h' => absurd h' h0, fun _ => ⟨c1, h⟩⟩, fun h => (h.2.2 h0).2⟩), o1⟩
  · refine xA 16 false rfl (decide_eq_false c1) ?_
    repeat (first | refine qG ?_ | refine qE rfl rfl ?_ | refine qR rfl rfl rfl ?_ | refine xE rfl rfl ?_)
    exact qQ rfl ⟨congrArg AV.bool (decide_eq_false fun h => c1 (h.2.2 h0).1).symm, o1⟩
theorem ris_spec {K : FuncId} {A : AW} {op a : Int} (hw : Wf A) : CallP (ES K) 118 [.agg [.int .i64 op, .int .i64 a]] A fun r A1 => r = .bool (decide (isP op a)) ∧ Only A A1 none' := by
  have hr := opd_range op
  refine call_of rfl rfl rfl ?_
  repeat (first | refine qO ?_ | refine qA ?_)
  refine wo_box rfl rfl rfl rfl ?_
  refine wo_A (fun A1 => Only A A1 none' ∧ A1.heap.get A.nxt = some (.cells 0 false 2 [.int .i64 op, .int .i64 a])) ⟨Only.add hw _, by rw [AW.add_get, if_pos rfl]; rfl⟩ ?_
  rintro A1 ⟨o1, hx⟩
  generalize A.nxt = fx at hx
  repeat (first | refine qO ?_ | refine qA ?_ | refine qG ?_ | refine qE rfl rfl ?_ | refine qI rfl rfl rfl ?_ | refine qP rfl rfl rfl rfl (by assumption) rfl ?_)
  refine qU rfl rfl orc_cons rfl roperand_spec ?_
  rintro r A2 ⟨rfl, rfl⟩
  repeat (first | refine qO ?_ | refine qA ?_ | refine qG ?_ | refine qJ rfl rfl ?_ | refine qE rfl rfl ?_ | refine xD rfl rfl rfl ?_)
  by_cases h0 : opd op = 0
  · refine xA 9 true rfl (decide_eq_true h0) ?_
    repeat (first | refine qJ rfl rfl ?_ | refine qI rfl rfl rfl ?_ | refine qP rfl rfl rfl rfl (by assumption) rfl ?_ | refine xD rfl rfl rfl ?_ | refine qR rfl rfl rfl ?_ | refine qX rfl ?_)
    by_cases a0 : a = 0
    · refine xA 14 true rfl (decide_eq_true a0) ?_
      repeat (first | refine qG ?_ | refine qE rfl rfl ?_ | refine qR rfl rfl rfl ?_ | refine xE rfl rfl ?_)
      exact qQ rfl ⟨congrArg AV.bool (decide_eq_true ⟨by omega, fun _ => a0, fun h => absurd h0 h⟩).symm, o1⟩
    · refine xA 14 false rfl (decide_eq_false a0) ?_
      repeat (first | refine qJ rfl rfl ?_ | refine wo_gtr rfl rfl rfl ?_ | refine qX rfl ?_)
      refine xA 17 false rfl (decide_eq_false (by omega)) ?_
      repeat (first | refine qG ?_ | refine qJ rfl rfl ?_ | refine qE rfl rfl ?_ | refine qR rfl rfl rfl ?_ | refine qX rfl ?_ | refine xE rfl rfl ?_)
      exact qQ rfl ⟨congrArg AV.bool (decide_eq_false fun h => a0 (h.2.1 h0)).symm, o1⟩
  · refine xA 9 false rfl (decide_eq_false h0) ?_
    repeat (first | refine qJ rfl rfl ?_ | refine wo_gtr rfl rfl rfl ?_ | refine qR rfl rfl rfl ?_ | refine qX rfl ?_ | refine xE rfl rfl ?_)
    by_cases hp : 0 < opd op
    · refine xA 17 true rfl (decide_eq_true hp) ?_
      repeat (first | refine qJ rfl rfl ?_ | refine qI rfl rfl rfl ?_ | refine qP rfl rfl rfl rfl (by assumption) rfl ?_ | refine wo_geq rfl rfl rfl ?_ | refine qR rfl rfl rfl ?_ | refine qX rfl ?_)
      by_cases c1 : 0 ≤ a
      · refine xA 22 true rfl (decide_eq_true c1) ?_
        repeat (first | refine qG ?_ | refine qE rfl rfl ?_ | refine qI rfl rfl rfl ?_ | refine qP rfl rfl rfl rfl (by assumption) rfl ?_ | refine wo_leq rfl rfl rfl ?_ | refine qR rfl rfl rfl ?_ | refine qX rfl ?_)
        exact qQ rfl ⟨congrArg AV.bool (decide_eq_decide.2 ⟨fun h => ⟨by omega, fun h' => absurd h' h0, fun _ => ⟨c1, h⟩⟩, fun h => (h.2.2 h0).2⟩), o1⟩
      · refine xA 22 false rfl (decide_eq_false c1) ?_
        repeat (first | refine qG ?_ | refine qE rfl rfl ?_ | refine qR rfl rfl rfl ?_ | refine qX rfl ?_ | refine xE rfl rfl ?_)
        exact qQ rfl ⟨congrArg AV.bool (decide_eq_false fun h => c1 (h.2.2 h0).1).symm, o1⟩
    · refine xA 17 false rfl (decide_eq_false hp) ?_
      repeat (first | refine qG ?_ | refine qJ rfl rfl ?_ | refine qE rfl rfl ?_ | refine qR rfl rfl rfl ?_ | refine qX rfl ?_ | refine xE rfl rfl ?_)
      exact qQ rfl ⟨congrArg AV.bool (decide_eq_false fun h => h.1 (by omega)).symm, o1⟩
end Go.Proofs.YtiecclkgjcnaoaaGreat.Ae
