/-
  WireGroups: the evaluator's runs, one for each number of groups of seven bits; so does the model's call.
-/
import Derived.Test.YtejmdglmldjliaaAfKnown
namespace Go.Proofs.Ytejmdglmldjliaa.Ae
open Go.AE Go.RowKit
set_option maxRecDepth 1000000
/-- One run: of all numbers between two. -/
noncomputable def wireGroupsRun (lo hi : Nat) : Bool := yes (R.run (envL 13) 1000000 3 [.rng .u64 lo hi] ⟨.nil, 0⟩)
theorem wireGroups_0 : wireGroupsRun 0 127 = true := by kernel_rfl
theorem wireGroups_1 : wireGroupsRun 128 16383 = true := by kernel_rfl
theorem wireGroups_2 : wireGroupsRun 16384 2097151 = true := by kernel_rfl
theorem wireGroups_3 : wireGroupsRun 2097152 268435455 = true := by kernel_rfl
theorem wireGroups_4 : wireGroupsRun 268435456 34359738367 = true := by kernel_rfl
theorem wireGroups_5 : wireGroupsRun 34359738368 4398046511103 = true := by kernel_rfl
theorem wireGroups_6 : wireGroupsRun 4398046511104 562949953421311 = true := by kernel_rfl
theorem wireGroups_7 : wireGroupsRun 562949953421312 72057594037927935 = true := by kernel_rfl
theorem wireGroups_8 : wireGroupsRun 72057594037927936 9223372036854775807 = true := by kernel_rfl
theorem wireGroups_9 : wireGroupsRun 9223372036854775808 18446744073709551615 = true := by kernel_rfl
/-- A word. -/
theorem word_of {a : Int} (w : (Lit.int .u64 a).wf = true) : ∃ n : Nat, n ≤ 18446744073709551615 ∧ a = Int.ofNat n := by
  have h : 0 ≤ a ∧ a ≤ 18446744073709551615 := by
    simp only [Lit.wf, Bool.and_eq_true, decide_eq_true_eq] at w
    have h1 : IntKind.u64.min = 0 := by decide
    have h2 : IntKind.u64.max = 18446744073709551615 := by decide
    rw [h1, h2] at w
    omega
  exact ⟨a.toNat, by omega, by simp; omega⟩
theorem wireGroups (a0 : Int) (w0 : (Lit.int .u64 a0).wf = true) (w : World) : Calls Try.prog 3 #[.int .u64 a0] w fun e w' => e = .returned (.bool true) ∧ Below w.heap.size w w' := by
  obtain ⟨n, hn, rfl⟩ := word_of w0
  have key : ∀ lo hi, wireGroupsRun lo hi = true → lo ≤ n → n ≤ hi → Calls Try.prog 3 #[.int .u64 (Int.ofNat n)] w fun e w' => e = .returned (.bool true) ∧ Below w.heap.size w w' :=
    fun lo hi h h1 h2 => R.top envKnown h (LRel.cons (.rng _ h1 h2) (LRel.nil _)) w
  by_cases h0 : n ≤ 127
  · exact key _ _ wireGroups_0 (by omega) (by omega)
  by_cases h1 : n ≤ 16383
  · exact key _ _ wireGroups_1 (by omega) (by omega)
  by_cases h2 : n ≤ 2097151
  · exact key _ _ wireGroups_2 (by omega) (by omega)
  by_cases h3 : n ≤ 268435455
  · exact key _ _ wireGroups_3 (by omega) (by omega)
  by_cases h4 : n ≤ 34359738367
  · exact key _ _ wireGroups_4 (by omega) (by omega)
  by_cases h5 : n ≤ 4398046511103
  · exact key _ _ wireGroups_5 (by omega) (by omega)
  by_cases h6 : n ≤ 562949953421311
  · exact key _ _ wireGroups_6 (by omega) (by omega)
  by_cases h7 : n ≤ 72057594037927935
  · exact key _ _ wireGroups_7 (by omega) (by omega)
  by_cases h8 : n ≤ 9223372036854775807
  · exact key _ _ wireGroups_8 (by omega) (by omega)
  exact key _ _ wireGroups_9 (by omega) (by omega)
end Go.Proofs.Ytejmdglmldjliaa.Ae
