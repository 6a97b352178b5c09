/-
  TypesFit: runs of the evaluator, part 1 of 4.
-/
import Derived.Test.YtokieeiohfcgdaaAeKnown
namespace Go.Proofs.Ytokieeiohfcgdaa.Ae
open Go.AE Go.RowKit
set_option maxRecDepth 1000000
/-- One run, by its number. -/
noncomputable def typesFitRun (i : Nat) : Bool := yes (AE.call (envK Try.prog 14) 1000000 6 [.rest .u8 6 (Nat.mod (Nat.div i 1) 6), .rest .u8 6 (Nat.mod (Nat.div i 6) 6), .bool (Nat.beq (Nat.mod (Nat.div i 36) 2) 1)] ⟨.nil, 0⟩)
theorem typesFit_0 : span typesFitRun 6 0 = true := by kernel_rfl
theorem typesFit_6 : span typesFitRun 6 6 = true := by kernel_rfl
theorem typesFit_12 : span typesFitRun 6 12 = true := by kernel_rfl
end Go.Proofs.Ytokieeiohfcgdaa.Ae
