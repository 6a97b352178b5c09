/-
  CheckPairs: runs of the evaluator, part 1 of 9.
-/
import Derived.Test.YtafamggbkobcfaaAeKnown
namespace Go.Proofs.Ytafamggbkobcfaa.Ae
open Go.AE Go.RowKit
set_option maxRecDepth 1000000
/-- One run, by its number. -/
noncomputable def checkPairsRun (i : Nat) : Bool := yes (R.run (envL 8) 1000000 7 [.rest .u8 5 (Nat.mod (Nat.div i 1) 5), .rest .u8 5 (Nat.mod (Nat.div i 5) 5), .rest .u8 8 (Nat.mod (Nat.div i 25) 8)] ⟨.nil, 0⟩)
theorem checkPairs_0 : span checkPairsRun 8 0 = true := by kernel_rfl
theorem checkPairs_8 : span checkPairsRun 8 8 = true := by kernel_rfl
theorem checkPairs_16 : span checkPairsRun 8 16 = true := by kernel_rfl
end Go.Proofs.Ytafamggbkobcfaa.Ae
