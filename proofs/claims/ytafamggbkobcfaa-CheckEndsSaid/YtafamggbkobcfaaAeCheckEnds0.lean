/-
  CheckEnds: runs of the evaluator, part 1 of 2.
-/
import Derived.Test.YtafamggbkobcfaaAeKnown
namespace Go.Proofs.Ytafamggbkobcfaa.Ae
open Go.AE Go.RowKit
set_option maxRecDepth 1000000
/-- One run, by its number. -/
noncomputable def checkEndsRun (i : Nat) : Bool := yes (R.run (envL 8) 1000000 5 [.rest .u8 10 (Nat.mod (Nat.div i 1) 10)] ⟨.nil, 0⟩)
theorem checkEnds_0 : span checkEndsRun 2 0 = true := by kernel_rfl
theorem checkEnds_2 : span checkEndsRun 2 2 = true := by kernel_rfl
theorem checkEnds_4 : span checkEndsRun 2 4 = true := by kernel_rfl
end Go.Proofs.Ytafamggbkobcfaa.Ae
