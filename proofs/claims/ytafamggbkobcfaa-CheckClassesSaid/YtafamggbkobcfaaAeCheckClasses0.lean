/-
  CheckClasses: runs of the evaluator, part 1 of 1.
-/
import Derived.Test.YtafamggbkobcfaaAeKnown
namespace Go.Proofs.Ytafamggbkobcfaa.Ae
open Go.AE Go.RowKit
set_option maxRecDepth 1000000
/-- One run, by its number. -/
noncomputable def checkClassesRun (i : Nat) : Bool := yes (R.run (envL 8) 1000000 6 [.rest .u8 9 (Nat.mod (Nat.div i 1) 9)] ⟨.nil, 0⟩)
theorem checkClasses_0 : span checkClassesRun 3 0 = true := by kernel_rfl
theorem checkClasses_3 : span checkClassesRun 3 3 = true := by kernel_rfl
theorem checkClasses_6 : span checkClassesRun 3 6 = true := by kernel_rfl
end Go.Proofs.Ytafamggbkobcfaa.Ae
