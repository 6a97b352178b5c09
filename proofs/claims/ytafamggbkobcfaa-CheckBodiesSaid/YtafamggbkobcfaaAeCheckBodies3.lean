/-
  CheckBodies: runs of the evaluator, part 4 of 4.
-/
import Derived.Test.YtafamggbkobcfaaAeCheckBodies0
namespace Go.Proofs.Ytafamggbkobcfaa.Ae
open Go.AE Go.RowKit
set_option maxRecDepth 1000000
theorem checkBodies_12 : span checkBodiesRun 1 12 = true := by kernel_rfl
theorem checkBodies_13 : span checkBodiesRun 1 13 = true := by kernel_rfl
theorem checkBodies_14 : span checkBodiesRun 1 14 = true := by kernel_rfl
theorem checkBodies_15 : span checkBodiesRun 1 15 = true := by kernel_rfl
end Go.Proofs.Ytafamggbkobcfaa.Ae
