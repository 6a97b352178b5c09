/-
  CheckBodies: runs of the evaluator, part 3 of 4.
-/
import Derived.Test.YtafamggbkobcfaaAeCheckBodies0
namespace Go.Proofs.Ytafamggbkobcfaa.Ae
open Go.AE Go.RowKit
set_option maxRecDepth 1000000
theorem checkBodies_8 : span checkBodiesRun 1 8 = true := by kernel_rfl
theorem checkBodies_9 : span checkBodiesRun 1 9 = true := by kernel_rfl
theorem checkBodies_10 : span checkBodiesRun 1 10 = true := by kernel_rfl
theorem checkBodies_11 : span checkBodiesRun 1 11 = true := by kernel_rfl
end Go.Proofs.Ytafamggbkobcfaa.Ae
