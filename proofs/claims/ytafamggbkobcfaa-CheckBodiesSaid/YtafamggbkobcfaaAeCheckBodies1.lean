/-
  CheckBodies: runs of the evaluator, part 2 of 4.
-/
import Derived.Test.YtafamggbkobcfaaAeCheckBodies0
namespace Go.Proofs.Ytafamggbkobcfaa.Ae
open Go.AE Go.RowKit
set_option maxRecDepth 1000000
theorem checkBodies_4 : span checkBodiesRun 1 4 = true := by kernel_rfl
theorem checkBodies_5 : span checkBodiesRun 1 5 = true := by kernel_rfl
theorem checkBodies_6 : span checkBodiesRun 1 6 = true := by kernel_rfl
theorem checkBodies_7 : span checkBodiesRun 1 7 = true := by kernel_rfl
end Go.Proofs.Ytafamggbkobcfaa.Ae
