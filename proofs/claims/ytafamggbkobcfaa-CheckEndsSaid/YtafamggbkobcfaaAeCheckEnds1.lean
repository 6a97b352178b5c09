/-
  CheckEnds: runs of the evaluator, part 2 of 2.
-/
import Derived.Test.YtafamggbkobcfaaAeCheckEnds0
namespace Go.Proofs.Ytafamggbkobcfaa.Ae
open Go.AE Go.RowKit
set_option maxRecDepth 1000000
theorem checkEnds_6 : span checkEndsRun 2 6 = true := by kernel_rfl
theorem checkEnds_8 : span checkEndsRun 2 8 = true := by kernel_rfl
end Go.Proofs.Ytafamggbkobcfaa.Ae
