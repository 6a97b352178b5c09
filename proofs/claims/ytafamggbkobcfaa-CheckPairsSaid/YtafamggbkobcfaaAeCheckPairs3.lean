/-
  CheckPairs: runs of the evaluator, part 4 of 9.
-/
import Derived.Test.YtafamggbkobcfaaAeCheckPairs0
namespace Go.Proofs.Ytafamggbkobcfaa.Ae
open Go.AE Go.RowKit
set_option maxRecDepth 1000000
theorem checkPairs_72 : span checkPairsRun 8 72 = true := by kernel_rfl
theorem checkPairs_80 : span checkPairsRun 8 80 = true := by kernel_rfl
theorem checkPairs_88 : span checkPairsRun 8 88 = true := by kernel_rfl
end Go.Proofs.Ytafamggbkobcfaa.Ae
