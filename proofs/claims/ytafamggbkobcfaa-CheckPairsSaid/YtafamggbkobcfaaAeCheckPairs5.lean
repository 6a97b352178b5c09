/-
  CheckPairs: runs of the evaluator, part 6 of 9.
-/
import Derived.Test.YtafamggbkobcfaaAeCheckPairs0
namespace Go.Proofs.Ytafamggbkobcfaa.Ae
open Go.AE Go.RowKit
set_option maxRecDepth 1000000
theorem checkPairs_120 : span checkPairsRun 8 120 = true := by kernel_rfl
theorem checkPairs_128 : span checkPairsRun 8 128 = true := by kernel_rfl
theorem checkPairs_136 : span checkPairsRun 8 136 = true := by kernel_rfl
end Go.Proofs.Ytafamggbkobcfaa.Ae
