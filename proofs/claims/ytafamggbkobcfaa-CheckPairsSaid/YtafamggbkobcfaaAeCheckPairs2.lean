/-
  CheckPairs: runs of the evaluator, part 3 of 9.
-/
import Derived.Test.YtafamggbkobcfaaAeCheckPairs0
namespace Go.Proofs.Ytafamggbkobcfaa.Ae
open Go.AE Go.RowKit
set_option maxRecDepth 1000000
theorem checkPairs_48 : span checkPairsRun 8 48 = true := by kernel_rfl
theorem checkPairs_56 : span checkPairsRun 8 56 = true := by kernel_rfl
theorem checkPairs_64 : span checkPairsRun 8 64 = true := by kernel_rfl
end Go.Proofs.Ytafamggbkobcfaa.Ae
