/-
  CheckPairs: runs of the evaluator, part 5 of 9.
-/
import Derived.Test.YtafamggbkobcfaaAeCheckPairs0
namespace Go.Proofs.Ytafamggbkobcfaa.Ae
open Go.AE Go.RowKit
set_option maxRecDepth 1000000
theorem checkPairs_96 : span checkPairsRun 8 96 = true := by kernel_rfl
theorem checkPairs_104 : span checkPairsRun 8 104 = true := by kernel_rfl
theorem checkPairs_112 : span checkPairsRun 8 112 = true := by kernel_rfl
end Go.Proofs.Ytafamggbkobcfaa.Ae
