/-
  CheckPairs: runs of the evaluator, part 2 of 9.
-/
import Derived.Test.YtafamggbkobcfaaAeCheckPairs0
namespace Go.Proofs.Ytafamggbkobcfaa.Ae
open Go.AE Go.RowKit
set_option maxRecDepth 1000000
theorem checkPairs_24 : span checkPairsRun 8 24 = true := by kernel_rfl
theorem checkPairs_32 : span checkPairsRun 8 32 = true := by kernel_rfl
theorem checkPairs_40 : span checkPairsRun 8 40 = true := by kernel_rfl
end Go.Proofs.Ytafamggbkobcfaa.Ae
