/-
  CheckPairs: runs of the evaluator, part 8 of 9.
-/
import Derived.Test.YtafamggbkobcfaaAeCheckPairs0
namespace Go.Proofs.Ytafamggbkobcfaa.Ae
open Go.AE Go.RowKit
set_option maxRecDepth 1000000
theorem checkPairs_168 : span checkPairsRun 8 168 = true := by kernel_rfl
theorem checkPairs_176 : span checkPairsRun 8 176 = true := by kernel_rfl
theorem checkPairs_184 : span checkPairsRun 8 184 = true := by kernel_rfl
end Go.Proofs.Ytafamggbkobcfaa.Ae
