/-
  CheckPairs: runs of the evaluator, part 9 of 9.
-/
import Derived.Test.YtafamggbkobcfaaAeCheckPairs0
namespace Go.Proofs.Ytafamggbkobcfaa.Ae
open Go.AE Go.RowKit
set_option maxRecDepth 1000000
theorem checkPairs_192 : span checkPairsRun 8 192 = true := by kernel_rfl
end Go.Proofs.Ytafamggbkobcfaa.Ae
