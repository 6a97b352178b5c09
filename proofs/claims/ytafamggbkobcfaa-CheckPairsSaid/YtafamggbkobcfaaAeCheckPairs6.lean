/-
  CheckPairs: runs of the evaluator, part 7 of 9.
-/
import Derived.Test.YtafamggbkobcfaaAeCheckPairs0
namespace Go.Proofs.Ytafamggbkobcfaa.Ae
open Go.AE Go.RowKit
set_option maxRecDepth 1000000
theorem checkPairs_144 : span checkPairsRun 8 144 = true := by kernel_rfl
theorem checkPairs_152 : span checkPairsRun 8 152 = true := by kernel_rfl
theorem checkPairs_160 : span checkPairsRun 8 160 = true := by kernel_rfl
end Go.Proofs.Ytafamggbkobcfaa.Ae
