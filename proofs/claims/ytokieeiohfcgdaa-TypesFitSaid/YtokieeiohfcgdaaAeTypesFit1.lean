/-
  TypesFit: runs of the evaluator, part 2 of 4.
-/
import Derived.Test.YtokieeiohfcgdaaAeTypesFit0
namespace Go.Proofs.Ytokieeiohfcgdaa.Ae
open Go.AE Go.RowKit
set_option maxRecDepth 1000000
theorem typesFit_18 : span typesFitRun 6 18 = true := by kernel_rfl
theorem typesFit_24 : span typesFitRun 6 24 = true := by kernel_rfl
theorem typesFit_30 : span typesFitRun 6 30 = true := by kernel_rfl
end Go.Proofs.Ytokieeiohfcgdaa.Ae
