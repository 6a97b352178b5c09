/-
  TypesFit: runs of the evaluator, part 3 of 4.
-/
import Derived.Test.YtokieeiohfcgdaaAeTypesFit0
namespace Go.Proofs.Ytokieeiohfcgdaa.Ae
open Go.AE Go.RowKit
set_option maxRecDepth 1000000
theorem typesFit_36 : span typesFitRun 6 36 = true := by kernel_rfl
theorem typesFit_42 : span typesFitRun 6 42 = true := by kernel_rfl
theorem typesFit_48 : span typesFitRun 6 48 = true := by kernel_rfl
end Go.Proofs.Ytokieeiohfcgdaa.Ae
