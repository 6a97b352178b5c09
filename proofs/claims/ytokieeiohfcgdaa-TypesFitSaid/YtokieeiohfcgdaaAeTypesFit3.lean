/-
  TypesFit: runs of the evaluator, part 4 of 4.
-/
import Derived.Test.YtokieeiohfcgdaaAeTypesFit0
namespace Go.Proofs.Ytokieeiohfcgdaa.Ae
open Go.AE Go.RowKit
set_option maxRecDepth 1000000
theorem typesFit_54 : span typesFitRun 6 54 = true := by kernel_rfl
theorem typesFit_60 : span typesFitRun 6 60 = true := by kernel_rfl
theorem typesFit_66 : span typesFitRun 6 66 = true := by kernel_rfl
end Go.Proofs.Ytokieeiohfcgdaa.Ae
