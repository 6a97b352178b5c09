/-
  CodeMany: runs of the evaluator, part 5 of 6.
-/
import Derived.Test.YtokieeiohfcgdaaAfCodeMany0
namespace Go.Proofs.Ytokieeiohfcgdaa.Ae
open Go.AE Go.RowKit
set_option maxRecDepth 1000000
theorem codeMany_4 : codeManyRun 4 = true := by kernel_rfl
theorem codeMany_10 : codeManyRun 10 = true := by kernel_rfl
theorem codeMany_16 : codeManyRun 16 = true := by kernel_rfl
theorem codeMany_22 : codeManyRun 22 = true := by kernel_rfl
theorem codeMany_28 : codeManyRun 28 = true := by kernel_rfl
theorem codeMany_34 : codeManyRun 34 = true := by kernel_rfl
end Go.Proofs.Ytokieeiohfcgdaa.Ae
