/-
  CodeMany: runs of the evaluator, part 4 of 6.
-/
import Derived.Test.YtokieeiohfcgdaaAfCodeMany0
namespace Go.Proofs.Ytokieeiohfcgdaa.Ae
open Go.AE Go.RowKit
set_option maxRecDepth 1000000
theorem codeMany_3 : codeManyRun 3 = true := by kernel_rfl
theorem codeMany_9 : codeManyRun 9 = true := by kernel_rfl
theorem codeMany_15 : codeManyRun 15 = true := by kernel_rfl
theorem codeMany_21 : codeManyRun 21 = true := by kernel_rfl
theorem codeMany_27 : codeManyRun 27 = true := by kernel_rfl
theorem codeMany_33 : codeManyRun 33 = true := by kernel_rfl
theorem codeMany_39 : codeManyRun 39 = true := by kernel_rfl
end Go.Proofs.Ytokieeiohfcgdaa.Ae
