/-
  CodeMany: runs of the evaluator, part 2 of 6.
-/
import Derived.Test.YtokieeiohfcgdaaAfCodeMany0
namespace Go.Proofs.Ytokieeiohfcgdaa.Ae
open Go.AE Go.RowKit
set_option maxRecDepth 1000000
theorem codeMany_1 : codeManyRun 1 = true := by kernel_rfl
theorem codeMany_7 : codeManyRun 7 = true := by kernel_rfl
theorem codeMany_13 : codeManyRun 13 = true := by kernel_rfl
theorem codeMany_19 : codeManyRun 19 = true := by kernel_rfl
theorem codeMany_25 : codeManyRun 25 = true := by kernel_rfl
theorem codeMany_31 : codeManyRun 31 = true := by kernel_rfl
theorem codeMany_37 : codeManyRun 37 = true := by kernel_rfl
end Go.Proofs.Ytokieeiohfcgdaa.Ae
