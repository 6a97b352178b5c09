/-
  CodeMany: runs of the evaluator, part 3 of 6.
-/
import Derived.Test.YtokieeiohfcgdaaAfCodeMany0
namespace Go.Proofs.Ytokieeiohfcgdaa.Ae
open Go.AE Go.RowKit
set_option maxRecDepth 1000000
theorem codeMany_2 : codeManyRun 2 = true := by kernel_rfl
theorem codeMany_8 : codeManyRun 8 = true := by kernel_rfl
theorem codeMany_14 : codeManyRun 14 = true := by kernel_rfl
theorem codeMany_20 : codeManyRun 20 = true := by kernel_rfl
theorem codeMany_26 : codeManyRun 26 = true := by kernel_rfl
theorem codeMany_32 : codeManyRun 32 = true := by kernel_rfl
theorem codeMany_38 : codeManyRun 38 = true := by kernel_rfl
end Go.Proofs.Ytokieeiohfcgdaa.Ae
