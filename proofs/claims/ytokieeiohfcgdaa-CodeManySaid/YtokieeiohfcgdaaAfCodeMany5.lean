/-
  CodeMany: runs of the evaluator, part 6 of 6.
-/
import Derived.Test.YtokieeiohfcgdaaAfCodeMany0
namespace Go.Proofs.Ytokieeiohfcgdaa.Ae
open Go.AE Go.RowKit
set_option maxRecDepth 1000000
theorem codeMany_5 : codeManyRun 5 = true := by kernel_rfl
theorem codeMany_11 : codeManyRun 11 = true := by kernel_rfl
theorem codeMany_17 : codeManyRun 17 = true := by kernel_rfl
theorem codeMany_23 : codeManyRun 23 = true := by kernel_rfl
theorem codeMany_29 : codeManyRun 29 = true := by kernel_rfl
theorem codeMany_35 : codeManyRun 35 = true := by kernel_rfl
end Go.Proofs.Ytokieeiohfcgdaa.Ae
