/-
  CodeOps: runs of the evaluator, part 6 of 8.
-/
import Derived.Test.YtokieeiohfcgdaaAeCodeOps0
namespace Go.Proofs.Ytokieeiohfcgdaa.Ae
open Go.AE Go.RowKit
set_option maxRecDepth 1000000
theorem codeOps_1440 : span codeOpsRun 32 1440 = true := by kernel_rfl
theorem codeOps_1472 : span codeOpsRun 32 1472 = true := by kernel_rfl
theorem codeOps_1504 : span codeOpsRun 32 1504 = true := by kernel_rfl
theorem codeOps_1536 : span codeOpsRun 32 1536 = true := by kernel_rfl
theorem codeOps_1568 : span codeOpsRun 32 1568 = true := by kernel_rfl
theorem codeOps_1600 : span codeOpsRun 32 1600 = true := by kernel_rfl
theorem codeOps_1632 : span codeOpsRun 32 1632 = true := by kernel_rfl
theorem codeOps_1664 : span codeOpsRun 32 1664 = true := by kernel_rfl
theorem codeOps_1696 : span codeOpsRun 32 1696 = true := by kernel_rfl
end Go.Proofs.Ytokieeiohfcgdaa.Ae
