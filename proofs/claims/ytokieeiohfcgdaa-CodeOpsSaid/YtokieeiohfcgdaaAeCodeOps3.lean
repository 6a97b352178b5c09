/-
  CodeOps: runs of the evaluator, part 4 of 8.
-/
import Derived.Test.YtokieeiohfcgdaaAeCodeOps0
namespace Go.Proofs.Ytokieeiohfcgdaa.Ae
open Go.AE Go.RowKit
set_option maxRecDepth 1000000
theorem codeOps_864 : span codeOpsRun 32 864 = true := by kernel_rfl
theorem codeOps_896 : span codeOpsRun 32 896 = true := by kernel_rfl
theorem codeOps_928 : span codeOpsRun 32 928 = true := by kernel_rfl
theorem codeOps_960 : span codeOpsRun 32 960 = true := by kernel_rfl
theorem codeOps_992 : span codeOpsRun 32 992 = true := by kernel_rfl
theorem codeOps_1024 : span codeOpsRun 32 1024 = true := by kernel_rfl
theorem codeOps_1056 : span codeOpsRun 32 1056 = true := by kernel_rfl
theorem codeOps_1088 : span codeOpsRun 32 1088 = true := by kernel_rfl
theorem codeOps_1120 : span codeOpsRun 32 1120 = true := by kernel_rfl
end Go.Proofs.Ytokieeiohfcgdaa.Ae
