/-
  CodeOps: runs of the evaluator, part 5 of 8.
-/
import Derived.Test.YtokieeiohfcgdaaAeCodeOps0
namespace Go.Proofs.Ytokieeiohfcgdaa.Ae
open Go.AE Go.RowKit
set_option maxRecDepth 1000000
theorem codeOps_1152 : span codeOpsRun 32 1152 = true := by kernel_rfl
theorem codeOps_1184 : span codeOpsRun 32 1184 = true := by kernel_rfl
theorem codeOps_1216 : span codeOpsRun 32 1216 = true := by kernel_rfl
theorem codeOps_1248 : span codeOpsRun 32 1248 = true := by kernel_rfl
theorem codeOps_1280 : span codeOpsRun 32 1280 = true := by kernel_rfl
theorem codeOps_1312 : span codeOpsRun 32 1312 = true := by kernel_rfl
theorem codeOps_1344 : span codeOpsRun 32 1344 = true := by kernel_rfl
theorem codeOps_1376 : span codeOpsRun 32 1376 = true := by kernel_rfl
theorem codeOps_1408 : span codeOpsRun 32 1408 = true := by kernel_rfl
end Go.Proofs.Ytokieeiohfcgdaa.Ae
