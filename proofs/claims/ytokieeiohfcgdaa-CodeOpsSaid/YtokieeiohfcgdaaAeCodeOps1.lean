/-
  CodeOps: runs of the evaluator, part 2 of 8.
-/
import Derived.Test.YtokieeiohfcgdaaAeCodeOps0
namespace Go.Proofs.Ytokieeiohfcgdaa.Ae
open Go.AE Go.RowKit
set_option maxRecDepth 1000000
theorem codeOps_288 : span codeOpsRun 32 288 = true := by kernel_rfl
theorem codeOps_320 : span codeOpsRun 32 320 = true := by kernel_rfl
theorem codeOps_352 : span codeOpsRun 32 352 = true := by kernel_rfl
theorem codeOps_384 : span codeOpsRun 32 384 = true := by kernel_rfl
theorem codeOps_416 : span codeOpsRun 32 416 = true := by kernel_rfl
theorem codeOps_448 : span codeOpsRun 32 448 = true := by kernel_rfl
theorem codeOps_480 : span codeOpsRun 32 480 = true := by kernel_rfl
theorem codeOps_512 : span codeOpsRun 32 512 = true := by kernel_rfl
theorem codeOps_544 : span codeOpsRun 32 544 = true := by kernel_rfl
end Go.Proofs.Ytokieeiohfcgdaa.Ae
