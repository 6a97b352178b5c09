/-
  CodeOps: runs of the evaluator, part 8 of 8.
-/
import Derived.Test.YtokieeiohfcgdaaAeCodeOps0
namespace Go.Proofs.Ytokieeiohfcgdaa.Ae
open Go.AE Go.RowKit
set_option maxRecDepth 1000000
theorem codeOps_2016 : span codeOpsRun 32 2016 = true := by kernel_rfl
theorem codeOps_2048 : span codeOpsRun 32 2048 = true := by kernel_rfl
theorem codeOps_2080 : span codeOpsRun 32 2080 = true := by kernel_rfl
theorem codeOps_2112 : span codeOpsRun 32 2112 = true := by kernel_rfl
theorem codeOps_2144 : span codeOpsRun 32 2144 = true := by kernel_rfl
theorem codeOps_2176 : span codeOpsRun 32 2176 = true := by kernel_rfl
theorem codeOps_2208 : span codeOpsRun 32 2208 = true := by kernel_rfl
theorem codeOps_2240 : span codeOpsRun 32 2240 = true := by kernel_rfl
theorem codeOps_2272 : span codeOpsRun 32 2272 = true := by kernel_rfl
end Go.Proofs.Ytokieeiohfcgdaa.Ae
