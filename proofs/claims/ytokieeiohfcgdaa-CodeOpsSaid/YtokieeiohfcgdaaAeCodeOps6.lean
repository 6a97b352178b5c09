/-
  CodeOps: runs of the evaluator, part 7 of 8.
-/
import Derived.Test.YtokieeiohfcgdaaAeCodeOps0
namespace Go.Proofs.Ytokieeiohfcgdaa.Ae
open Go.AE Go.RowKit
set_option maxRecDepth 1000000
theorem codeOps_1728 : span codeOpsRun 32 1728 = true := by kernel_rfl
theorem codeOps_1760 : span codeOpsRun 32 1760 = true := by kernel_rfl
theorem codeOps_1792 : span codeOpsRun 32 1792 = true := by kernel_rfl
theorem codeOps_1824 : span codeOpsRun 32 1824 = true := by kernel_rfl
theorem codeOps_1856 : span codeOpsRun 32 1856 = true := by kernel_rfl
theorem codeOps_1888 : span codeOpsRun 32 1888 = true := by kernel_rfl
theorem codeOps_1920 : span codeOpsRun 32 1920 = true := by kernel_rfl
theorem codeOps_1952 : span codeOpsRun 32 1952 = true := by kernel_rfl
theorem codeOps_1984 : span codeOpsRun 32 1984 = true := by kernel_rfl
end Go.Proofs.Ytokieeiohfcgdaa.Ae
