/-
  CodeOps: runs of the evaluator, part 3 of 8.
-/
import Derived.Test.YtokieeiohfcgdaaAeCodeOps0
namespace Go.Proofs.Ytokieeiohfcgdaa.Ae
open Go.AE Go.RowKit
set_option maxRecDepth 1000000
theorem codeOps_576 : span codeOpsRun 32 576 = true := by kernel_rfl
theorem codeOps_608 : span codeOpsRun 32 608 = true := by kernel_rfl
theorem codeOps_640 : span codeOpsRun 32 640 = true := by kernel_rfl
theorem codeOps_672 : span codeOpsRun 32 672 = true := by kernel_rfl
theorem codeOps_704 : span codeOpsRun 32 704 = true := by kernel_rfl
theorem codeOps_736 : span codeOpsRun 32 736 = true := by kernel_rfl
theorem codeOps_768 : span codeOpsRun 32 768 = true := by kernel_rfl
theorem codeOps_800 : span codeOpsRun 32 800 = true := by kernel_rfl
theorem codeOps_832 : span codeOpsRun 32 832 = true := by kernel_rfl
end Go.Proofs.Ytokieeiohfcgdaa.Ae
