/-
  ClassConsts: runs of the evaluator, part 8 of 16.
-/
import Derived.Test.YtiecclkgjcnaoaaAhConsts0
namespace Go.Proofs.Ytiecclkgjcnaoaa.Ae
open Go.AE Go.RowKit
set_option maxRecDepth 1000000
theorem cplx_40 : span cplxRun 4 40 = true := by kernel_rfl
theorem cplx_104 : span cplxRun 4 104 = true := by kernel_rfl
theorem cplx_168 : span cplxRun 4 168 = true := by kernel_rfl
theorem cplx_232 : span cplxRun 4 232 = true := by kernel_rfl
theorem cplx_296 : span cplxRun 4 296 = true := by kernel_rfl
theorem cplx_360 : span cplxRun 4 360 = true := by kernel_rfl
theorem cplx_424 : span cplxRun 4 424 = true := by kernel_rfl
theorem cplx_488 : span cplxRun 4 488 = true := by kernel_rfl
theorem cplx_552 : span cplxRun 4 552 = true := by kernel_rfl
theorem int_28 : span intRun 4 28 = true := by kernel_rfl
theorem int_92 : span intRun 4 92 = true := by kernel_rfl
theorem int_156 : span intRun 4 156 = true := by kernel_rfl
theorem int_220 : span intRun 4 220 = true := by kernel_rfl
theorem int_284 : span intRun 4 284 = true := by kernel_rfl
theorem int_348 : span intRun 4 348 = true := by kernel_rfl
end Go.Proofs.Ytiecclkgjcnaoaa.Ae
