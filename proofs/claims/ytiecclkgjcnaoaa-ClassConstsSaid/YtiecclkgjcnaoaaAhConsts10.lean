/-
  ClassConsts: runs of the evaluator, part 11 of 16.
-/
import Derived.Test.YtiecclkgjcnaoaaAhConsts0
namespace Go.Proofs.Ytiecclkgjcnaoaa.Ae
open Go.AE Go.RowKit
set_option maxRecDepth 1000000
theorem cplx_52 : span cplxRun 4 52 = true := by kernel_rfl
theorem cplx_116 : span cplxRun 4 116 = true := by kernel_rfl
theorem cplx_180 : span cplxRun 4 180 = true := by kernel_rfl
theorem cplx_244 : span cplxRun 4 244 = true := by kernel_rfl
theorem cplx_308 : span cplxRun 4 308 = true := by kernel_rfl
theorem cplx_372 : span cplxRun 4 372 = true := by kernel_rfl
theorem cplx_436 : span cplxRun 4 436 = true := by kernel_rfl
theorem cplx_500 : span cplxRun 4 500 = true := by kernel_rfl
theorem cplx_564 : span cplxRun 4 564 = true := by kernel_rfl
theorem int_40 : span intRun 4 40 = true := by kernel_rfl
theorem int_104 : span intRun 4 104 = true := by kernel_rfl
theorem int_168 : span intRun 4 168 = true := by kernel_rfl
theorem int_232 : span intRun 4 232 = true := by kernel_rfl
theorem int_296 : span intRun 4 296 = true := by kernel_rfl
theorem int_360 : span intRun 4 360 = true := by kernel_rfl
end Go.Proofs.Ytiecclkgjcnaoaa.Ae
