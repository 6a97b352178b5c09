/-
  ClassConsts: runs of the evaluator, part 3 of 16.
-/
import Derived.Test.YtiecclkgjcnaoaaAhConsts0
namespace Go.Proofs.Ytiecclkgjcnaoaa.Ae
open Go.AE Go.RowKit
set_option maxRecDepth 1000000
theorem cplx_20 : span cplxRun 4 20 = true := by kernel_rfl
theorem cplx_84 : span cplxRun 4 84 = true := by kernel_rfl
theorem cplx_148 : span cplxRun 4 148 = true := by kernel_rfl
theorem cplx_212 : span cplxRun 4 212 = true := by kernel_rfl
theorem cplx_276 : span cplxRun 4 276 = true := by kernel_rfl
theorem cplx_340 : span cplxRun 4 340 = true := by kernel_rfl
theorem cplx_404 : span cplxRun 4 404 = true := by kernel_rfl
theorem cplx_468 : span cplxRun 4 468 = true := by kernel_rfl
theorem cplx_532 : span cplxRun 4 532 = true := by kernel_rfl
theorem cplx_596 : span cplxRun 1 596 = true := by kernel_rfl
theorem int_8 : span intRun 4 8 = true := by kernel_rfl
theorem int_72 : span intRun 4 72 = true := by kernel_rfl
theorem int_136 : span intRun 4 136 = true := by kernel_rfl
theorem int_200 : span intRun 4 200 = true := by kernel_rfl
theorem int_264 : span intRun 4 264 = true := by kernel_rfl
theorem int_328 : span intRun 4 328 = true := by kernel_rfl
end Go.Proofs.Ytiecclkgjcnaoaa.Ae
