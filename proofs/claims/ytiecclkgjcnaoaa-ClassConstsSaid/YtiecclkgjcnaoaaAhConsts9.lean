/-
  ClassConsts: runs of the evaluator, part 10 of 16.
-/
import Derived.Test.YtiecclkgjcnaoaaAhConsts0
namespace Go.Proofs.Ytiecclkgjcnaoaa.Ae
open Go.AE Go.RowKit
set_option maxRecDepth 1000000
theorem cplx_48 : span cplxRun 4 48 = true := by kernel_rfl
theorem cplx_112 : span cplxRun 4 112 = true := by kernel_rfl
theorem cplx_176 : span cplxRun 4 176 = true := by kernel_rfl
theorem cplx_240 : span cplxRun 4 240 = true := by kernel_rfl
theorem cplx_304 : span cplxRun 4 304 = true := by kernel_rfl
theorem cplx_368 : span cplxRun 4 368 = true := by kernel_rfl
theorem cplx_432 : span cplxRun 4 432 = true := by kernel_rfl
theorem cplx_496 : span cplxRun 4 496 = true := by kernel_rfl
theorem cplx_560 : span cplxRun 4 560 = true := by kernel_rfl
theorem int_36 : span intRun 4 36 = true := by kernel_rfl
theorem int_100 : span intRun 4 100 = true := by kernel_rfl
theorem int_164 : span intRun 4 164 = true := by kernel_rfl
theorem int_228 : span intRun 4 228 = true := by kernel_rfl
theorem int_292 : span intRun 4 292 = true := by kernel_rfl
theorem int_356 : span intRun 4 356 = true := by kernel_rfl
end Go.Proofs.Ytiecclkgjcnaoaa.Ae
