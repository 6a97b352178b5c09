/-
  ClassConsts: runs of the evaluator, part 16 of 16.
-/
import Derived.Test.YtiecclkgjcnaoaaAhConsts0
namespace Go.Proofs.Ytiecclkgjcnaoaa.Ae
open Go.AE Go.RowKit
set_option maxRecDepth 1000000
theorem cplx_8 : span cplxRun 4 8 = true := by kernel_rfl
theorem cplx_72 : span cplxRun 4 72 = true := by kernel_rfl
theorem cplx_136 : span cplxRun 4 136 = true := by kernel_rfl
theorem cplx_200 : span cplxRun 4 200 = true := by kernel_rfl
theorem cplx_264 : span cplxRun 4 264 = true := by kernel_rfl
theorem cplx_328 : span cplxRun 4 328 = true := by kernel_rfl
theorem cplx_392 : span cplxRun 4 392 = true := by kernel_rfl
theorem cplx_456 : span cplxRun 4 456 = true := by kernel_rfl
theorem cplx_520 : span cplxRun 4 520 = true := by kernel_rfl
theorem cplx_584 : span cplxRun 4 584 = true := by kernel_rfl
theorem int_60 : span intRun 4 60 = true := by kernel_rfl
theorem int_124 : span intRun 4 124 = true := by kernel_rfl
theorem int_188 : span intRun 4 188 = true := by kernel_rfl
theorem int_252 : span intRun 4 252 = true := by kernel_rfl
theorem int_316 : span intRun 4 316 = true := by kernel_rfl
end Go.Proofs.Ytiecclkgjcnaoaa.Ae
