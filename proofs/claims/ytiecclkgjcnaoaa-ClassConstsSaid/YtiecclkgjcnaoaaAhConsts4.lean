/-
  ClassConsts: runs of the evaluator, part 5 of 16.
-/
import Derived.Test.YtiecclkgjcnaoaaAhConsts0
namespace Go.Proofs.Ytiecclkgjcnaoaa.Ae
open Go.AE Go.RowKit
set_option maxRecDepth 1000000
theorem cplx_28 : span cplxRun 4 28 = true := by kernel_rfl
theorem cplx_92 : span cplxRun 4 92 = true := by kernel_rfl
theorem cplx_156 : span cplxRun 4 156 = true := by kernel_rfl
theorem cplx_220 : span cplxRun 4 220 = true := by kernel_rfl
theorem cplx_284 : span cplxRun 4 284 = true := by kernel_rfl
theorem cplx_348 : span cplxRun 4 348 = true := by kernel_rfl
theorem cplx_412 : span cplxRun 4 412 = true := by kernel_rfl
theorem cplx_476 : span cplxRun 4 476 = true := by kernel_rfl
theorem cplx_540 : span cplxRun 4 540 = true := by kernel_rfl
theorem int_16 : span intRun 4 16 = true := by kernel_rfl
theorem int_80 : span intRun 4 80 = true := by kernel_rfl
theorem int_144 : span intRun 4 144 = true := by kernel_rfl
theorem int_208 : span intRun 4 208 = true := by kernel_rfl
theorem int_272 : span intRun 4 272 = true := by kernel_rfl
theorem int_336 : span intRun 4 336 = true := by kernel_rfl
end Go.Proofs.Ytiecclkgjcnaoaa.Ae
