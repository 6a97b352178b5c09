/-
  ClassConsts: runs of the evaluator, part 2 of 16.
-/
import Derived.Test.YtiecclkgjcnaoaaAhConsts0
namespace Go.Proofs.Ytiecclkgjcnaoaa.Ae
open Go.AE Go.RowKit
set_option maxRecDepth 1000000
theorem cplx_16 : span cplxRun 4 16 = true := by kernel_rfl
theorem cplx_80 : span cplxRun 4 80 = true := by kernel_rfl
theorem cplx_144 : span cplxRun 4 144 = true := by kernel_rfl
theorem cplx_208 : span cplxRun 4 208 = true := by kernel_rfl
theorem cplx_272 : span cplxRun 4 272 = true := by kernel_rfl
theorem cplx_336 : span cplxRun 4 336 = true := by kernel_rfl
theorem cplx_400 : span cplxRun 4 400 = true := by kernel_rfl
theorem cplx_464 : span cplxRun 4 464 = true := by kernel_rfl
theorem cplx_528 : span cplxRun 4 528 = true := by kernel_rfl
theorem cplx_592 : span cplxRun 4 592 = true := by kernel_rfl
theorem int_4 : span intRun 4 4 = true := by kernel_rfl
theorem int_68 : span intRun 4 68 = true := by kernel_rfl
theorem int_132 : span intRun 4 132 = true := by kernel_rfl
theorem int_196 : span intRun 4 196 = true := by kernel_rfl
theorem int_260 : span intRun 4 260 = true := by kernel_rfl
theorem int_324 : span intRun 4 324 = true := by kernel_rfl
end Go.Proofs.Ytiecclkgjcnaoaa.Ae
