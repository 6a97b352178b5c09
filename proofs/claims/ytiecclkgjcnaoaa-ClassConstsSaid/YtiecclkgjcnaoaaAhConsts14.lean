/-
  ClassConsts: runs of the evaluator, part 15 of 16.
-/
import Derived.Test.YtiecclkgjcnaoaaAhConsts0
namespace Go.Proofs.Ytiecclkgjcnaoaa.Ae
open Go.AE Go.RowKit
set_option maxRecDepth 1000000
theorem cplx_4 : span cplxRun 4 4 = true := by kernel_rfl
theorem cplx_68 : span cplxRun 4 68 = true := by kernel_rfl
theorem cplx_132 : span cplxRun 4 132 = true := by kernel_rfl
theorem cplx_196 : span cplxRun 4 196 = true := by kernel_rfl
theorem cplx_260 : span cplxRun 4 260 = true := by kernel_rfl
theorem cplx_324 : span cplxRun 4 324 = true := by kernel_rfl
theorem cplx_388 : span cplxRun 4 388 = true := by kernel_rfl
theorem cplx_452 : span cplxRun 4 452 = true := by kernel_rfl
theorem cplx_516 : span cplxRun 4 516 = true := by kernel_rfl
theorem cplx_580 : span cplxRun 4 580 = true := by kernel_rfl
theorem int_56 : span intRun 4 56 = true := by kernel_rfl
theorem int_120 : span intRun 4 120 = true := by kernel_rfl
theorem int_184 : span intRun 4 184 = true := by kernel_rfl
theorem int_248 : span intRun 4 248 = true := by kernel_rfl
theorem int_312 : span intRun 4 312 = true := by kernel_rfl
end Go.Proofs.Ytiecclkgjcnaoaa.Ae
