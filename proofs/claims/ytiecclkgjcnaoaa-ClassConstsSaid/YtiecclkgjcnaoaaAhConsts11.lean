/-
  ClassConsts: runs of the evaluator, part 12 of 16.
-/
import Derived.Test.YtiecclkgjcnaoaaAhConsts0
namespace Go.Proofs.Ytiecclkgjcnaoaa.Ae
open Go.AE Go.RowKit
set_option maxRecDepth 1000000
theorem cplx_56 : span cplxRun 4 56 = true := by kernel_rfl
theorem cplx_120 : span cplxRun 4 120 = true := by kernel_rfl
theorem cplx_184 : span cplxRun 4 184 = true := by kernel_rfl
theorem cplx_248 : span cplxRun 4 248 = true := by kernel_rfl
theorem cplx_312 : span cplxRun 4 312 = true := by kernel_rfl
theorem cplx_376 : span cplxRun 4 376 = true := by kernel_rfl
theorem cplx_440 : span cplxRun 4 440 = true := by kernel_rfl
theorem cplx_504 : span cplxRun 4 504 = true := by kernel_rfl
theorem cplx_568 : span cplxRun 4 568 = true := by kernel_rfl
theorem int_44 : span intRun 4 44 = true := by kernel_rfl
theorem int_108 : span intRun 4 108 = true := by kernel_rfl
theorem int_172 : span intRun 4 172 = true := by kernel_rfl
theorem int_236 : span intRun 4 236 = true := by kernel_rfl
theorem int_300 : span intRun 4 300 = true := by kernel_rfl
theorem int_364 : span intRun 4 364 = true := by kernel_rfl
end Go.Proofs.Ytiecclkgjcnaoaa.Ae
