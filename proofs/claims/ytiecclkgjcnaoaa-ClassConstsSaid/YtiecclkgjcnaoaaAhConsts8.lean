/-
  ClassConsts: runs of the evaluator, part 9 of 16.
-/
import Derived.Test.YtiecclkgjcnaoaaAhConsts0
namespace Go.Proofs.Ytiecclkgjcnaoaa.Ae
open Go.AE Go.RowKit
set_option maxRecDepth 1000000
theorem cplx_44 : span cplxRun 4 44 = true := by kernel_rfl
theorem cplx_108 : span cplxRun 4 108 = true := by kernel_rfl
theorem cplx_172 : span cplxRun 4 172 = true := by kernel_rfl
theorem cplx_236 : span cplxRun 4 236 = true := by kernel_rfl
theorem cplx_300 : span cplxRun 4 300 = true := by kernel_rfl
theorem cplx_364 : span cplxRun 4 364 = true := by kernel_rfl
theorem cplx_428 : span cplxRun 4 428 = true := by kernel_rfl
theorem cplx_492 : span cplxRun 4 492 = true := by kernel_rfl
theorem cplx_556 : span cplxRun 4 556 = true := by kernel_rfl
theorem int_32 : span intRun 4 32 = true := by kernel_rfl
theorem int_96 : span intRun 4 96 = true := by kernel_rfl
theorem int_160 : span intRun 4 160 = true := by kernel_rfl
theorem int_224 : span intRun 4 224 = true := by kernel_rfl
theorem int_288 : span intRun 4 288 = true := by kernel_rfl
theorem int_352 : span intRun 4 352 = true := by kernel_rfl
end Go.Proofs.Ytiecclkgjcnaoaa.Ae
