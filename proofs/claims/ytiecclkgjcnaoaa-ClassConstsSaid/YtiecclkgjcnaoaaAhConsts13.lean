/-
  ClassConsts: runs of the evaluator, part 14 of 16.
-/
import Derived.Test.YtiecclkgjcnaoaaAhConsts0
namespace Go.Proofs.Ytiecclkgjcnaoaa.Ae
open Go.AE Go.RowKit
set_option maxRecDepth 1000000
theorem cplx_0 : span cplxRun 4 0 = true := by kernel_rfl
theorem cplx_64 : span cplxRun 4 64 = true := by kernel_rfl
theorem cplx_128 : span cplxRun 4 128 = true := by kernel_rfl
theorem cplx_192 : span cplxRun 4 192 = true := by kernel_rfl
theorem cplx_256 : span cplxRun 4 256 = true := by kernel_rfl
theorem cplx_320 : span cplxRun 4 320 = true := by kernel_rfl
theorem cplx_384 : span cplxRun 4 384 = true := by kernel_rfl
theorem cplx_448 : span cplxRun 4 448 = true := by kernel_rfl
theorem cplx_512 : span cplxRun 4 512 = true := by kernel_rfl
theorem cplx_576 : span cplxRun 4 576 = true := by kernel_rfl
theorem int_52 : span intRun 4 52 = true := by kernel_rfl
theorem int_116 : span intRun 4 116 = true := by kernel_rfl
theorem int_180 : span intRun 4 180 = true := by kernel_rfl
theorem int_244 : span intRun 4 244 = true := by kernel_rfl
theorem int_308 : span intRun 4 308 = true := by kernel_rfl
end Go.Proofs.Ytiecclkgjcnaoaa.Ae
