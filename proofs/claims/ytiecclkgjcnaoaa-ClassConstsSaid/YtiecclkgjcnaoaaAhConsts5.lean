/-
  ClassConsts: runs of the evaluator, part 6 of 16.
-/
import Derived.Test.YtiecclkgjcnaoaaAhConsts0
namespace Go.Proofs.Ytiecclkgjcnaoaa.Ae
open Go.AE Go.RowKit
set_option maxRecDepth 1000000
theorem cplx_32 : span cplxRun 4 32 = true := by kernel_rfl
theorem cplx_96 : span cplxRun 4 96 = true := by kernel_rfl
theorem cplx_160 : span cplxRun 4 160 = true := by kernel_rfl
theorem cplx_224 : span cplxRun 4 224 = true := by kernel_rfl
theorem cplx_288 : span cplxRun 4 288 = true := by kernel_rfl
theorem cplx_352 : span cplxRun 4 352 = true := by kernel_rfl
theorem cplx_416 : span cplxRun 4 416 = true := by kernel_rfl
theorem cplx_480 : span cplxRun 4 480 = true := by kernel_rfl
theorem cplx_544 : span cplxRun 4 544 = true := by kernel_rfl
theorem int_20 : span intRun 4 20 = true := by kernel_rfl
theorem int_84 : span intRun 4 84 = true := by kernel_rfl
theorem int_148 : span intRun 4 148 = true := by kernel_rfl
theorem int_212 : span intRun 4 212 = true := by kernel_rfl
theorem int_276 : span intRun 4 276 = true := by kernel_rfl
theorem int_340 : span intRun 4 340 = true := by kernel_rfl
end Go.Proofs.Ytiecclkgjcnaoaa.Ae
