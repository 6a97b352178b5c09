/-
  ClassConsts: runs of the evaluator, part 7 of 16.
-/
import Derived.Test.YtiecclkgjcnaoaaAhConsts0
namespace Go.Proofs.Ytiecclkgjcnaoaa.Ae
open Go.AE Go.RowKit
set_option maxRecDepth 1000000
theorem cplx_36 : span cplxRun 4 36 = true := by kernel_rfl
theorem cplx_100 : span cplxRun 4 100 = true := by kernel_rfl
theorem cplx_164 : span cplxRun 4 164 = true := by kernel_rfl
theorem cplx_228 : span cplxRun 4 228 = true := by kernel_rfl
theorem cplx_292 : span cplxRun 4 292 = true := by kernel_rfl
theorem cplx_356 : span cplxRun 4 356 = true := by kernel_rfl
theorem cplx_420 : span cplxRun 4 420 = true := by kernel_rfl
theorem cplx_484 : span cplxRun 4 484 = true := by kernel_rfl
theorem cplx_548 : span cplxRun 4 548 = true := by kernel_rfl
theorem int_24 : span intRun 4 24 = true := by kernel_rfl
theorem int_88 : span intRun 4 88 = true := by kernel_rfl
theorem int_152 : span intRun 4 152 = true := by kernel_rfl
theorem int_216 : span intRun 4 216 = true := by kernel_rfl
theorem int_280 : span intRun 4 280 = true := by kernel_rfl
theorem int_344 : span intRun 4 344 = true := by kernel_rfl
end Go.Proofs.Ytiecclkgjcnaoaa.Ae
