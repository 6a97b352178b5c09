/-
  ClassConsts: runs of the evaluator, part 4 of 16.
-/
import Derived.Test.YtiecclkgjcnaoaaAhConsts0
namespace Go.Proofs.Ytiecclkgjcnaoaa.Ae
open Go.AE Go.RowKit
set_option maxRecDepth 1000000
theorem cplx_24 : span cplxRun 4 24 = true := by kernel_rfl
theorem cplx_88 : span cplxRun 4 88 = true := by kernel_rfl
theorem cplx_152 : span cplxRun 4 152 = true := by kernel_rfl
theorem cplx_216 : span cplxRun 4 216 = true := by kernel_rfl
theorem cplx_280 : span cplxRun 4 280 = true := by kernel_rfl
theorem cplx_344 : span cplxRun 4 344 = true := by kernel_rfl
theorem cplx_408 : span cplxRun 4 408 = true := by kernel_rfl
theorem cplx_472 : span cplxRun 4 472 = true := by kernel_rfl
theorem cplx_536 : span cplxRun 4 536 = true := by kernel_rfl
theorem int_12 : span intRun 4 12 = true := by kernel_rfl
theorem int_76 : span intRun 4 76 = true := by kernel_rfl
theorem int_140 : span intRun 4 140 = true := by kernel_rfl
theorem int_204 : span intRun 4 204 = true := by kernel_rfl
theorem int_268 : span intRun 4 268 = true := by kernel_rfl
theorem int_332 : span intRun 4 332 = true := by kernel_rfl
end Go.Proofs.Ytiecclkgjcnaoaa.Ae
