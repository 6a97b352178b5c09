/-
  ClassConsts: runs of the evaluator, part 13 of 16.
-/
import Derived.Test.YtiecclkgjcnaoaaAhConsts0
namespace Go.Proofs.Ytiecclkgjcnaoaa.Ae
open Go.AE Go.RowKit
set_option maxRecDepth 1000000
theorem cplx_60 : span cplxRun 4 60 = true := by kernel_rfl
theorem cplx_124 : span cplxRun 4 124 = true := by kernel_rfl
theorem cplx_188 : span cplxRun 4 188 = true := by kernel_rfl
theorem cplx_252 : span cplxRun 4 252 = true := by kernel_rfl
theorem cplx_316 : span cplxRun 4 316 = true := by kernel_rfl
theorem cplx_380 : span cplxRun 4 380 = true := by kernel_rfl
theorem cplx_444 : span cplxRun 4 444 = true := by kernel_rfl
theorem cplx_508 : span cplxRun 4 508 = true := by kernel_rfl
theorem cplx_572 : span cplxRun 4 572 = true := by kernel_rfl
theorem int_48 : span intRun 4 48 = true := by kernel_rfl
theorem int_112 : span intRun 4 112 = true := by kernel_rfl
theorem int_176 : span intRun 4 176 = true := by kernel_rfl
theorem int_240 : span intRun 4 240 = true := by kernel_rfl
theorem int_304 : span intRun 4 304 = true := by kernel_rfl
theorem int_368 : span intRun 4 368 = true := by kernel_rfl
end Go.Proofs.Ytiecclkgjcnaoaa.Ae
