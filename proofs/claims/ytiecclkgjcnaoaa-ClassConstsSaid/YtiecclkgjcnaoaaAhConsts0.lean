/-
  ClassConsts: runs of the evaluator, part 1 of 16.
-/
import Derived.Test.YtiecclkgjcnaoaaAhKnown
namespace Go.Proofs.Ytiecclkgjcnaoaa.Ae
open Go.AE Go.RowKit
set_option maxRecDepth 1000000
/-- One run: a kind, a number, what is spoilt. -/
noncomputable def constsRun (k : Nat) (n : AV) (s : Nat) : Bool := yes (R.run (envL 6) 1000000 3 [.rest .u8 5 k, n, .rest .u8 3 s] ⟨.nil, 0⟩)
/-- Bits that have names, from the i-th on, and a highest one that is known. -/
def shapeF : Nat → Nat → List Bt
  | _, 0 => [.one]
  | i, n + 1 => .var i :: shapeF (Nat.succ i) n
noncomputable def intRun (i : Nat) : Bool := constsRun 0 (bif Nat.beq (Nat.mod (Nat.div i 3) 2) 0 then .bits .i64 (shapeF 0 (Nat.succ (Nat.div i 6))) else .nbits .i64 (shapeF 0 (Nat.succ (Nat.div i 6)))) (Nat.mod i 3)
def leaves100 (j : Nat) : Int := bif Nat.ble 99 j then .ofNat (Nat.sub j 99) else .negSucc (Nat.sub 98 j)
noncomputable def cplxRun (i : Nat) : Bool := constsRun 1 (.tm .i64 100 (leaves100 (Nat.div i 3))) (Nat.mod i 3)
noncomputable def someRun (k : Nat) (n : AV) : Bool := constsRun k n 0 && (constsRun k n 1 && constsRun k n 2)
theorem consts_a : someRun 0 (.int .i64 (.ofNat 0)) = true := by kernel_rfl
theorem consts_b : someRun 0 (.int .i64 (.ofNat 1)) = true := by kernel_rfl
theorem consts_c : someRun 0 (.int .i64 (.negSucc 0)) = true := by kernel_rfl
theorem consts_d : someRun 0 (.int .i64 (.negSucc 1)) = true := by kernel_rfl
theorem consts_e : someRun 2 (.undef) = true := by kernel_rfl
theorem consts_f : someRun 3 (.undef) = true := by kernel_rfl
theorem consts_g : someRun 4 (.undef) = true := by kernel_rfl
theorem cplx_12 : span cplxRun 4 12 = true := by kernel_rfl
theorem cplx_76 : span cplxRun 4 76 = true := by kernel_rfl
theorem cplx_140 : span cplxRun 4 140 = true := by kernel_rfl
theorem cplx_204 : span cplxRun 4 204 = true := by kernel_rfl
theorem cplx_268 : span cplxRun 4 268 = true := by kernel_rfl
theorem cplx_332 : span cplxRun 4 332 = true := by kernel_rfl
theorem cplx_396 : span cplxRun 4 396 = true := by kernel_rfl
theorem cplx_460 : span cplxRun 4 460 = true := by kernel_rfl
theorem cplx_524 : span cplxRun 4 524 = true := by kernel_rfl
theorem cplx_588 : span cplxRun 4 588 = true := by kernel_rfl
theorem int_0 : span intRun 4 0 = true := by kernel_rfl
theorem int_64 : span intRun 4 64 = true := by kernel_rfl
theorem int_128 : span intRun 4 128 = true := by kernel_rfl
theorem int_192 : span intRun 4 192 = true := by kernel_rfl
theorem int_256 : span intRun 4 256 = true := by kernel_rfl
theorem int_320 : span intRun 4 320 = true := by kernel_rfl
end Go.Proofs.Ytiecclkgjcnaoaa.Ae
