/-
  CodeMany: every run ends in true; so does the model's call.
-/
import Derived.Test.YtokieeiohfcgdaaAfCodeMany0
import Derived.Test.YtokieeiohfcgdaaAfCodeMany1
import Derived.Test.YtokieeiohfcgdaaAfCodeMany2
import Derived.Test.YtokieeiohfcgdaaAfCodeMany3
import Derived.Test.YtokieeiohfcgdaaAfCodeMany4
import Derived.Test.YtokieeiohfcgdaaAfCodeMany5
namespace Go.Proofs.Ytokieeiohfcgdaa.Ae
open Go.AE Go.RowKit
theorem codeMany_all (i : Nat) (h : i < 40) : codeManyRun i = true := by
  match i, h with
  | 0, _ => exact codeMany_0
  | 1, _ => exact codeMany_1
  | 2, _ => exact codeMany_2
  | 3, _ => exact codeMany_3
  | 4, _ => exact codeMany_4
  | 5, _ => exact codeMany_5
  | 6, _ => exact codeMany_6
  | 7, _ => exact codeMany_7
  | 8, _ => exact codeMany_8
  | 9, _ => exact codeMany_9
  | 10, _ => exact codeMany_10
  | 11, _ => exact codeMany_11
  | 12, _ => exact codeMany_12
  | 13, _ => exact codeMany_13
  | 14, _ => exact codeMany_14
  | 15, _ => exact codeMany_15
  | 16, _ => exact codeMany_16
  | 17, _ => exact codeMany_17
  | 18, _ => exact codeMany_18
  | 19, _ => exact codeMany_19
  | 20, _ => exact codeMany_20
  | 21, _ => exact codeMany_21
  | 22, _ => exact codeMany_22
  | 23, _ => exact codeMany_23
  | 24, _ => exact codeMany_24
  | 25, _ => exact codeMany_25
  | 26, _ => exact codeMany_26
  | 27, _ => exact codeMany_27
  | 28, _ => exact codeMany_28
  | 29, _ => exact codeMany_29
  | 30, _ => exact codeMany_30
  | 31, _ => exact codeMany_31
  | 32, _ => exact codeMany_32
  | 33, _ => exact codeMany_33
  | 34, _ => exact codeMany_34
  | 35, _ => exact codeMany_35
  | 36, _ => exact codeMany_36
  | 37, _ => exact codeMany_37
  | 38, _ => exact codeMany_38
  | 39, _ => exact codeMany_39
  | i + 40, h => omega
theorem op_class : ∀ r : Fin 48, bit 271643532328905 r.val = true ∨ bit 9831444381750 r.val = true := by decide
theorem codeMany (a0 : Int) (a1 : Int) (w0 : (Lit.int .u8 a0).wf = true) (w1 : (Lit.int .u8 a1).wf = true) (w : World) : Calls Try.prog 11 #[.int .u8 a0, .int .u8 a1] w fun e w' => e = .returned (.bool true) ∧ Below w.heap.size w w' := by
  obtain ⟨n0, hn0, rfl⟩ := byte_of w0
  obtain ⟨n1, hn1, rfl⟩ := byte_of w1
  rcases op_class ⟨n1 % 48, Nat.mod_lt _ (by decide)⟩ with hc | hc
  · have h := codeMany_all (n0 % 20 * 2) (by omega)
    unfold codeManyRun at h
    have e0 : Nat.div (n0 % 20 * 2) 2 = n0 % 20 := by
      show (n0 % 20 * 2) / 2 = n0 % 20
      omega
    have e1 : Nat.beq (Nat.mod (n0 % 20 * 2) 2) 0 = true := by
      rw [beq_eq]
      have : Nat.mod (n0 % 20 * 2) 2 = 0 := by
        show (n0 % 20 * 2) % 2 = 0
        omega
      rw [this]
      rfl
    rw [e0, e1] at h
    exact R.top envC_ok h (LRel.cons (.rest _ hn0 rfl) (LRel.cons (.among _ hn1 hc) (LRel.nil _))) w
  · have h := codeMany_all (n0 % 20 * 2 + 1) (by omega)
    unfold codeManyRun at h
    have e0 : Nat.div (n0 % 20 * 2 + 1) 2 = n0 % 20 := by
      show (n0 % 20 * 2 + 1) / 2 = n0 % 20
      omega
    have e1 : Nat.beq (Nat.mod (n0 % 20 * 2 + 1) 2) 0 = false := by
      rw [beq_eq]
      have : Nat.mod (n0 % 20 * 2 + 1) 2 = 1 := by
        show (n0 % 20 * 2 + 1) % 2 = 1
        omega
      rw [this]
      rfl
    rw [e0, e1] at h
    exact R.top envC_ok h (LRel.cons (.rest _ hn0 rfl) (LRel.cons (.among _ hn1 hc) (LRel.nil _))) w
end Go.Proofs.Ytokieeiohfcgdaa.Ae
