/-
  ClassTwice: every run ends in true; so does the model's call.
-/
import Derived.Test.YtiecclkgjcnaoaaAeClassTwice0
namespace Go.Proofs.Ytiecclkgjcnaoaa.Ae
open Go.AE Go.RowKit
set_option maxRecDepth 1000000
theorem classTwice_all (i : Nat) (h : i < 4) : classTwiceRun i = true := by
  exact span_spec classTwice_0 i (by omega) (by omega)
theorem classTwice (a0 : Bool) (a1 : Bool)  (w : World) : Calls Try.prog 4 #[.bool a0, .bool a1] w fun e w' => e = .returned (.bool true) ∧ Below w.heap.size w w' := by
  obtain ⟨n0, hn0, hb0⟩ : ∃ n : Nat, n < 2 ∧ Nat.beq n 1 = a0 := by
    cases a0
    · exact ⟨0, by omega, rfl⟩
    · exact ⟨1, by omega, rfl⟩
  obtain ⟨n1, hn1, hb1⟩ : ∃ n : Nat, n < 2 ∧ Nat.beq n 1 = a1 := by
    cases a1
    · exact ⟨0, by omega, rfl⟩
    · exact ⟨1, by omega, rfl⟩
  have h := classTwice_all (n0 * 1 + n1 * 2) (by omega)
  unfold classTwiceRun at h
  have e0 : Nat.mod (Nat.div (n0 * 1 + n1 * 2) 1) 2 = n0 := by
    show (n0 * 1 + n1 * 2) / 1 % 2 = n0
    omega
  have e1 : Nat.mod (Nat.div (n0 * 1 + n1 * 2) 2) 2 = n1 := by
    show (n0 * 1 + n1 * 2) / 2 % 2 = n1
    omega
  rw [e0, e1, hb0, hb1] at h
  exact top envKnown h (LRel.cons (.bool _) (LRel.cons (.bool _) (LRel.nil _))) w
end Go.Proofs.Ytiecclkgjcnaoaa.Ae
