/-
  TypesFit: every run ends in true; so does the model's call.
-/
import Derived.Test.YtokieeiohfcgdaaAeTypesFit0
import Derived.Test.YtokieeiohfcgdaaAeTypesFit1
import Derived.Test.YtokieeiohfcgdaaAeTypesFit2
import Derived.Test.YtokieeiohfcgdaaAeTypesFit3
namespace Go.Proofs.Ytokieeiohfcgdaa.Ae
open Go.AE Go.RowKit
set_option maxRecDepth 1000000
theorem typesFit_all (i : Nat) (h : i < 72) : typesFitRun i = true := by
  by_cases h0 : i < 6
  · exact span_spec typesFit_0 i (by omega) (by omega)
  by_cases h6 : i < 12
  · exact span_spec typesFit_6 i (by omega) (by omega)
  by_cases h12 : i < 18
  · exact span_spec typesFit_12 i (by omega) (by omega)
  by_cases h18 : i < 24
  · exact span_spec typesFit_18 i (by omega) (by omega)
  by_cases h24 : i < 30
  · exact span_spec typesFit_24 i (by omega) (by omega)
  by_cases h30 : i < 36
  · exact span_spec typesFit_30 i (by omega) (by omega)
  by_cases h36 : i < 42
  · exact span_spec typesFit_36 i (by omega) (by omega)
  by_cases h42 : i < 48
  · exact span_spec typesFit_42 i (by omega) (by omega)
  by_cases h48 : i < 54
  · exact span_spec typesFit_48 i (by omega) (by omega)
  by_cases h54 : i < 60
  · exact span_spec typesFit_54 i (by omega) (by omega)
  by_cases h60 : i < 66
  · exact span_spec typesFit_60 i (by omega) (by omega)
  exact span_spec typesFit_66 i (by omega) (by omega)
theorem typesFit (a0 : Int) (a1 : Int) (a2 : Bool) (w0 : (Lit.int .u8 a0).wf = true) (w1 : (Lit.int .u8 a1).wf = true) (w : World) : Calls Try.prog 6 #[.int .u8 a0, .int .u8 a1, .bool a2] w fun e w' => e = .returned (.bool true) ∧ Below w.heap.size w w' := by
  obtain ⟨n0, hn0, rfl⟩ := byte_of w0
  obtain ⟨n1, hn1, rfl⟩ := byte_of w1
  obtain ⟨n2, hn2, hb2⟩ : ∃ n : Nat, n < 2 ∧ Nat.beq n 1 = a2 := by
    cases a2
    · exact ⟨0, by omega, rfl⟩
    · exact ⟨1, by omega, rfl⟩
  have h := typesFit_all (n0 % 6 * 1 + n1 % 6 * 6 + n2 * 36) (by omega)
  unfold typesFitRun at h
  have e0 : Nat.mod (Nat.div (n0 % 6 * 1 + n1 % 6 * 6 + n2 * 36) 1) 6 = n0 % 6 := by
    show (n0 % 6 * 1 + n1 % 6 * 6 + n2 * 36) / 1 % 6 = n0 % 6
    omega
  have e1 : Nat.mod (Nat.div (n0 % 6 * 1 + n1 % 6 * 6 + n2 * 36) 6) 6 = n1 % 6 := by
    show (n0 % 6 * 1 + n1 % 6 * 6 + n2 * 36) / 6 % 6 = n1 % 6
    omega
  have e2 : Nat.mod (Nat.div (n0 % 6 * 1 + n1 % 6 * 6 + n2 * 36) 36) 2 = n2 := by
    show (n0 % 6 * 1 + n1 % 6 * 6 + n2 * 36) / 36 % 2 = n2
    omega
  rw [e0, e1, e2, hb2] at h
  exact top envKnown h (LRel.cons (.rest _ hn0 rfl) (LRel.cons (.rest _ hn1 rfl) (LRel.cons (.bool _) (LRel.nil _)))) w
end Go.Proofs.Ytokieeiohfcgdaa.Ae
