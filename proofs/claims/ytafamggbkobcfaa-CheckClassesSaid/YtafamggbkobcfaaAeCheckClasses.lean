/-
  CheckClasses: every run ends in true; so does the model's call.
-/
import Derived.Test.YtafamggbkobcfaaAeCheckClasses0
namespace Go.Proofs.Ytafamggbkobcfaa.Ae
open Go.AE Go.RowKit
set_option maxRecDepth 1000000
theorem checkClasses_all (i : Nat) (h : i < 9) : checkClassesRun i = true := by
  by_cases h0 : i < 3
  · exact span_spec checkClasses_0 i (by omega) (by omega)
  by_cases h3 : i < 6
  · exact span_spec checkClasses_3 i (by omega) (by omega)
  exact span_spec checkClasses_6 i (by omega) (by omega)
theorem checkClasses (a0 : Int) (w0 : (Lit.int .u8 a0).wf = true) (w : World) : Calls Try.prog 6 #[.int .u8 a0] w fun e w' => e = .returned (.bool true) ∧ Below w.heap.size w w' := by
  obtain ⟨n0, hn0, rfl⟩ := byte_of w0
  have h := checkClasses_all (n0 % 9 * 1) (by omega)
  unfold checkClassesRun at h
  have e0 : Nat.mod (Nat.div (n0 % 9 * 1) 1) 9 = n0 % 9 := by
    show (n0 % 9 * 1) / 1 % 9 = n0 % 9
    omega
  rw [e0] at h
  exact R.top envKnown h (LRel.cons (.rest _ hn0 rfl) (LRel.nil _)) w
end Go.Proofs.Ytafamggbkobcfaa.Ae
