/-
  CheckEnds: every run ends in true; so does the model's call.
-/
import Derived.Test.YtafamggbkobcfaaAeCheckEnds0
import Derived.Test.YtafamggbkobcfaaAeCheckEnds1
namespace Go.Proofs.Ytafamggbkobcfaa.Ae
open Go.AE Go.RowKit
set_option maxRecDepth 1000000
theorem checkEnds_all (i : Nat) (h : i < 10) : checkEndsRun i = true := by
  by_cases h0 : i < 2
  · exact span_spec checkEnds_0 i (by omega) (by omega)
  by_cases h2 : i < 4
  · exact span_spec checkEnds_2 i (by omega) (by omega)
  by_cases h4 : i < 6
  · exact span_spec checkEnds_4 i (by omega) (by omega)
  by_cases h6 : i < 8
  · exact span_spec checkEnds_6 i (by omega) (by omega)
  exact span_spec checkEnds_8 i (by omega) (by omega)
theorem checkEnds (a0 : Int) (w0 : (Lit.int .u8 a0).wf = true) (w : World) : Calls Try.prog 5 #[.int .u8 a0] w fun e w' => e = .returned (.bool true) ∧ Below w.heap.size w w' := by
  obtain ⟨n0, hn0, rfl⟩ := byte_of w0
  have h := checkEnds_all (n0 % 10 * 1) (by omega)
  unfold checkEndsRun at h
  have e0 : Nat.mod (Nat.div (n0 % 10 * 1) 1) 10 = n0 % 10 := by
    show (n0 % 10 * 1) / 1 % 10 = n0 % 10
    omega
  rw [e0] at h
  exact R.top envKnown h (LRel.cons (.rest _ hn0 rfl) (LRel.nil _)) w
end Go.Proofs.Ytafamggbkobcfaa.Ae
