/-
  CheckBodies: every run ends in true; so does the model's call.
-/
import Derived.Test.YtafamggbkobcfaaAeCheckBodies0
import Derived.Test.YtafamggbkobcfaaAeCheckBodies1
import Derived.Test.YtafamggbkobcfaaAeCheckBodies2
import Derived.Test.YtafamggbkobcfaaAeCheckBodies3
namespace Go.Proofs.Ytafamggbkobcfaa.Ae
open Go.AE Go.RowKit
set_option maxRecDepth 1000000
theorem checkBodies_all (i : Nat) (h : i < 16) : checkBodiesRun i = true := by
  by_cases h0 : i < 1
  · exact span_spec checkBodies_0 i (by omega) (by omega)
  by_cases h1 : i < 2
  · exact span_spec checkBodies_1 i (by omega) (by omega)
  by_cases h2 : i < 3
  · exact span_spec checkBodies_2 i (by omega) (by omega)
  by_cases h3 : i < 4
  · exact span_spec checkBodies_3 i (by omega) (by omega)
  by_cases h4 : i < 5
  · exact span_spec checkBodies_4 i (by omega) (by omega)
  by_cases h5 : i < 6
  · exact span_spec checkBodies_5 i (by omega) (by omega)
  by_cases h6 : i < 7
  · exact span_spec checkBodies_6 i (by omega) (by omega)
  by_cases h7 : i < 8
  · exact span_spec checkBodies_7 i (by omega) (by omega)
  by_cases h8 : i < 9
  · exact span_spec checkBodies_8 i (by omega) (by omega)
  by_cases h9 : i < 10
  · exact span_spec checkBodies_9 i (by omega) (by omega)
  by_cases h10 : i < 11
  · exact span_spec checkBodies_10 i (by omega) (by omega)
  by_cases h11 : i < 12
  · exact span_spec checkBodies_11 i (by omega) (by omega)
  by_cases h12 : i < 13
  · exact span_spec checkBodies_12 i (by omega) (by omega)
  by_cases h13 : i < 14
  · exact span_spec checkBodies_13 i (by omega) (by omega)
  by_cases h14 : i < 15
  · exact span_spec checkBodies_14 i (by omega) (by omega)
  exact span_spec checkBodies_15 i (by omega) (by omega)
theorem checkBodies (a0 : Int) (w0 : (Lit.int .u8 a0).wf = true) (w : World) : Calls Try.prog 3 #[.int .u8 a0] w fun e w' => e = .returned (.bool true) ∧ Below w.heap.size w w' := by
  obtain ⟨n0, hn0, rfl⟩ := byte_of w0
  have h := checkBodies_all (n0 % 16 * 1) (by omega)
  unfold checkBodiesRun at h
  have e0 : Nat.mod (Nat.div (n0 % 16 * 1) 1) 16 = n0 % 16 := by
    show (n0 % 16 * 1) / 1 % 16 = n0 % 16
    omega
  rw [e0] at h
  exact R.top envKnown h (LRel.cons (.rest _ hn0 rfl) (LRel.nil _)) w
end Go.Proofs.Ytafamggbkobcfaa.Ae
