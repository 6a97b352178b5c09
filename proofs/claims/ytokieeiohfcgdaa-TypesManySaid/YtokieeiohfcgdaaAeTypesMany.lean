/-
  TypesMany: for each rest at 24 the run ends in true.
-/
import Derived.Test.YtokieeiohfcgdaaAeKnown
namespace Go.Proofs.Ytokieeiohfcgdaa.Ae
open Go.AE Go.RowKit
set_option maxRecDepth 1000000
theorem many1 : span (fun r => yes (AE.call (envK Try.prog 14) 1000000 5 [.rest .u8 24 r] ⟨.nil, 0⟩)) 10 0 = true := by kernel_rfl
theorem many2 : span (fun r => yes (AE.call (envK Try.prog 14) 1000000 5 [.rest .u8 24 r] ⟨.nil, 0⟩)) 4 10 = true := by kernel_rfl
theorem many3 : span (fun r => yes (AE.call (envK Try.prog 14) 1000000 5 [.rest .u8 24 r] ⟨.nil, 0⟩)) 3 14 = true := by kernel_rfl
theorem many4 : span (fun r => yes (AE.call (envK Try.prog 14) 1000000 5 [.rest .u8 24 r] ⟨.nil, 0⟩)) 7 17 = true := by kernel_rfl
theorem many (r : Nat) (h : r < 24) : yes (AE.call (envK Try.prog 14) 1000000 5 [.rest .u8 24 r] ⟨.nil, 0⟩) = true := by
  by_cases h1 : r < 10
  · exact span_spec many1 r (by omega) (by omega)
  by_cases h2 : r < 14
  · exact span_spec many2 r (by omega) (by omega)
  by_cases h3 : r < 17
  · exact span_spec many3 r (by omega) (by omega)
  · exact span_spec many4 r (by omega) (by omega)
theorem typesMany (a0 : Int) (w0 : (Lit.int .u8 a0).wf = true) (w : World) : Calls Try.prog 5 #[.int .u8 a0] w fun e w' => e = .returned (.bool true) ∧ Below w.heap.size w w' := by
  obtain ⟨n, hn, rfl⟩ := byte_of w0
  exact top envKnown (many (n % 24) (Nat.mod_lt _ (by omega))) (LRel.cons (.rest _ hn rfl) (LRel.nil _)) w
end Go.Proofs.Ytokieeiohfcgdaa.Ae
