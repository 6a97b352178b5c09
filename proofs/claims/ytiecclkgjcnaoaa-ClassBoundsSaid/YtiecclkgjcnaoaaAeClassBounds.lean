/-
  ClassBounds: each of the eight runs ends in true.
-/
import Derived.Test.YtiecclkgjcnaoaaAeBounds
namespace Go.Proofs.Ytiecclkgjcnaoaa.Ae
open Go.AE Go.RowKit
set_option maxRecDepth 1000000
theorem bounds00 : span (fun r => yes (AE.call (envK Try.prog 6) 1000000 5 [.rest .u8 4 r, .rest .u8 2 0] ⟨.nil, 0⟩)) 2 0 = true := by kernel_rfl
theorem bounds30 : span (fun r => yes (AE.call (envK Try.prog 6) 1000000 5 [.rest .u8 4 r, .rest .u8 2 0] ⟨.nil, 0⟩)) 1 3 = true := by kernel_rfl
theorem bounds1 : span (fun r => yes (AE.call (envK Try.prog 6) 1000000 5 [.rest .u8 4 r, .rest .u8 2 1] ⟨.nil, 0⟩)) 4 0 = true := by kernel_rfl
theorem bounds (r s : Nat) (hr : r < 4) (hs : s < 2) : yes (AE.call (envK Try.prog 6) 1000000 5 [.rest .u8 4 r, .rest .u8 2 s] ⟨.nil, 0⟩) = true := by
  by_cases h : s = 1
  · subst h; exact span_spec bounds1 r (by omega) (by omega)
  · have e : s = 0 := by omega
    subst e
    by_cases h1 : r < 2
    · exact span_spec bounds00 r (by omega) (by omega)
    by_cases h2 : r = 2
    · subst h2; exact bounds20
    · exact span_spec bounds30 r (by omega) (by omega)
theorem classBounds (a0 a1 : Int) (w0 : (Lit.int .u8 a0).wf = true) (w1 : (Lit.int .u8 a1).wf = true) (w : World) : Calls Try.prog 5 #[.int .u8 a0, .int .u8 a1] w fun e w' => e = .returned (.bool true) ∧ Below w.heap.size w w' := by
  obtain ⟨n, hn, rfl⟩ := byte_of w0
  obtain ⟨m, hm, rfl⟩ := byte_of w1
  exact top envKnown (bounds (n % 4) (m % 2) (Nat.mod_lt _ (by omega)) (Nat.mod_lt _ (by omega))) (LRel.cons (.rest _ hn rfl) (LRel.cons (.rest _ hm rfl) (LRel.nil _))) w
end Go.Proofs.Ytiecclkgjcnaoaa.Ae
