/-
  TypesRound: for each rest at 14, and both kinds of ring, the run ends in true.
-/
import Derived.Test.YtokieeiohfcgdaaAeKnown
namespace Go.Proofs.Ytokieeiohfcgdaa.Ae
open Go.AE Go.RowKit
set_option maxRecDepth 1000000
theorem open1 : span (fun r => yes (AE.call (envK Try.prog 14) 1000000 4 [.rest .u8 14 r, .bool true] ⟨.nil, 0⟩)) 7 0 = true := by kernel_rfl
theorem open2 : span (fun r => yes (AE.call (envK Try.prog 14) 1000000 4 [.rest .u8 14 r, .bool true] ⟨.nil, 0⟩)) 4 7 = true := by kernel_rfl
theorem open3 : span (fun r => yes (AE.call (envK Try.prog 14) 1000000 4 [.rest .u8 14 r, .bool true] ⟨.nil, 0⟩)) 3 11 = true := by kernel_rfl
theorem ring1 : span (fun r => yes (AE.call (envK Try.prog 14) 1000000 4 [.rest .u8 14 r, .bool false] ⟨.nil, 0⟩)) 7 0 = true := by kernel_rfl
theorem ring2 : span (fun r => yes (AE.call (envK Try.prog 14) 1000000 4 [.rest .u8 14 r, .bool false] ⟨.nil, 0⟩)) 4 7 = true := by kernel_rfl
theorem ring3 : span (fun r => yes (AE.call (envK Try.prog 14) 1000000 4 [.rest .u8 14 r, .bool false] ⟨.nil, 0⟩)) 3 11 = true := by kernel_rfl
theorem opened (r : Nat) (h : r < 14) : yes (AE.call (envK Try.prog 14) 1000000 4 [.rest .u8 14 r, .bool true] ⟨.nil, 0⟩) = true := by
  by_cases h1 : r < 7
  · exact span_spec open1 r (by omega) (by omega)
  by_cases h2 : r < 11
  · exact span_spec open2 r (by omega) (by omega)
  · exact span_spec open3 r (by omega) (by omega)
theorem ringed (r : Nat) (h : r < 14) : yes (AE.call (envK Try.prog 14) 1000000 4 [.rest .u8 14 r, .bool false] ⟨.nil, 0⟩) = true := by
  by_cases h1 : r < 7
  · exact span_spec ring1 r (by omega) (by omega)
  by_cases h2 : r < 11
  · exact span_spec ring2 r (by omega) (by omega)
  · exact span_spec ring3 r (by omega) (by omega)
theorem typesRound (a0 : Int) (a1 : Bool) (w0 : (Lit.int .u8 a0).wf = true) (w : World) : Calls Try.prog 4 #[.int .u8 a0, .bool a1] w fun e w' => e = .returned (.bool true) ∧ Below w.heap.size w w' := by
  obtain ⟨n, hn, rfl⟩ := byte_of w0
  cases a1
  · exact top envKnown (ringed (n % 14) (Nat.mod_lt _ (by omega))) (LRel.cons (.rest _ hn rfl) (LRel.cons (.bool _) (LRel.nil _))) w
  · exact top envKnown (opened (n % 14) (Nat.mod_lt _ (by omega))) (LRel.cons (.rest _ hn rfl) (LRel.cons (.bool _) (LRel.nil _))) w
end Go.Proofs.Ytokieeiohfcgdaa.Ae
