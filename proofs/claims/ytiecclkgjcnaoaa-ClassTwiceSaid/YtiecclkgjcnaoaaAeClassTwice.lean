/-
  ClassTwice: each of the four runs ends in true.
-/
import Derived.Test.YtiecclkgjcnaoaaAeEnv
namespace Go.Proofs.Ytiecclkgjcnaoaa.Ae
open Go.AE Go.RowKit
set_option maxRecDepth 1000000
theorem run1 : yes (AE.call (envOf Try.prog) 1000000 4 [.bool true, .bool true] ⟨.nil, 0⟩) = true := by kernel_rfl
theorem run2 : yes (AE.call (envOf Try.prog) 1000000 4 [.bool true, .bool false] ⟨.nil, 0⟩) = true := by kernel_rfl
theorem run3 : yes (AE.call (envOf Try.prog) 1000000 4 [.bool false, .bool true] ⟨.nil, 0⟩) = true := by kernel_rfl
theorem run4 : yes (AE.call (envOf Try.prog) 1000000 4 [.bool false, .bool false] ⟨.nil, 0⟩) = true := by kernel_rfl
theorem classTwice (a0 a1 : Bool) (w : World) : Calls Try.prog 4 #[.bool a0, .bool a1] w fun e w' => e = .returned (.bool true) ∧ Below w.heap.size w w' := by
  cases a0 <;> cases a1
  · exact top env run4 (LRel.cons (.bool _) (LRel.cons (.bool _) (LRel.nil _))) w
  · exact top env run3 (LRel.cons (.bool _) (LRel.cons (.bool _) (LRel.nil _))) w
  · exact top env run2 (LRel.cons (.bool _) (LRel.cons (.bool _) (LRel.nil _))) w
  · exact top env run1 (LRel.cons (.bool _) (LRel.cons (.bool _) (LRel.nil _))) w
end Go.Proofs.Ytiecclkgjcnaoaa.Ae
