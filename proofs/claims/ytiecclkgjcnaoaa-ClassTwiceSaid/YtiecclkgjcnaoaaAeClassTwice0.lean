/-
  ClassTwice: runs of the evaluator, part 1 of 1.
-/
import Derived.Test.YtiecclkgjcnaoaaAeKnown
namespace Go.Proofs.Ytiecclkgjcnaoaa.Ae
open Go.AE Go.RowKit
set_option maxRecDepth 1000000
/-- One run, by its number. -/
noncomputable def classTwiceRun (i : Nat) : Bool := yes (AE.call (envK Try.prog 6) 1000000 4 [.bool (Nat.beq (Nat.mod (Nat.div i 1) 2) 1), .bool (Nat.beq (Nat.mod (Nat.div i 2) 2) 1)] ⟨.nil, 0⟩)
theorem classTwice_0 : span classTwiceRun 4 0 = true := by kernel_rfl
end Go.Proofs.Ytiecclkgjcnaoaa.Ae
