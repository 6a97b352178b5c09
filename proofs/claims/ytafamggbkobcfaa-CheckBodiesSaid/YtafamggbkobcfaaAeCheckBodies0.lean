/-
  CheckBodies: runs of the evaluator, part 1 of 4.
-/
import Derived.Test.YtafamggbkobcfaaAeKnown
namespace Go.Proofs.Ytafamggbkobcfaa.Ae
open Go.AE Go.RowKit
set_option maxRecDepth 1000000
/-- One run, by its number. -/
noncomputable def checkBodiesRun (i : Nat) : Bool := yes (R.run (envL 8) 1000000 3 [.rest .u8 16 (Nat.mod (Nat.div i 1) 16)] ⟨.nil, 0⟩)
theorem checkBodies_0 : span checkBodiesRun 1 0 = true := by kernel_rfl
theorem checkBodies_1 : span checkBodiesRun 1 1 = true := by kernel_rfl
theorem checkBodies_2 : span checkBodiesRun 1 2 = true := by kernel_rfl
theorem checkBodies_3 : span checkBodiesRun 1 3 = true := by kernel_rfl
end Go.Proofs.Ytafamggbkobcfaa.Ae
