/-
  CheckScopes: runs of the evaluator, part 1 of 12.
-/
import Derived.Test.YtafamggbkobcfaaAeKnown
namespace Go.Proofs.Ytafamggbkobcfaa.Ae
open Go.AE Go.RowKit
set_option maxRecDepth 1000000
/-- One run, by its number. -/
noncomputable def checkScopesRun (i : Nat) : Bool := yes (R.run (envL 8) 1000000 4 [.rest .u8 6 (Nat.mod (Nat.div i 1) 6), .rest .u8 7 (Nat.mod (Nat.div i 6) 7), .bool (Nat.beq (Nat.mod (Nat.div i 42) 2) 1)] ⟨.nil, 0⟩)
theorem checkScopes_0 : span checkScopesRun 1 0 = true := by kernel_rfl
theorem checkScopes_1 : span checkScopesRun 1 1 = true := by kernel_rfl
theorem checkScopes_2 : span checkScopesRun 1 2 = true := by kernel_rfl
theorem checkScopes_3 : span checkScopesRun 1 3 = true := by kernel_rfl
theorem checkScopes_4 : span checkScopesRun 1 4 = true := by kernel_rfl
theorem checkScopes_5 : span checkScopesRun 1 5 = true := by kernel_rfl
theorem checkScopes_6 : span checkScopesRun 1 6 = true := by kernel_rfl
end Go.Proofs.Ytafamggbkobcfaa.Ae
