/-
  CheckScopes: runs of the evaluator, part 5 of 12.
-/
import Derived.Test.YtafamggbkobcfaaAeCheckScopes0
namespace Go.Proofs.Ytafamggbkobcfaa.Ae
open Go.AE Go.RowKit
set_option maxRecDepth 1000000
theorem checkScopes_28 : span checkScopesRun 1 28 = true := by kernel_rfl
theorem checkScopes_29 : span checkScopesRun 1 29 = true := by kernel_rfl
theorem checkScopes_30 : span checkScopesRun 1 30 = true := by kernel_rfl
theorem checkScopes_31 : span checkScopesRun 1 31 = true := by kernel_rfl
theorem checkScopes_32 : span checkScopesRun 1 32 = true := by kernel_rfl
theorem checkScopes_33 : span checkScopesRun 1 33 = true := by kernel_rfl
theorem checkScopes_34 : span checkScopesRun 1 34 = true := by kernel_rfl
end Go.Proofs.Ytafamggbkobcfaa.Ae
