/-
  CheckScopes: runs of the evaluator, part 8 of 12.
-/
import Derived.Test.YtafamggbkobcfaaAeCheckScopes0
namespace Go.Proofs.Ytafamggbkobcfaa.Ae
open Go.AE Go.RowKit
set_option maxRecDepth 1000000
theorem checkScopes_49 : span checkScopesRun 1 49 = true := by kernel_rfl
theorem checkScopes_50 : span checkScopesRun 1 50 = true := by kernel_rfl
theorem checkScopes_51 : span checkScopesRun 1 51 = true := by kernel_rfl
theorem checkScopes_52 : span checkScopesRun 1 52 = true := by kernel_rfl
theorem checkScopes_53 : span checkScopesRun 1 53 = true := by kernel_rfl
theorem checkScopes_54 : span checkScopesRun 1 54 = true := by kernel_rfl
theorem checkScopes_55 : span checkScopesRun 1 55 = true := by kernel_rfl
end Go.Proofs.Ytafamggbkobcfaa.Ae
