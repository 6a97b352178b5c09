/-
  CheckScopes: runs of the evaluator, part 7 of 12.
-/
import Derived.Test.YtafamggbkobcfaaAeCheckScopes0
namespace Go.Proofs.Ytafamggbkobcfaa.Ae
open Go.AE Go.RowKit
set_option maxRecDepth 1000000
theorem checkScopes_42 : span checkScopesRun 1 42 = true := by kernel_rfl
theorem checkScopes_43 : span checkScopesRun 1 43 = true := by kernel_rfl
theorem checkScopes_44 : span checkScopesRun 1 44 = true := by kernel_rfl
theorem checkScopes_45 : span checkScopesRun 1 45 = true := by kernel_rfl
theorem checkScopes_46 : span checkScopesRun 1 46 = true := by kernel_rfl
theorem checkScopes_47 : span checkScopesRun 1 47 = true := by kernel_rfl
theorem checkScopes_48 : span checkScopesRun 1 48 = true := by kernel_rfl
end Go.Proofs.Ytafamggbkobcfaa.Ae
