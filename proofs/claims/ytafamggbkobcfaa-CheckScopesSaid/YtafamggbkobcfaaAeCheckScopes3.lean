/-
  CheckScopes: runs of the evaluator, part 4 of 12.
-/
import Derived.Test.YtafamggbkobcfaaAeCheckScopes0
namespace Go.Proofs.Ytafamggbkobcfaa.Ae
open Go.AE Go.RowKit
set_option maxRecDepth 1000000
theorem checkScopes_21 : span checkScopesRun 1 21 = true := by kernel_rfl
theorem checkScopes_22 : span checkScopesRun 1 22 = true := by kernel_rfl
theorem checkScopes_23 : span checkScopesRun 1 23 = true := by kernel_rfl
theorem checkScopes_24 : span checkScopesRun 1 24 = true := by kernel_rfl
theorem checkScopes_25 : span checkScopesRun 1 25 = true := by kernel_rfl
theorem checkScopes_26 : span checkScopesRun 1 26 = true := by kernel_rfl
theorem checkScopes_27 : span checkScopesRun 1 27 = true := by kernel_rfl
end Go.Proofs.Ytafamggbkobcfaa.Ae
