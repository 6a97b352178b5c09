/-
  CheckScopes: runs of the evaluator, part 2 of 12.
-/
import Derived.Test.YtafamggbkobcfaaAeCheckScopes0
namespace Go.Proofs.Ytafamggbkobcfaa.Ae
open Go.AE Go.RowKit
set_option maxRecDepth 1000000
theorem checkScopes_7 : span checkScopesRun 1 7 = true := by kernel_rfl
theorem checkScopes_8 : span checkScopesRun 1 8 = true := by kernel_rfl
theorem checkScopes_9 : span checkScopesRun 1 9 = true := by kernel_rfl
theorem checkScopes_10 : span checkScopesRun 1 10 = true := by kernel_rfl
theorem checkScopes_11 : span checkScopesRun 1 11 = true := by kernel_rfl
theorem checkScopes_12 : span checkScopesRun 1 12 = true := by kernel_rfl
theorem checkScopes_13 : span checkScopesRun 1 13 = true := by kernel_rfl
end Go.Proofs.Ytafamggbkobcfaa.Ae
