/-
  CheckScopes: runs of the evaluator, part 3 of 12.
-/
import Derived.Test.YtafamggbkobcfaaAeCheckScopes0
namespace Go.Proofs.Ytafamggbkobcfaa.Ae
open Go.AE Go.RowKit
set_option maxRecDepth 1000000
theorem checkScopes_14 : span checkScopesRun 1 14 = true := by kernel_rfl
theorem checkScopes_15 : span checkScopesRun 1 15 = true := by kernel_rfl
theorem checkScopes_16 : span checkScopesRun 1 16 = true := by kernel_rfl
theorem checkScopes_17 : span checkScopesRun 1 17 = true := by kernel_rfl
theorem checkScopes_18 : span checkScopesRun 1 18 = true := by kernel_rfl
theorem checkScopes_19 : span checkScopesRun 1 19 = true := by kernel_rfl
theorem checkScopes_20 : span checkScopesRun 1 20 = true := by kernel_rfl
end Go.Proofs.Ytafamggbkobcfaa.Ae
