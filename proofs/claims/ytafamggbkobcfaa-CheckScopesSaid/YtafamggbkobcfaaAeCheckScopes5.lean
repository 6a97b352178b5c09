/-
  CheckScopes: runs of the evaluator, part 6 of 12.
-/
import Derived.Test.YtafamggbkobcfaaAeCheckScopes0
namespace Go.Proofs.Ytafamggbkobcfaa.Ae
open Go.AE Go.RowKit
set_option maxRecDepth 1000000
theorem checkScopes_35 : span checkScopesRun 1 35 = true := by kernel_rfl
theorem checkScopes_36 : span checkScopesRun 1 36 = true := by kernel_rfl
theorem checkScopes_37 : span checkScopesRun 1 37 = true := by kernel_rfl
theorem checkScopes_38 : span checkScopesRun 1 38 = true := by kernel_rfl
theorem checkScopes_39 : span checkScopesRun 1 39 = true := by kernel_rfl
theorem checkScopes_40 : span checkScopesRun 1 40 = true := by kernel_rfl
theorem checkScopes_41 : span checkScopesRun 1 41 = true := by kernel_rfl
end Go.Proofs.Ytafamggbkobcfaa.Ae
