/-
  CheckScopes: runs of the evaluator, part 10 of 12.
-/
import Derived.Test.YtafamggbkobcfaaAeCheckScopes0
namespace Go.Proofs.Ytafamggbkobcfaa.Ae
open Go.AE Go.RowKit
set_option maxRecDepth 1000000
theorem checkScopes_63 : span checkScopesRun 1 63 = true := by kernel_rfl
theorem checkScopes_64 : span checkScopesRun 1 64 = true := by kernel_rfl
theorem checkScopes_65 : span checkScopesRun 1 65 = true := by kernel_rfl
theorem checkScopes_66 : span checkScopesRun 1 66 = true := by kernel_rfl
theorem checkScopes_67 : span checkScopesRun 1 67 = true := by kernel_rfl
theorem checkScopes_68 : span checkScopesRun 1 68 = true := by kernel_rfl
theorem checkScopes_69 : span checkScopesRun 1 69 = true := by kernel_rfl
end Go.Proofs.Ytafamggbkobcfaa.Ae
