/-
  CheckScopes: runs of the evaluator, part 11 of 12.
-/
import Derived.Test.YtafamggbkobcfaaAeCheckScopes0
namespace Go.Proofs.Ytafamggbkobcfaa.Ae
open Go.AE Go.RowKit
set_option maxRecDepth 1000000
theorem checkScopes_70 : span checkScopesRun 1 70 = true := by kernel_rfl
theorem checkScopes_71 : span checkScopesRun 1 71 = true := by kernel_rfl
theorem checkScopes_72 : span checkScopesRun 1 72 = true := by kernel_rfl
theorem checkScopes_73 : span checkScopesRun 1 73 = true := by kernel_rfl
theorem checkScopes_74 : span checkScopesRun 1 74 = true := by kernel_rfl
theorem checkScopes_75 : span checkScopesRun 1 75 = true := by kernel_rfl
theorem checkScopes_76 : span checkScopesRun 1 76 = true := by kernel_rfl
end Go.Proofs.Ytafamggbkobcfaa.Ae
