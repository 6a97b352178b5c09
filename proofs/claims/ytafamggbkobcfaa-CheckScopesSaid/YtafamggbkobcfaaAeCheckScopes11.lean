/-
  CheckScopes: runs of the evaluator, part 12 of 12.
-/
import Derived.Test.YtafamggbkobcfaaAeCheckScopes0
namespace Go.Proofs.Ytafamggbkobcfaa.Ae
open Go.AE Go.RowKit
set_option maxRecDepth 1000000
theorem checkScopes_77 : span checkScopesRun 1 77 = true := by kernel_rfl
theorem checkScopes_78 : span checkScopesRun 1 78 = true := by kernel_rfl
theorem checkScopes_79 : span checkScopesRun 1 79 = true := by kernel_rfl
theorem checkScopes_80 : span checkScopesRun 1 80 = true := by kernel_rfl
theorem checkScopes_81 : span checkScopesRun 1 81 = true := by kernel_rfl
theorem checkScopes_82 : span checkScopesRun 1 82 = true := by kernel_rfl
theorem checkScopes_83 : span checkScopesRun 1 83 = true := by kernel_rfl
end Go.Proofs.Ytafamggbkobcfaa.Ae
