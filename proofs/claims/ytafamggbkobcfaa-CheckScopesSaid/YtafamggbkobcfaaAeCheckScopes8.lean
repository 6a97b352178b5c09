/-
  CheckScopes: runs of the evaluator, part 9 of 12.
-/
import Derived.Test.YtafamggbkobcfaaAeCheckScopes0
namespace Go.Proofs.Ytafamggbkobcfaa.Ae
open Go.AE Go.RowKit
set_option maxRecDepth 1000000
theorem checkScopes_56 : span checkScopesRun 1 56 = true := by kernel_rfl
theorem checkScopes_57 : span checkScopesRun 1 57 = true := by kernel_rfl
theorem checkScopes_58 : span checkScopesRun 1 58 = true := by kernel_rfl
theorem checkScopes_59 : span checkScopesRun 1 59 = true := by kernel_rfl
theorem checkScopes_60 : span checkScopesRun 1 60 = true := by kernel_rfl
theorem checkScopes_61 : span checkScopesRun 1 61 = true := by kernel_rfl
theorem checkScopes_62 : span checkScopesRun 1 62 = true := by kernel_rfl
end Go.Proofs.Ytafamggbkobcfaa.Ae
