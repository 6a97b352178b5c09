/-
  CodeMany: runs of the evaluator, part 1 of 6.
-/
import Derived.Test.YtokieeiohfcgdaaAfOperand
namespace Go.Proofs.Ytokieeiohfcgdaa.Ae
open Go.AE Go.RowKit
set_option maxRecDepth 1000000
/-- One run, by its number. -/
noncomputable def codeManyRun (i : Nat) : Bool := yes (R.run envC 1000000 11 [.rest .u8 20 (Nat.div i 2), .among .u8 48 (bif Nat.beq (Nat.mod i 2) 0 then 271643532328905 else 9831444381750)] ⟨.nil, 0⟩)
theorem codeMany_0 : codeManyRun 0 = true := by kernel_rfl
theorem codeMany_6 : codeManyRun 6 = true := by kernel_rfl
theorem codeMany_12 : codeManyRun 12 = true := by kernel_rfl
theorem codeMany_18 : codeManyRun 18 = true := by kernel_rfl
theorem codeMany_24 : codeManyRun 24 = true := by kernel_rfl
theorem codeMany_30 : codeManyRun 30 = true := by kernel_rfl
theorem codeMany_36 : codeManyRun 36 = true := by kernel_rfl
end Go.Proofs.Ytokieeiohfcgdaa.Ae
