/-
  CodeOps: runs of the evaluator, part 1 of 8.
-/
import Derived.Test.YtokieeiohfcgdaaAeKnown1
namespace Go.Proofs.Ytokieeiohfcgdaa.Ae
open Go.AE Go.RowKit
set_option maxRecDepth 1000000
/-- One run, by its number. -/
noncomputable def codeOpsRun (i : Nat) : Bool := yes (R.run (envL 35) 1000000 12 [.rest .u8 48 (Nat.mod (Nat.div i 1) 48), .rest .u8 48 (Nat.mod (Nat.div i 48) 48)] ⟨.nil, 0⟩)
theorem codeOps_0 : span codeOpsRun 32 0 = true := by kernel_rfl
theorem codeOps_32 : span codeOpsRun 32 32 = true := by kernel_rfl
theorem codeOps_64 : span codeOpsRun 32 64 = true := by kernel_rfl
theorem codeOps_96 : span codeOpsRun 32 96 = true := by kernel_rfl
theorem codeOps_128 : span codeOpsRun 32 128 = true := by kernel_rfl
theorem codeOps_160 : span codeOpsRun 32 160 = true := by kernel_rfl
theorem codeOps_192 : span codeOpsRun 32 192 = true := by kernel_rfl
theorem codeOps_224 : span codeOpsRun 32 224 = true := by kernel_rfl
theorem codeOps_256 : span codeOpsRun 32 256 = true := by kernel_rfl
end Go.Proofs.Ytokieeiohfcgdaa.Ae
