/-
  SchedJoins: runs of the evaluator, part 1 of 10.
-/
import Derived.Test.YtejmdglmldjliaaAeKnown1
namespace Go.Proofs.Ytejmdglmldjliaa.Ae
open Go.AE Go.RowKit
set_option maxRecDepth 1000000
/-- One run, by its number. -/
noncomputable def schedJoinsRun (i : Nat) : Bool := yes (R.run (envL 31) 1000000 6 [.rest .u8 10 (Nat.mod (Nat.div i 1) 10), .int .u8 (.ofNat (Nat.mod (Nat.div i 10) 256))] ⟨.nil, 0⟩)
theorem schedJoins_0 : span schedJoinsRun 64 0 = true := by kernel_rfl
theorem schedJoins_64 : span schedJoinsRun 64 64 = true := by kernel_rfl
theorem schedJoins_128 : span schedJoinsRun 64 128 = true := by kernel_rfl
theorem schedJoins_192 : span schedJoinsRun 64 192 = true := by kernel_rfl
end Go.Proofs.Ytejmdglmldjliaa.Ae
