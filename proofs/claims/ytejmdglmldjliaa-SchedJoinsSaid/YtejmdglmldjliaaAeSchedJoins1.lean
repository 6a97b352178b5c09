/-
  SchedJoins: runs of the evaluator, part 2 of 10.
-/
import Derived.Test.YtejmdglmldjliaaAeSchedJoins0
namespace Go.Proofs.Ytejmdglmldjliaa.Ae
open Go.AE Go.RowKit
set_option maxRecDepth 1000000
theorem schedJoins_256 : span schedJoinsRun 64 256 = true := by kernel_rfl
theorem schedJoins_320 : span schedJoinsRun 64 320 = true := by kernel_rfl
theorem schedJoins_384 : span schedJoinsRun 64 384 = true := by kernel_rfl
theorem schedJoins_448 : span schedJoinsRun 64 448 = true := by kernel_rfl
end Go.Proofs.Ytejmdglmldjliaa.Ae
