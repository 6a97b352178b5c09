/-
  SchedJoins: runs of the evaluator, part 9 of 10.
-/
import Derived.Test.YtejmdglmldjliaaAeSchedJoins0
namespace Go.Proofs.Ytejmdglmldjliaa.Ae
open Go.AE Go.RowKit
set_option maxRecDepth 1000000
theorem schedJoins_2048 : span schedJoinsRun 64 2048 = true := by kernel_rfl
theorem schedJoins_2112 : span schedJoinsRun 64 2112 = true := by kernel_rfl
theorem schedJoins_2176 : span schedJoinsRun 64 2176 = true := by kernel_rfl
theorem schedJoins_2240 : span schedJoinsRun 64 2240 = true := by kernel_rfl
end Go.Proofs.Ytejmdglmldjliaa.Ae
