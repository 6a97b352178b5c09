/-
  SchedJoins: runs of the evaluator, part 10 of 10.
-/
import Derived.Test.YtejmdglmldjliaaAeSchedJoins0
namespace Go.Proofs.Ytejmdglmldjliaa.Ae
open Go.AE Go.RowKit
set_option maxRecDepth 1000000
theorem schedJoins_2304 : span schedJoinsRun 64 2304 = true := by kernel_rfl
theorem schedJoins_2368 : span schedJoinsRun 64 2368 = true := by kernel_rfl
theorem schedJoins_2432 : span schedJoinsRun 64 2432 = true := by kernel_rfl
theorem schedJoins_2496 : span schedJoinsRun 64 2496 = true := by kernel_rfl
end Go.Proofs.Ytejmdglmldjliaa.Ae
