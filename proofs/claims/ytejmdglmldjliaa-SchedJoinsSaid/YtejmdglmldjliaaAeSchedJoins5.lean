/-
  SchedJoins: runs of the evaluator, part 6 of 10.
-/
import Derived.Test.YtejmdglmldjliaaAeSchedJoins0
namespace Go.Proofs.Ytejmdglmldjliaa.Ae
open Go.AE Go.RowKit
set_option maxRecDepth 1000000
theorem schedJoins_1280 : span schedJoinsRun 64 1280 = true := by kernel_rfl
theorem schedJoins_1344 : span schedJoinsRun 64 1344 = true := by kernel_rfl
theorem schedJoins_1408 : span schedJoinsRun 64 1408 = true := by kernel_rfl
theorem schedJoins_1472 : span schedJoinsRun 64 1472 = true := by kernel_rfl
end Go.Proofs.Ytejmdglmldjliaa.Ae
