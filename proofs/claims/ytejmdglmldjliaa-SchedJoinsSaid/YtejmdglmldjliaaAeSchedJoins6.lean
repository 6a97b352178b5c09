/-
  SchedJoins: runs of the evaluator, part 7 of 10.
-/
import Derived.Test.YtejmdglmldjliaaAeSchedJoins0
namespace Go.Proofs.Ytejmdglmldjliaa.Ae
open Go.AE Go.RowKit
set_option maxRecDepth 1000000
theorem schedJoins_1536 : span schedJoinsRun 64 1536 = true := by kernel_rfl
theorem schedJoins_1600 : span schedJoinsRun 64 1600 = true := by kernel_rfl
theorem schedJoins_1664 : span schedJoinsRun 64 1664 = true := by kernel_rfl
theorem schedJoins_1728 : span schedJoinsRun 64 1728 = true := by kernel_rfl
end Go.Proofs.Ytejmdglmldjliaa.Ae
