/-
  SchedJoins: runs of the evaluator, part 5 of 10.
-/
import Derived.Test.YtejmdglmldjliaaAeSchedJoins0
namespace Go.Proofs.Ytejmdglmldjliaa.Ae
open Go.AE Go.RowKit
set_option maxRecDepth 1000000
theorem schedJoins_1024 : span schedJoinsRun 64 1024 = true := by kernel_rfl
theorem schedJoins_1088 : span schedJoinsRun 64 1088 = true := by kernel_rfl
theorem schedJoins_1152 : span schedJoinsRun 64 1152 = true := by kernel_rfl
theorem schedJoins_1216 : span schedJoinsRun 64 1216 = true := by kernel_rfl
end Go.Proofs.Ytejmdglmldjliaa.Ae
