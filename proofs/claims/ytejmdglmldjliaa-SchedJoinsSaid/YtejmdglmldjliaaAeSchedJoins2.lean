/-
  SchedJoins: runs of the evaluator, part 3 of 10.
-/
import Derived.Test.YtejmdglmldjliaaAeSchedJoins0
namespace Go.Proofs.Ytejmdglmldjliaa.Ae
open Go.AE Go.RowKit
set_option maxRecDepth 1000000
theorem schedJoins_512 : span schedJoinsRun 64 512 = true := by kernel_rfl
theorem schedJoins_576 : span schedJoinsRun 64 576 = true := by kernel_rfl
theorem schedJoins_640 : span schedJoinsRun 64 640 = true := by kernel_rfl
theorem schedJoins_704 : span schedJoinsRun 64 704 = true := by kernel_rfl
end Go.Proofs.Ytejmdglmldjliaa.Ae
