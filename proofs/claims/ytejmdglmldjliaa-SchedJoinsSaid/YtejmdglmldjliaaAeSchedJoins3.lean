/-
  SchedJoins: runs of the evaluator, part 4 of 10.
-/
import Derived.Test.YtejmdglmldjliaaAeSchedJoins0
namespace Go.Proofs.Ytejmdglmldjliaa.Ae
open Go.AE Go.RowKit
set_option maxRecDepth 1000000
theorem schedJoins_768 : span schedJoinsRun 64 768 = true := by kernel_rfl
theorem schedJoins_832 : span schedJoinsRun 64 832 = true := by kernel_rfl
theorem schedJoins_896 : span schedJoinsRun 64 896 = true := by kernel_rfl
theorem schedJoins_960 : span schedJoinsRun 64 960 = true := by kernel_rfl
end Go.Proofs.Ytejmdglmldjliaa.Ae
