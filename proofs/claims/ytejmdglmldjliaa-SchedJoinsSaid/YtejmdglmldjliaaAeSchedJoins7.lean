/-
  SchedJoins: runs of the evaluator, part 8 of 10.
-/
import Derived.Test.YtejmdglmldjliaaAeSchedJoins0
namespace Go.Proofs.Ytejmdglmldjliaa.Ae
open Go.AE Go.RowKit
set_option maxRecDepth 1000000
theorem schedJoins_1792 : span schedJoinsRun 64 1792 = true := by kernel_rfl
theorem schedJoins_1856 : span schedJoinsRun 64 1856 = true := by kernel_rfl
theorem schedJoins_1920 : span schedJoinsRun 64 1920 = true := by kernel_rfl
theorem schedJoins_1984 : span schedJoinsRun 64 1984 = true := by kernel_rfl
end Go.Proofs.Ytejmdglmldjliaa.Ae
