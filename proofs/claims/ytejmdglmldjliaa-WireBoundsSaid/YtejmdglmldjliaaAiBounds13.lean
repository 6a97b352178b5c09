/-
  WireBounds: runs of the evaluator, part 14 of 16.
-/
import Derived.Test.YtejmdglmldjliaaAiBounds0
namespace Go.Proofs.Ytejmdglmldjliaa.Ae
open Go.AE Go.RowKit
set_option maxRecDepth 1000000
theorem bounds_195 : span boundsAll 15 195 = true := by kernel_rfl
theorem bounds_435 : span boundsAll 15 435 = true := by kernel_rfl
theorem bounds_675 : span boundsAll 15 675 = true := by kernel_rfl
theorem bounds_915 : span boundsAll 15 915 = true := by kernel_rfl
theorem bounds_1155 : span boundsAll 15 1155 = true := by kernel_rfl
theorem bounds_1395 : span boundsAll 15 1395 = true := by kernel_rfl
theorem bounds_1635 : span boundsAll 15 1635 = true := by kernel_rfl
theorem bounds_1875 : span boundsAll 15 1875 = true := by kernel_rfl
theorem bounds_2115 : span boundsAll 15 2115 = true := by kernel_rfl
theorem bounds_2355 : span boundsAll 15 2355 = true := by kernel_rfl
theorem bounds_2595 : span boundsAll 15 2595 = true := by kernel_rfl
theorem bounds_2835 : span boundsAll 15 2835 = true := by kernel_rfl
theorem bounds_3075 : span boundsAll 15 3075 = true := by kernel_rfl
theorem bounds_3315 : span boundsAll 15 3315 = true := by kernel_rfl
theorem bounds_3555 : span boundsAll 15 3555 = true := by kernel_rfl
theorem bounds_3795 : span boundsAll 15 3795 = true := by kernel_rfl
end Go.Proofs.Ytejmdglmldjliaa.Ae
