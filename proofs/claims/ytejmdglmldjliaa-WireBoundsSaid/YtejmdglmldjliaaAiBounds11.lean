/-
  WireBounds: runs of the evaluator, part 12 of 16.
-/
import Derived.Test.YtejmdglmldjliaaAiBounds0
namespace Go.Proofs.Ytejmdglmldjliaa.Ae
open Go.AE Go.RowKit
set_option maxRecDepth 1000000
theorem bounds_165 : span boundsAll 15 165 = true := by kernel_rfl
theorem bounds_405 : span boundsAll 15 405 = true := by kernel_rfl
theorem bounds_645 : span boundsAll 15 645 = true := by kernel_rfl
theorem bounds_885 : span boundsAll 15 885 = true := by kernel_rfl
theorem bounds_1125 : span boundsAll 15 1125 = true := by kernel_rfl
theorem bounds_1365 : span boundsAll 15 1365 = true := by kernel_rfl
theorem bounds_1605 : span boundsAll 15 1605 = true := by kernel_rfl
theorem bounds_1845 : span boundsAll 15 1845 = true := by kernel_rfl
theorem bounds_2085 : span boundsAll 15 2085 = true := by kernel_rfl
theorem bounds_2325 : span boundsAll 15 2325 = true := by kernel_rfl
theorem bounds_2565 : span boundsAll 15 2565 = true := by kernel_rfl
theorem bounds_2805 : span boundsAll 15 2805 = true := by kernel_rfl
theorem bounds_3045 : span boundsAll 15 3045 = true := by kernel_rfl
theorem bounds_3285 : span boundsAll 15 3285 = true := by kernel_rfl
theorem bounds_3525 : span boundsAll 15 3525 = true := by kernel_rfl
theorem bounds_3765 : span boundsAll 15 3765 = true := by kernel_rfl
theorem bounds_4005 : span boundsAll 15 4005 = true := by kernel_rfl
end Go.Proofs.Ytejmdglmldjliaa.Ae
