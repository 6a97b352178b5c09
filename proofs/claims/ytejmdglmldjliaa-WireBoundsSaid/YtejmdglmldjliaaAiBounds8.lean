/-
  WireBounds: runs of the evaluator, part 9 of 16.
-/
import Derived.Test.YtejmdglmldjliaaAiBounds0
namespace Go.Proofs.Ytejmdglmldjliaa.Ae
open Go.AE Go.RowKit
set_option maxRecDepth 1000000
theorem bounds_120 : span boundsAll 15 120 = true := by kernel_rfl
theorem bounds_360 : span boundsAll 15 360 = true := by kernel_rfl
theorem bounds_600 : span boundsAll 15 600 = true := by kernel_rfl
theorem bounds_840 : span boundsAll 15 840 = true := by kernel_rfl
theorem bounds_1080 : span boundsAll 15 1080 = true := by kernel_rfl
theorem bounds_1320 : span boundsAll 15 1320 = true := by kernel_rfl
theorem bounds_1560 : span boundsAll 15 1560 = true := by kernel_rfl
theorem bounds_1800 : span boundsAll 15 1800 = true := by kernel_rfl
theorem bounds_2040 : span boundsAll 15 2040 = true := by kernel_rfl
theorem bounds_2280 : span boundsAll 15 2280 = true := by kernel_rfl
theorem bounds_2520 : span boundsAll 15 2520 = true := by kernel_rfl
theorem bounds_2760 : span boundsAll 15 2760 = true := by kernel_rfl
theorem bounds_3000 : span boundsAll 15 3000 = true := by kernel_rfl
theorem bounds_3240 : span boundsAll 15 3240 = true := by kernel_rfl
theorem bounds_3480 : span boundsAll 15 3480 = true := by kernel_rfl
theorem bounds_3720 : span boundsAll 15 3720 = true := by kernel_rfl
theorem bounds_3960 : span boundsAll 15 3960 = true := by kernel_rfl
end Go.Proofs.Ytejmdglmldjliaa.Ae
