/-
  WireBounds: runs of the evaluator, part 3 of 16.
-/
import Derived.Test.YtejmdglmldjliaaAiBounds0
namespace Go.Proofs.Ytejmdglmldjliaa.Ae
open Go.AE Go.RowKit
set_option maxRecDepth 1000000
theorem bounds_30 : span boundsAll 15 30 = true := by kernel_rfl
theorem bounds_270 : span boundsAll 15 270 = true := by kernel_rfl
theorem bounds_510 : span boundsAll 15 510 = true := by kernel_rfl
theorem bounds_750 : span boundsAll 15 750 = true := by kernel_rfl
theorem bounds_990 : span boundsAll 15 990 = true := by kernel_rfl
theorem bounds_1230 : span boundsAll 15 1230 = true := by kernel_rfl
theorem bounds_1470 : span boundsAll 15 1470 = true := by kernel_rfl
theorem bounds_1710 : span boundsAll 15 1710 = true := by kernel_rfl
theorem bounds_1950 : span boundsAll 15 1950 = true := by kernel_rfl
theorem bounds_2190 : span boundsAll 15 2190 = true := by kernel_rfl
theorem bounds_2430 : span boundsAll 15 2430 = true := by kernel_rfl
theorem bounds_2670 : span boundsAll 15 2670 = true := by kernel_rfl
theorem bounds_2910 : span boundsAll 15 2910 = true := by kernel_rfl
theorem bounds_3150 : span boundsAll 15 3150 = true := by kernel_rfl
theorem bounds_3390 : span boundsAll 15 3390 = true := by kernel_rfl
theorem bounds_3630 : span boundsAll 15 3630 = true := by kernel_rfl
theorem bounds_3870 : span boundsAll 15 3870 = true := by kernel_rfl
end Go.Proofs.Ytejmdglmldjliaa.Ae
