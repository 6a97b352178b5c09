/-
  WireBounds: runs of the evaluator, part 13 of 16.
-/
import Derived.Test.YtejmdglmldjliaaAiBounds0
namespace Go.Proofs.Ytejmdglmldjliaa.Ae
open Go.AE Go.RowKit
set_option maxRecDepth 1000000
theorem bounds_180 : span boundsAll 15 180 = true := by kernel_rfl
theorem bounds_420 : span boundsAll 15 420 = true := by kernel_rfl
theorem bounds_660 : span boundsAll 15 660 = true := by kernel_rfl
theorem bounds_900 : span boundsAll 15 900 = true := by kernel_rfl
theorem bounds_1140 : span boundsAll 15 1140 = true := by kernel_rfl
theorem bounds_1380 : span boundsAll 15 1380 = true := by kernel_rfl
theorem bounds_1620 : span boundsAll 15 1620 = true := by kernel_rfl
theorem bounds_1860 : span boundsAll 15 1860 = true := by kernel_rfl
theorem bounds_2100 : span boundsAll 15 2100 = true := by kernel_rfl
theorem bounds_2340 : span boundsAll 15 2340 = true := by kernel_rfl
theorem bounds_2580 : span boundsAll 15 2580 = true := by kernel_rfl
theorem bounds_2820 : span boundsAll 15 2820 = true := by kernel_rfl
theorem bounds_3060 : span boundsAll 15 3060 = true := by kernel_rfl
theorem bounds_3300 : span boundsAll 15 3300 = true := by kernel_rfl
theorem bounds_3540 : span boundsAll 15 3540 = true := by kernel_rfl
theorem bounds_3780 : span boundsAll 15 3780 = true := by kernel_rfl
end Go.Proofs.Ytejmdglmldjliaa.Ae
