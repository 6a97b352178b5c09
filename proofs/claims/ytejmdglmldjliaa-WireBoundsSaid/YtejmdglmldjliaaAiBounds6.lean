/-
  WireBounds: runs of the evaluator, part 7 of 16.
-/
import Derived.Test.YtejmdglmldjliaaAiBounds0
namespace Go.Proofs.Ytejmdglmldjliaa.Ae
open Go.AE Go.RowKit
set_option maxRecDepth 1000000
theorem bounds_90 : span boundsAll 15 90 = true := by kernel_rfl
theorem bounds_330 : span boundsAll 15 330 = true := by kernel_rfl
theorem bounds_570 : span boundsAll 15 570 = true := by kernel_rfl
theorem bounds_810 : span boundsAll 15 810 = true := by kernel_rfl
theorem bounds_1050 : span boundsAll 15 1050 = true := by kernel_rfl
theorem bounds_1290 : span boundsAll 15 1290 = true := by kernel_rfl
theorem bounds_1530 : span boundsAll 15 1530 = true := by kernel_rfl
theorem bounds_1770 : span boundsAll 15 1770 = true := by kernel_rfl
theorem bounds_2010 : span boundsAll 15 2010 = true := by kernel_rfl
theorem bounds_2250 : span boundsAll 15 2250 = true := by kernel_rfl
theorem bounds_2490 : span boundsAll 15 2490 = true := by kernel_rfl
theorem bounds_2730 : span boundsAll 15 2730 = true := by kernel_rfl
theorem bounds_2970 : span boundsAll 15 2970 = true := by kernel_rfl
theorem bounds_3210 : span boundsAll 15 3210 = true := by kernel_rfl
theorem bounds_3450 : span boundsAll 15 3450 = true := by kernel_rfl
theorem bounds_3690 : span boundsAll 15 3690 = true := by kernel_rfl
theorem bounds_3930 : span boundsAll 15 3930 = true := by kernel_rfl
end Go.Proofs.Ytejmdglmldjliaa.Ae
