/-
  WireBounds: runs of the evaluator, part 15 of 16.
-/
import Derived.Test.YtejmdglmldjliaaAiBounds0
namespace Go.Proofs.Ytejmdglmldjliaa.Ae
open Go.AE Go.RowKit
set_option maxRecDepth 1000000
theorem bounds_210 : span boundsAll 15 210 = true := by kernel_rfl
theorem bounds_450 : span boundsAll 15 450 = true := by kernel_rfl
theorem bounds_690 : span boundsAll 15 690 = true := by kernel_rfl
theorem bounds_930 : span boundsAll 15 930 = true := by kernel_rfl
theorem bounds_1170 : span boundsAll 15 1170 = true := by kernel_rfl
theorem bounds_1410 : span boundsAll 15 1410 = true := by kernel_rfl
theorem bounds_1650 : span boundsAll 15 1650 = true := by kernel_rfl
theorem bounds_1890 : span boundsAll 15 1890 = true := by kernel_rfl
theorem bounds_2130 : span boundsAll 15 2130 = true := by kernel_rfl
theorem bounds_2370 : span boundsAll 15 2370 = true := by kernel_rfl
theorem bounds_2610 : span boundsAll 15 2610 = true := by kernel_rfl
theorem bounds_2850 : span boundsAll 15 2850 = true := by kernel_rfl
theorem bounds_3090 : span boundsAll 15 3090 = true := by kernel_rfl
theorem bounds_3330 : span boundsAll 15 3330 = true := by kernel_rfl
theorem bounds_3570 : span boundsAll 15 3570 = true := by kernel_rfl
theorem bounds_3810 : span boundsAll 15 3810 = true := by kernel_rfl
end Go.Proofs.Ytejmdglmldjliaa.Ae
