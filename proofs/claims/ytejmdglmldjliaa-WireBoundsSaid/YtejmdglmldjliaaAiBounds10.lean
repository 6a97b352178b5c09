/-
  WireBounds: runs of the evaluator, part 11 of 16.
-/
import Derived.Test.YtejmdglmldjliaaAiBounds0
namespace Go.Proofs.Ytejmdglmldjliaa.Ae
open Go.AE Go.RowKit
set_option maxRecDepth 1000000
theorem bounds_150 : span boundsAll 15 150 = true := by kernel_rfl
theorem bounds_390 : span boundsAll 15 390 = true := by kernel_rfl
theorem bounds_630 : span boundsAll 15 630 = true := by kernel_rfl
theorem bounds_870 : span boundsAll 15 870 = true := by kernel_rfl
theorem bounds_1110 : span boundsAll 15 1110 = true := by kernel_rfl
theorem bounds_1350 : span boundsAll 15 1350 = true := by kernel_rfl
theorem bounds_1590 : span boundsAll 15 1590 = true := by kernel_rfl
theorem bounds_1830 : span boundsAll 15 1830 = true := by kernel_rfl
theorem bounds_2070 : span boundsAll 15 2070 = true := by kernel_rfl
theorem bounds_2310 : span boundsAll 15 2310 = true := by kernel_rfl
theorem bounds_2550 : span boundsAll 15 2550 = true := by kernel_rfl
theorem bounds_2790 : span boundsAll 15 2790 = true := by kernel_rfl
theorem bounds_3030 : span boundsAll 15 3030 = true := by kernel_rfl
theorem bounds_3270 : span boundsAll 15 3270 = true := by kernel_rfl
theorem bounds_3510 : span boundsAll 15 3510 = true := by kernel_rfl
theorem bounds_3750 : span boundsAll 15 3750 = true := by kernel_rfl
theorem bounds_3990 : span boundsAll 15 3990 = true := by kernel_rfl
end Go.Proofs.Ytejmdglmldjliaa.Ae
