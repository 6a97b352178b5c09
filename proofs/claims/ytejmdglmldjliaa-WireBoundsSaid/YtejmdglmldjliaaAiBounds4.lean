/-
  WireBounds: runs of the evaluator, part 5 of 16.
-/
import Derived.Test.YtejmdglmldjliaaAiBounds0
namespace Go.Proofs.Ytejmdglmldjliaa.Ae
open Go.AE Go.RowKit
set_option maxRecDepth 1000000
theorem bounds_60 : span boundsAll 15 60 = true := by kernel_rfl
theorem bounds_300 : span boundsAll 15 300 = true := by kernel_rfl
theorem bounds_540 : span boundsAll 15 540 = true := by kernel_rfl
theorem bounds_780 : span boundsAll 15 780 = true := by kernel_rfl
theorem bounds_1020 : span boundsAll 15 1020 = true := by kernel_rfl
theorem bounds_1260 : span boundsAll 15 1260 = true := by kernel_rfl
theorem bounds_1500 : span boundsAll 15 1500 = true := by kernel_rfl
theorem bounds_1740 : span boundsAll 15 1740 = true := by kernel_rfl
theorem bounds_1980 : span boundsAll 15 1980 = true := by kernel_rfl
theorem bounds_2220 : span boundsAll 15 2220 = true := by kernel_rfl
theorem bounds_2460 : span boundsAll 15 2460 = true := by kernel_rfl
theorem bounds_2700 : span boundsAll 15 2700 = true := by kernel_rfl
theorem bounds_2940 : span boundsAll 15 2940 = true := by kernel_rfl
theorem bounds_3180 : span boundsAll 15 3180 = true := by kernel_rfl
theorem bounds_3420 : span boundsAll 15 3420 = true := by kernel_rfl
theorem bounds_3660 : span boundsAll 15 3660 = true := by kernel_rfl
theorem bounds_3900 : span boundsAll 15 3900 = true := by kernel_rfl
end Go.Proofs.Ytejmdglmldjliaa.Ae
