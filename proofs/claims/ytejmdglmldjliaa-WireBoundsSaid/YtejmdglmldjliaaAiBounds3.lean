/-
  WireBounds: runs of the evaluator, part 4 of 16.
-/
import Derived.Test.YtejmdglmldjliaaAiBounds0
namespace Go.Proofs.Ytejmdglmldjliaa.Ae
open Go.AE Go.RowKit
set_option maxRecDepth 1000000
theorem bounds_45 : span boundsAll 15 45 = true := by kernel_rfl
theorem bounds_285 : span boundsAll 15 285 = true := by kernel_rfl
theorem bounds_525 : span boundsAll 15 525 = true := by kernel_rfl
theorem bounds_765 : span boundsAll 15 765 = true := by kernel_rfl
theorem bounds_1005 : span boundsAll 15 1005 = true := by kernel_rfl
theorem bounds_1245 : span boundsAll 15 1245 = true := by kernel_rfl
theorem bounds_1485 : span boundsAll 15 1485 = true := by kernel_rfl
theorem bounds_1725 : span boundsAll 15 1725 = true := by kernel_rfl
theorem bounds_1965 : span boundsAll 15 1965 = true := by kernel_rfl
theorem bounds_2205 : span boundsAll 15 2205 = true := by kernel_rfl
theorem bounds_2445 : span boundsAll 15 2445 = true := by kernel_rfl
theorem bounds_2685 : span boundsAll 15 2685 = true := by kernel_rfl
theorem bounds_2925 : span boundsAll 15 2925 = true := by kernel_rfl
theorem bounds_3165 : span boundsAll 15 3165 = true := by kernel_rfl
theorem bounds_3405 : span boundsAll 15 3405 = true := by kernel_rfl
theorem bounds_3645 : span boundsAll 15 3645 = true := by kernel_rfl
theorem bounds_3885 : span boundsAll 15 3885 = true := by kernel_rfl
end Go.Proofs.Ytejmdglmldjliaa.Ae
