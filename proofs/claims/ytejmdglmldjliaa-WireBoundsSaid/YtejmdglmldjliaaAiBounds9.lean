/-
  WireBounds: runs of the evaluator, part 10 of 16.
-/
import Derived.Test.YtejmdglmldjliaaAiBounds0
namespace Go.Proofs.Ytejmdglmldjliaa.Ae
open Go.AE Go.RowKit
set_option maxRecDepth 1000000
theorem bounds_135 : span boundsAll 15 135 = true := by kernel_rfl
theorem bounds_375 : span boundsAll 15 375 = true := by kernel_rfl
theorem bounds_615 : span boundsAll 15 615 = true := by kernel_rfl
theorem bounds_855 : span boundsAll 15 855 = true := by kernel_rfl
theorem bounds_1095 : span boundsAll 15 1095 = true := by kernel_rfl
theorem bounds_1335 : span boundsAll 15 1335 = true := by kernel_rfl
theorem bounds_1575 : span boundsAll 15 1575 = true := by kernel_rfl
theorem bounds_1815 : span boundsAll 15 1815 = true := by kernel_rfl
theorem bounds_2055 : span boundsAll 15 2055 = true := by kernel_rfl
theorem bounds_2295 : span boundsAll 15 2295 = true := by kernel_rfl
theorem bounds_2535 : span boundsAll 15 2535 = true := by kernel_rfl
theorem bounds_2775 : span boundsAll 15 2775 = true := by kernel_rfl
theorem bounds_3015 : span boundsAll 15 3015 = true := by kernel_rfl
theorem bounds_3255 : span boundsAll 15 3255 = true := by kernel_rfl
theorem bounds_3495 : span boundsAll 15 3495 = true := by kernel_rfl
theorem bounds_3735 : span boundsAll 15 3735 = true := by kernel_rfl
theorem bounds_3975 : span boundsAll 15 3975 = true := by kernel_rfl
end Go.Proofs.Ytejmdglmldjliaa.Ae
