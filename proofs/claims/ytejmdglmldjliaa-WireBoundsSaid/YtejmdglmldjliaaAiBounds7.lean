/-
  WireBounds: runs of the evaluator, part 8 of 16.
-/
import Derived.Test.YtejmdglmldjliaaAiBounds0
namespace Go.Proofs.Ytejmdglmldjliaa.Ae
open Go.AE Go.RowKit
set_option maxRecDepth 1000000
theorem bounds_105 : span boundsAll 15 105 = true := by kernel_rfl
theorem bounds_345 : span boundsAll 15 345 = true := by kernel_rfl
theorem bounds_585 : span boundsAll 15 585 = true := by kernel_rfl
theorem bounds_825 : span boundsAll 15 825 = true := by kernel_rfl
theorem bounds_1065 : span boundsAll 15 1065 = true := by kernel_rfl
theorem bounds_1305 : span boundsAll 15 1305 = true := by kernel_rfl
theorem bounds_1545 : span boundsAll 15 1545 = true := by kernel_rfl
theorem bounds_1785 : span boundsAll 15 1785 = true := by kernel_rfl
theorem bounds_2025 : span boundsAll 15 2025 = true := by kernel_rfl
theorem bounds_2265 : span boundsAll 15 2265 = true := by kernel_rfl
theorem bounds_2505 : span boundsAll 15 2505 = true := by kernel_rfl
theorem bounds_2745 : span boundsAll 15 2745 = true := by kernel_rfl
theorem bounds_2985 : span boundsAll 15 2985 = true := by kernel_rfl
theorem bounds_3225 : span boundsAll 15 3225 = true := by kernel_rfl
theorem bounds_3465 : span boundsAll 15 3465 = true := by kernel_rfl
theorem bounds_3705 : span boundsAll 15 3705 = true := by kernel_rfl
theorem bounds_3945 : span boundsAll 15 3945 = true := by kernel_rfl
end Go.Proofs.Ytejmdglmldjliaa.Ae
