/-
  WireBounds: runs of the evaluator, part 16 of 16.
-/
import Derived.Test.YtejmdglmldjliaaAiBounds0
namespace Go.Proofs.Ytejmdglmldjliaa.Ae
open Go.AE Go.RowKit
set_option maxRecDepth 1000000
theorem bounds_225 : span boundsAll 15 225 = true := by kernel_rfl
theorem bounds_465 : span boundsAll 15 465 = true := by kernel_rfl
theorem bounds_705 : span boundsAll 15 705 = true := by kernel_rfl
theorem bounds_945 : span boundsAll 15 945 = true := by kernel_rfl
theorem bounds_1185 : span boundsAll 15 1185 = true := by kernel_rfl
theorem bounds_1425 : span boundsAll 15 1425 = true := by kernel_rfl
theorem bounds_1665 : span boundsAll 15 1665 = true := by kernel_rfl
theorem bounds_1905 : span boundsAll 15 1905 = true := by kernel_rfl
theorem bounds_2145 : span boundsAll 15 2145 = true := by kernel_rfl
theorem bounds_2385 : span boundsAll 15 2385 = true := by kernel_rfl
theorem bounds_2625 : span boundsAll 15 2625 = true := by kernel_rfl
theorem bounds_2865 : span boundsAll 15 2865 = true := by kernel_rfl
theorem bounds_3105 : span boundsAll 15 3105 = true := by kernel_rfl
theorem bounds_3345 : span boundsAll 15 3345 = true := by kernel_rfl
theorem bounds_3585 : span boundsAll 15 3585 = true := by kernel_rfl
theorem bounds_3825 : span boundsAll 15 3825 = true := by kernel_rfl
end Go.Proofs.Ytejmdglmldjliaa.Ae
