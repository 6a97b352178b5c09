/-
  WireBounds: runs of the evaluator, part 2 of 16.
-/
import Derived.Test.YtejmdglmldjliaaAiBounds0
namespace Go.Proofs.Ytejmdglmldjliaa.Ae
open Go.AE Go.RowKit
set_option maxRecDepth 1000000
theorem bounds_15 : span boundsAll 15 15 = true := by kernel_rfl
theorem bounds_255 : span boundsAll 15 255 = true := by kernel_rfl
theorem bounds_495 : span boundsAll 15 495 = true := by kernel_rfl
theorem bounds_735 : span boundsAll 15 735 = true := by kernel_rfl
theorem bounds_975 : span boundsAll 15 975 = true := by kernel_rfl
theorem bounds_1215 : span boundsAll 15 1215 = true := by kernel_rfl
theorem bounds_1455 : span boundsAll 15 1455 = true := by kernel_rfl
theorem bounds_1695 : span boundsAll 15 1695 = true := by kernel_rfl
theorem bounds_1935 : span boundsAll 15 1935 = true := by kernel_rfl
theorem bounds_2175 : span boundsAll 15 2175 = true := by kernel_rfl
theorem bounds_2415 : span boundsAll 15 2415 = true := by kernel_rfl
theorem bounds_2655 : span boundsAll 15 2655 = true := by kernel_rfl
theorem bounds_2895 : span boundsAll 15 2895 = true := by kernel_rfl
theorem bounds_3135 : span boundsAll 15 3135 = true := by kernel_rfl
theorem bounds_3375 : span boundsAll 15 3375 = true := by kernel_rfl
theorem bounds_3615 : span boundsAll 15 3615 = true := by kernel_rfl
theorem bounds_3855 : span boundsAll 15 3855 = true := by kernel_rfl
end Go.Proofs.Ytejmdglmldjliaa.Ae
