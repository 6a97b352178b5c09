/-
  WireBounds: runs of the evaluator, part 6 of 16.
-/
import Derived.Test.YtejmdglmldjliaaAiBounds0
namespace Go.Proofs.Ytejmdglmldjliaa.Ae
open Go.AE Go.RowKit
set_option maxRecDepth 1000000
theorem bounds_75 : span boundsAll 15 75 = true := by kernel_rfl
theorem bounds_315 : span boundsAll 15 315 = true := by kernel_rfl
theorem bounds_555 : span boundsAll 15 555 = true := by kernel_rfl
theorem bounds_795 : span boundsAll 15 795 = true := by kernel_rfl
theorem bounds_1035 : span boundsAll 15 1035 = true := by kernel_rfl
theorem bounds_1275 : span boundsAll 15 1275 = true := by kernel_rfl
theorem bounds_1515 : span boundsAll 15 1515 = true := by kernel_rfl
theorem bounds_1755 : span boundsAll 15 1755 = true := by kernel_rfl
theorem bounds_1995 : span boundsAll 15 1995 = true := by kernel_rfl
theorem bounds_2235 : span boundsAll 15 2235 = true := by kernel_rfl
theorem bounds_2475 : span boundsAll 15 2475 = true := by kernel_rfl
theorem bounds_2715 : span boundsAll 15 2715 = true := by kernel_rfl
theorem bounds_2955 : span boundsAll 15 2955 = true := by kernel_rfl
theorem bounds_3195 : span boundsAll 15 3195 = true := by kernel_rfl
theorem bounds_3435 : span boundsAll 15 3435 = true := by kernel_rfl
theorem bounds_3675 : span boundsAll 15 3675 = true := by kernel_rfl
theorem bounds_3915 : span boundsAll 15 3915 = true := by kernel_rfl
end Go.Proofs.Ytejmdglmldjliaa.Ae
