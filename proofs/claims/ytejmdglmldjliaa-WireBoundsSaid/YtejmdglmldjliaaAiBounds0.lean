/-
  WireBounds: runs of the evaluator, part 1 of 16.
-/
import Derived.Test.YtejmdglmldjliaaAiKnown
namespace Go.Proofs.Ytejmdglmldjliaa.Ae
open Go.AE Go.RowKit
set_option maxRecDepth 1000000
/-- Bits that have names, from the i-th on. -/
def namesF : Nat → Nat → List Bt → List Bt
  | _, 0, t => t
  | i, n + 1, t => .var i :: namesF (Nat.succ i) n t
/-- The shapes of a number: below 128; else by its highest bit. -/
def shapeN (j : Nat) : List Bt := bif Nat.beq j 0 then namesF 0 7 [] else namesF 0 (Nat.add j 6) [.one]
/-- One run: a text's length, a shape, whether n is at most the other one. -/
noncomputable def boundsRun (L j : Nat) (b : Bool) : Bool := yes (R.run (envL 13) 1000000 5 [.ustr L L, .bits .u16 (shapeN j), .least .u16 (shapeN j) b] ⟨.nil, 0⟩)
noncomputable def boundsAll (i : Nat) : Bool := boundsRun (Nat.div i 20) (Nat.mod (Nat.div i 2) 10) (Nat.beq (Nat.mod i 2) 1)
theorem bounds_long : yes (R.run (envL 13) 1000000 5 [.ustr 201 140737488351232, .undef, .undef] ⟨.nil, 0⟩) = true := by kernel_rfl
theorem bounds_0 : span boundsAll 15 0 = true := by kernel_rfl
theorem bounds_240 : span boundsAll 15 240 = true := by kernel_rfl
theorem bounds_480 : span boundsAll 15 480 = true := by kernel_rfl
theorem bounds_720 : span boundsAll 15 720 = true := by kernel_rfl
theorem bounds_960 : span boundsAll 15 960 = true := by kernel_rfl
theorem bounds_1200 : span boundsAll 15 1200 = true := by kernel_rfl
theorem bounds_1440 : span boundsAll 15 1440 = true := by kernel_rfl
theorem bounds_1680 : span boundsAll 15 1680 = true := by kernel_rfl
theorem bounds_1920 : span boundsAll 15 1920 = true := by kernel_rfl
theorem bounds_2160 : span boundsAll 15 2160 = true := by kernel_rfl
theorem bounds_2400 : span boundsAll 15 2400 = true := by kernel_rfl
theorem bounds_2640 : span boundsAll 15 2640 = true := by kernel_rfl
theorem bounds_2880 : span boundsAll 15 2880 = true := by kernel_rfl
theorem bounds_3120 : span boundsAll 15 3120 = true := by kernel_rfl
theorem bounds_3360 : span boundsAll 15 3360 = true := by kernel_rfl
theorem bounds_3600 : span boundsAll 15 3600 = true := by kernel_rfl
theorem bounds_3840 : span boundsAll 15 3840 = true := by kernel_rfl
end Go.Proofs.Ytejmdglmldjliaa.Ae
