/-
  TypesChain: runs of the evaluator, part 1 of 20.
-/
import Derived.Test.YtokieeiohfcgdaaAeKnown
namespace Go.Proofs.Ytokieeiohfcgdaa.Ae
open Go.AE Go.RowKit
set_option maxRecDepth 1000000
/-- One run, by how many classes, and its number. -/
noncomputable def typesChainRun (k i : Nat) : Bool := yes (R.run (envL 14) 1000000 3 [.rest .u8 15 (Nat.sub k 1), .rest .u8 k (Nat.div i k), .rest .u8 k (Nat.mod i k)] ⟨.nil, 0⟩)
theorem typesChain_5_0 : span (typesChainRun 5) 25 0 = true := by kernel_rfl
theorem typesChain_9_32 : span (typesChainRun 9) 8 32 = true := by kernel_rfl
theorem typesChain_10_16 : span (typesChainRun 10) 8 16 = true := by kernel_rfl
theorem typesChain_11_120 : span (typesChainRun 11) 1 120 = true := by kernel_rfl
theorem typesChain_12_120 : span (typesChainRun 12) 8 120 = true := by kernel_rfl
theorem typesChain_13_128 : span (typesChainRun 13) 8 128 = true := by kernel_rfl
theorem typesChain_14_24 : span (typesChainRun 14) 8 24 = true := by kernel_rfl
theorem typesChain_14_176 : span (typesChainRun 14) 8 176 = true := by kernel_rfl
end Go.Proofs.Ytokieeiohfcgdaa.Ae
