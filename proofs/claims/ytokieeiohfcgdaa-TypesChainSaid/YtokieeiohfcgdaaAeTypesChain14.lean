/-
  TypesChain: runs of the evaluator, part 15 of 20.
-/
import Derived.Test.YtokieeiohfcgdaaAeTypesChain0
namespace Go.Proofs.Ytokieeiohfcgdaa.Ae
open Go.AE Go.RowKit
set_option maxRecDepth 1000000
theorem typesChain_10_32 : span (typesChainRun 10) 8 32 = true := by kernel_rfl
theorem typesChain_11_0 : span (typesChainRun 11) 8 0 = true := by kernel_rfl
theorem typesChain_12_8 : span (typesChainRun 12) 8 8 = true := by kernel_rfl
theorem typesChain_13_32 : span (typesChainRun 13) 8 32 = true := by kernel_rfl
theorem typesChain_14_80 : span (typesChainRun 14) 8 80 = true := by kernel_rfl
theorem typesChain_15_48 : span (typesChainRun 15) 8 48 = true := by kernel_rfl
theorem typesChain_15_144 : span (typesChainRun 15) 8 144 = true := by kernel_rfl
end Go.Proofs.Ytokieeiohfcgdaa.Ae
