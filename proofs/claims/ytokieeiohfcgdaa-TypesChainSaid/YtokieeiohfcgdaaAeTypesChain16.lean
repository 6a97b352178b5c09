/-
  TypesChain: runs of the evaluator, part 17 of 20.
-/
import Derived.Test.YtokieeiohfcgdaaAeTypesChain0
namespace Go.Proofs.Ytokieeiohfcgdaa.Ae
open Go.AE Go.RowKit
set_option maxRecDepth 1000000
theorem typesChain_10_48 : span (typesChainRun 10) 8 48 = true := by kernel_rfl
theorem typesChain_11_16 : span (typesChainRun 11) 8 16 = true := by kernel_rfl
theorem typesChain_12_24 : span (typesChainRun 12) 8 24 = true := by kernel_rfl
theorem typesChain_13_48 : span (typesChainRun 13) 8 48 = true := by kernel_rfl
theorem typesChain_14_96 : span (typesChainRun 14) 8 96 = true := by kernel_rfl
theorem typesChain_15_64 : span (typesChainRun 15) 8 64 = true := by kernel_rfl
theorem typesChain_15_160 : span (typesChainRun 15) 8 160 = true := by kernel_rfl
end Go.Proofs.Ytokieeiohfcgdaa.Ae
