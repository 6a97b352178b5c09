/-
  TypesChain: runs of the evaluator, part 16 of 20.
-/
import Derived.Test.YtokieeiohfcgdaaAeTypesChain0
namespace Go.Proofs.Ytokieeiohfcgdaa.Ae
open Go.AE Go.RowKit
set_option maxRecDepth 1000000
theorem typesChain_10_40 : span (typesChainRun 10) 8 40 = true := by kernel_rfl
theorem typesChain_11_8 : span (typesChainRun 11) 8 8 = true := by kernel_rfl
theorem typesChain_12_16 : span (typesChainRun 12) 8 16 = true := by kernel_rfl
theorem typesChain_13_40 : span (typesChainRun 13) 8 40 = true := by kernel_rfl
theorem typesChain_14_88 : span (typesChainRun 14) 8 88 = true := by kernel_rfl
theorem typesChain_15_56 : span (typesChainRun 15) 8 56 = true := by kernel_rfl
theorem typesChain_15_152 : span (typesChainRun 15) 8 152 = true := by kernel_rfl
end Go.Proofs.Ytokieeiohfcgdaa.Ae
