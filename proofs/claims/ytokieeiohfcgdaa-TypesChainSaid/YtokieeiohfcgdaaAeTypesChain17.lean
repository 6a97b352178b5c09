/-
  TypesChain: runs of the evaluator, part 18 of 20.
-/
import Derived.Test.YtokieeiohfcgdaaAeTypesChain0
namespace Go.Proofs.Ytokieeiohfcgdaa.Ae
open Go.AE Go.RowKit
set_option maxRecDepth 1000000
theorem typesChain_10_56 : span (typesChainRun 10) 8 56 = true := by kernel_rfl
theorem typesChain_11_24 : span (typesChainRun 11) 8 24 = true := by kernel_rfl
theorem typesChain_12_32 : span (typesChainRun 12) 8 32 = true := by kernel_rfl
theorem typesChain_13_56 : span (typesChainRun 13) 8 56 = true := by kernel_rfl
theorem typesChain_14_104 : span (typesChainRun 14) 8 104 = true := by kernel_rfl
theorem typesChain_15_72 : span (typesChainRun 15) 8 72 = true := by kernel_rfl
theorem typesChain_15_168 : span (typesChainRun 15) 8 168 = true := by kernel_rfl
end Go.Proofs.Ytokieeiohfcgdaa.Ae
