/-
  TypesChain: runs of the evaluator, part 3 of 20.
-/
import Derived.Test.YtokieeiohfcgdaaAeTypesChain0
namespace Go.Proofs.Ytokieeiohfcgdaa.Ae
open Go.AE Go.RowKit
set_option maxRecDepth 1000000
theorem typesChain_8_16 : span (typesChainRun 8) 16 16 = true := by kernel_rfl
theorem typesChain_10_96 : span (typesChainRun 10) 4 96 = true := by kernel_rfl
theorem typesChain_11_112 : span (typesChainRun 11) 8 112 = true := by kernel_rfl
theorem typesChain_12_96 : span (typesChainRun 12) 8 96 = true := by kernel_rfl
theorem typesChain_13_104 : span (typesChainRun 13) 8 104 = true := by kernel_rfl
theorem typesChain_14_0 : span (typesChainRun 14) 8 0 = true := by kernel_rfl
theorem typesChain_14_152 : span (typesChainRun 14) 8 152 = true := by kernel_rfl
theorem typesChain_14_192 : span (typesChainRun 14) 4 192 = true := by kernel_rfl
end Go.Proofs.Ytokieeiohfcgdaa.Ae
