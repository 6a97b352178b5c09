/-
  TypesChain: runs of the evaluator, part 7 of 20.
-/
import Derived.Test.YtokieeiohfcgdaaAeTypesChain0
namespace Go.Proofs.Ytokieeiohfcgdaa.Ae
open Go.AE Go.RowKit
set_option maxRecDepth 1000000
theorem typesChain_3_0 : span (typesChainRun 3) 9 0 = true := by kernel_rfl
theorem typesChain_7_16 : span (typesChainRun 7) 16 16 = true := by kernel_rfl
theorem typesChain_9_0 : span (typesChainRun 9) 8 0 = true := by kernel_rfl
theorem typesChain_11_56 : span (typesChainRun 11) 8 56 = true := by kernel_rfl
theorem typesChain_12_64 : span (typesChainRun 12) 8 64 = true := by kernel_rfl
theorem typesChain_13_88 : span (typesChainRun 13) 8 88 = true := by kernel_rfl
theorem typesChain_14_136 : span (typesChainRun 14) 8 136 = true := by kernel_rfl
theorem typesChain_15_200 : span (typesChainRun 15) 8 200 = true := by kernel_rfl
end Go.Proofs.Ytokieeiohfcgdaa.Ae
