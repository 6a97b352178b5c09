/-
  TypesChain: runs of the evaluator, part 14 of 20.
-/
import Derived.Test.YtokieeiohfcgdaaAeTypesChain0
namespace Go.Proofs.Ytokieeiohfcgdaa.Ae
open Go.AE Go.RowKit
set_option maxRecDepth 1000000
theorem typesChain_9_64 : span (typesChainRun 9) 8 64 = true := by kernel_rfl
theorem typesChain_12_0 : span (typesChainRun 12) 8 0 = true := by kernel_rfl
theorem typesChain_12_136 : span (typesChainRun 12) 8 136 = true := by kernel_rfl
theorem typesChain_13_24 : span (typesChainRun 13) 8 24 = true := by kernel_rfl
theorem typesChain_14_72 : span (typesChainRun 14) 8 72 = true := by kernel_rfl
theorem typesChain_15_40 : span (typesChainRun 15) 8 40 = true := by kernel_rfl
theorem typesChain_15_136 : span (typesChainRun 15) 8 136 = true := by kernel_rfl
end Go.Proofs.Ytokieeiohfcgdaa.Ae
