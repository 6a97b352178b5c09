/-
  TypesChain: runs of the evaluator, part 2 of 20.
-/
import Derived.Test.YtokieeiohfcgdaaAeTypesChain0
namespace Go.Proofs.Ytokieeiohfcgdaa.Ae
open Go.AE Go.RowKit
set_option maxRecDepth 1000000
theorem typesChain_8_0 : span (typesChainRun 8) 16 0 = true := by kernel_rfl
theorem typesChain_9_72 : span (typesChainRun 9) 8 72 = true := by kernel_rfl
theorem typesChain_10_24 : span (typesChainRun 10) 8 24 = true := by kernel_rfl
theorem typesChain_12_128 : span (typesChainRun 12) 8 128 = true := by kernel_rfl
theorem typesChain_13_136 : span (typesChainRun 13) 8 136 = true := by kernel_rfl
theorem typesChain_14_184 : span (typesChainRun 14) 8 184 = true := by kernel_rfl
theorem typesChain_15_216 : span (typesChainRun 15) 8 216 = true := by kernel_rfl
end Go.Proofs.Ytokieeiohfcgdaa.Ae
