/-
  TypesChain: runs of the evaluator, part 13 of 20.
-/
import Derived.Test.YtokieeiohfcgdaaAeTypesChain0
namespace Go.Proofs.Ytokieeiohfcgdaa.Ae
open Go.AE Go.RowKit
set_option maxRecDepth 1000000
theorem typesChain_1_0 : span (typesChainRun 1) 1 0 = true := by kernel_rfl
theorem typesChain_9_56 : span (typesChainRun 9) 8 56 = true := by kernel_rfl
theorem typesChain_11_104 : span (typesChainRun 11) 8 104 = true := by kernel_rfl
theorem typesChain_13_16 : span (typesChainRun 13) 8 16 = true := by kernel_rfl
theorem typesChain_13_160 : span (typesChainRun 13) 8 160 = true := by kernel_rfl
theorem typesChain_14_64 : span (typesChainRun 14) 8 64 = true := by kernel_rfl
theorem typesChain_15_32 : span (typesChainRun 15) 8 32 = true := by kernel_rfl
theorem typesChain_15_128 : span (typesChainRun 15) 8 128 = true := by kernel_rfl
end Go.Proofs.Ytokieeiohfcgdaa.Ae
