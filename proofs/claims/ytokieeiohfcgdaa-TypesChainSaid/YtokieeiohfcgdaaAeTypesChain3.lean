/-
  TypesChain: runs of the evaluator, part 4 of 20.
-/
import Derived.Test.YtokieeiohfcgdaaAeTypesChain0
namespace Go.Proofs.Ytokieeiohfcgdaa.Ae
open Go.AE Go.RowKit
set_option maxRecDepth 1000000
theorem typesChain_8_32 : span (typesChainRun 8) 16 32 = true := by kernel_rfl
theorem typesChain_10_0 : span (typesChainRun 10) 8 0 = true := by kernel_rfl
theorem typesChain_10_80 : span (typesChainRun 10) 8 80 = true := by kernel_rfl
theorem typesChain_12_104 : span (typesChainRun 12) 8 104 = true := by kernel_rfl
theorem typesChain_13_112 : span (typesChainRun 13) 8 112 = true := by kernel_rfl
theorem typesChain_14_8 : span (typesChainRun 14) 8 8 = true := by kernel_rfl
theorem typesChain_14_160 : span (typesChainRun 14) 8 160 = true := by kernel_rfl
end Go.Proofs.Ytokieeiohfcgdaa.Ae
