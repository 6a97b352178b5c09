/-
  TypesChain: runs of the evaluator, part 19 of 20.
-/
import Derived.Test.YtokieeiohfcgdaaAeTypesChain0
namespace Go.Proofs.Ytokieeiohfcgdaa.Ae
open Go.AE Go.RowKit
set_option maxRecDepth 1000000
theorem typesChain_10_64 : span (typesChainRun 10) 8 64 = true := by kernel_rfl
theorem typesChain_11_32 : span (typesChainRun 11) 8 32 = true := by kernel_rfl
theorem typesChain_12_40 : span (typesChainRun 12) 8 40 = true := by kernel_rfl
theorem typesChain_13_64 : span (typesChainRun 13) 8 64 = true := by kernel_rfl
theorem typesChain_14_112 : span (typesChainRun 14) 8 112 = true := by kernel_rfl
theorem typesChain_15_80 : span (typesChainRun 15) 8 80 = true := by kernel_rfl
theorem typesChain_15_176 : span (typesChainRun 15) 8 176 = true := by kernel_rfl
end Go.Proofs.Ytokieeiohfcgdaa.Ae
