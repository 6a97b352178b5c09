/-
  TypesChain: runs of the evaluator, part 11 of 20.
-/
import Derived.Test.YtokieeiohfcgdaaAeTypesChain0
namespace Go.Proofs.Ytokieeiohfcgdaa.Ae
open Go.AE Go.RowKit
set_option maxRecDepth 1000000
theorem typesChain_9_40 : span (typesChainRun 9) 8 40 = true := by kernel_rfl
theorem typesChain_9_80 : span (typesChainRun 9) 1 80 = true := by kernel_rfl
theorem typesChain_11_88 : span (typesChainRun 11) 8 88 = true := by kernel_rfl
theorem typesChain_13_0 : span (typesChainRun 13) 8 0 = true := by kernel_rfl
theorem typesChain_13_144 : span (typesChainRun 13) 8 144 = true := by kernel_rfl
theorem typesChain_14_48 : span (typesChainRun 14) 8 48 = true := by kernel_rfl
theorem typesChain_15_16 : span (typesChainRun 15) 8 16 = true := by kernel_rfl
theorem typesChain_15_112 : span (typesChainRun 15) 8 112 = true := by kernel_rfl
end Go.Proofs.Ytokieeiohfcgdaa.Ae
