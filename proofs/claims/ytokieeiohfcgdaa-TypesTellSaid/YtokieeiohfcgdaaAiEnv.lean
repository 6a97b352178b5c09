/-
  THE EVALUATOR'S TABLES OF THIS SEAT'S PROGRAM ARE AS THEY MUST BE.
-/
import Derived.Test.YtokieeiohfcgdaaAiTop
import Derived.Test.YtokieeiohfcgdaaProg
namespace Go.Proofs.Ytokieeiohfcgdaa.Ae
open Go.AE
set_option maxRecDepth 1000000
theorem ext : extOk Try.prog.funcs.toList = true := by kernel_rfl
theorem mixed : Try.prog.follows .mixedOrders = true := by kernel_rfl
theorem all : allOk (fnEs Try.prog.funcs.toList) = true := by kernel_rfl
theorem env [Rho] : EnvOk (envOf Try.prog) := envOf_ok all ext mixed
end Go.Proofs.Ytokieeiohfcgdaa.Ae
