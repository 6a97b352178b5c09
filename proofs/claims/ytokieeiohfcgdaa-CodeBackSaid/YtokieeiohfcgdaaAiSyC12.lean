/-
  INSTRUCTIONS THERE AND BACK: for every input (the law's call, in the model).
-/
import Derived.Test.YtokieeiohfcgdaaAiSyC11
import Derived.Test.YtokieeiohfcgdaaAiSyCO
namespace Go.Proofs.Ytokieeiohfcgdaa.Ae
open Go.AE Go.ChangeShapes Go.RowKit
set_option linter.unusedVariables false
set_option maxRecDepth 100000
theorem codeBack {W : World} {v0 : Value} (l : List In) (cut : Int) (_ : ∀ x ∈ l, True) (hl : l.length ≤ maxLen) (hs : ArgS W 2 v0 l.length (ics l)) (_ : (Lit.int .i64 cut).wf = true) :
    Calls Try.prog 10 #[v0, .int .i64 cut] W fun e W' => e = .returned (.bool true) ∧ Below W.heap.size W W' := by
  obtain ⟨a, A, μ, h1, h2, ho, h3, h4, hk⟩ := add_arg (rel_none W.heap.size W (Nat.le_refl _)) (fun f F hF => by simp [Tr.get] at hF) hs
  have hm : maxLen < 9223372036854775808 := by decide
  exact topP (ES_ok envKnown1) (codeBack_spec h1.lt h3.row (by omega)) (fun _ _ h => h) h2 h1 (.cons h4 (.cons (.int _ _) (.nil _)))
end Go.Proofs.Ytokieeiohfcgdaa.Ae
