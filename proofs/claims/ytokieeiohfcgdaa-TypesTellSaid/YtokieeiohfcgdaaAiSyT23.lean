/-
  TELL: for every input (the law's call, in the model).
-/
import Derived.Test.YtokieeiohfcgdaaAiSyT22
import Derived.Test.YtokieeiohfcgdaaAiSyT11
namespace Go.Proofs.Ytokieeiohfcgdaa.Ae
open Go.AE Go.ChangeShapes Go.RowKit
set_option linter.unusedVariables false
set_option maxRecDepth 100000
theorem typesTell {W : World} {v0 v1 : Value} (ns ss : List Str) (a b : ByteArray) (a4 : Int) (b4 : ByteArray) (a5 : Int) (b5 : ByteArray) (_ : ∀ x ∈ ns, small x) (hl0 : ns.length ≤ maxLen) (hs0 : ArgS W 1 v0 ns.length (sts ns))
    (hsm : ∀ x ∈ ss, small x) (hl1 : ss.length ≤ maxLen) (hs1 : ArgS W 1 v1 ss.length (sts ss)) (_ : a.size ≤ 140737488351232) (_ : b.size ≤ 140737488351232) (_ : (Lit.int .i64 a4).wf = true) (_ : b4.size ≤ maxLen) (_ : (Lit.int .i64 a5).wf = true) (_ : b5.size ≤ maxLen) :
    Calls Try.prog 8 #[v0, v1, .string a, .string b, .agg #[.int .i64 a4, .string b4], .agg #[.int .i64 a5, .string b5]] W fun e W' => e = .returned (.bool true) ∧ Below W.heap.size W W' := by
  obtain ⟨a0, A0, μ0, g1, g2, _, g3, g4, _⟩ := add_arg (rel_none W.heap.size W (Nat.le_refl _)) (fun f F hF => by simp [Tr.get] at hF) hs0
  obtain ⟨a1, A, μ, h1, h2, ho, h3, h4, hk⟩ := add_arg g1 g2 hs1
  have hm : maxLen < 9223372036854775808 := by decide
  exact topP (ES_ok envKnown) (tell_spec (a := bs a) (b := bs b) (s := (a4, bs b4)) (t := (a5, bs b5)) h1.lt (g3.keep ho fun _ _ h => h).row h3.row (by omega) (by omega) hsm (str_bytes b4) (str_bytes b5)) (fun _ _ h => h) h2 h1
    (.cons (g4.mono hk) (.cons h4 (.cons (.str _) (.cons (.str _) (.cons tv_rel (.cons tv_rel (.nil _)))))))
end Go.Proofs.Ytokieeiohfcgdaa.Ae
