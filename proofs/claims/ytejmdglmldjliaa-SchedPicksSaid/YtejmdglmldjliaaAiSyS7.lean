/-
  WHAT IS PICKED, AND MANY THREADS: for every input (the laws' calls, in the model).
-/
import Derived.Test.YtejmdglmldjliaaAiSyS6
import Derived.Test.YtejmdglmldjliaaAiSyO
namespace Go.Proofs.Ytejmdglmldjliaa.Ae
open Go.AE Go.ChangeShapes Go.RowKit
set_option linter.unusedVariables false
set_option maxRecDepth 100000

theorem schedPicks {W : World} (n : Int) {v : Value} (bs : List Nat) (k : Int) (hn : (Lit.int .u8 n).wf = true) (h256 : ∀ x ∈ bs, x < 256) (hl : bs.length ≤ maxLen) (hs : ArgS W 1 v bs.length (bys bs)) (hk : (Lit.int .i64 k).wf = true) :
    Calls Try.prog 10 #[.int .u8 n, v, .int .i64 k] W fun e W' => e = .returned (.bool true) ∧ Below W.heap.size W W' := by
  obtain ⟨m, rfl, hm⟩ := wf_u8 hn
  obtain ⟨a, A, μ, h1, h2, _, h3, h4, _⟩ := add_arg (rel_none W.heap.size W (Nat.le_refl _)) (fun f F hF => by simp [Tr.get] at hF) hs
  exact topP (ES_ok envKnown1) (picks_spec h1.lt hm h3.row h256 (wf_i64 hk).1 (wf_i64 hk).2) (fun _ _ h => h) h2 h1 (.cons (.int _ _) (.cons h4 (.cons (.int _ _) (.nil _))))
theorem schedMany {W : World} (n : Int) {v : Value} (bs : List Nat) (hn : (Lit.int .u8 n).wf = true) (h256 : ∀ x ∈ bs, x < 256) (hl : bs.length ≤ maxLen) (hs : ArgS W 1 v bs.length (bys bs)) :
    Calls Try.prog 11 #[.int .u8 n, v] W fun e W' => e = .returned (.bool true) ∧ Below W.heap.size W W' := by
  obtain ⟨m, rfl, hm⟩ := wf_u8 hn
  obtain ⟨a, A, μ, h1, h2, _, h3, h4, _⟩ := add_arg (rel_none W.heap.size W (Nat.le_refl _)) (fun f F hF => by simp [Tr.get] at hF) hs
  exact topP (ES_ok envKnown1) (many_spec h1.lt hm h3.row h256) (fun _ _ h => h) h2 h1 (.cons (.int _ _) (.cons h4 (.nil _)))
end Go.Proofs.Ytejmdglmldjliaa.Ae
