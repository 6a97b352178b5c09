/-
  WHAT IS WRITTEN IS READ, AND WHAT IS CUT OFF IS TOO SHORT: for every input (the laws' calls, in the model).
-/
import Derived.Test.YtejmdglmldjliaaAiSyW11
import Derived.Test.YtejmdglmldjliaaAiSyW12
import Derived.Test.YtejmdglmldjliaaAiSyW6
namespace Go.Proofs.Ytejmdglmldjliaa.Ae
open Go.AE Go.ChangeShapes Go.RowKit
set_option linter.unusedVariables false
set_option maxRecDepth 100000

theorem wireBack {W : World} {v : Value} (items : List It) (hok : ∀ x ∈ items, x.ok) (hl : items.length ≤ maxLen) (hs : ArgS W 6 v items.length (items.flatMap It.cells)) :
    Calls Try.prog 7 #[v] W fun e W' => e = .returned (.bool true) ∧ Below W.heap.size W W' := by
  obtain ⟨a, A, μ, h1, h2, _, h3, h4, _⟩ := add_arg (rel_none W.heap.size W (Nat.le_refl _)) (fun f F hF => by simp [Tr.get] at hF) hs
  have hm : maxLen < 9223372036854775808 := by decide
  exact topP (ES_ok envKnown) (back_spec h1.lt h3.row hok (by omega)) (fun _ _ h => h) h2 h1 (LRel.nil _ |>.cons h4)
theorem wireCuts (s : ByteArray) (z c : Int) (hs : s.size ≤ 140737488351232) (h1 : (Lit.int .i64 z).wf = true) (h2 : (Lit.int .u8 c).wf = true) (W : World) :
    Calls Try.prog 8 #[.string s, .int .i64 z, .int .u8 c] W fun e W' => e = .returned (.bool true) ∧ Below W.heap.size W W' := by
  obtain ⟨m, rfl, hm⟩ := wf_u8 h2
  refine topP (ES_ok envKnown) (cuts_spec (A := ⟨.nil, 0⟩) (s := s.data.toList.map UInt8.toNat) (fun f F hF => by simp [Tr.get] at hF) (str_bytes s) (wf_i64 h1).1 (wf_i64 h1).2 hm) (fun _ _ h => h) (fun f F hF => by simp [Tr.get] at hF) (rel_none W.heap.size W (Nat.le_refl _)) ?_
  exact .cons (.str s) (.cons (.int _ _) (.cons (.int _ _) (.nil _)))
end Go.Proofs.Ytejmdglmldjliaa.Ae
