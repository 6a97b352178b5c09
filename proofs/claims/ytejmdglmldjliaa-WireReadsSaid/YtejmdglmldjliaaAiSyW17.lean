/-
  WHATEVER BYTES, READ BY WHATEVER CALLS: for every input (the law's call, in the model).
-/
import Derived.Test.YtejmdglmldjliaaAiSyW16
import Derived.Test.YtejmdglmldjliaaAiSyW6
namespace Go.Proofs.Ytejmdglmldjliaa.Ae
open Go.AE Go.ChangeShapes Go.RowKit
set_option linter.unusedVariables false
set_option maxRecDepth 100000

theorem bys_flat : ∀ l : List Nat, (l.flatMap fun b : Nat => [AV.int .u8 (b : Int)]) = bys l
  | [] => rfl
  | b :: l => by rw [List.flatMap_cons, bys_flat l]; rfl
section
variable {H : Type} {enc : TypeId × Value → H} {w : World} {held : Bool}
theorem open_bytes {v : Value} {d : DataW H} {ps : List MemPlace} (hv : ∃ a n c, v = .slice a n c) (h : DataW.Trod enc Try.prog w 0 (fun _ => true) held 27 v d ps) :
    ∃ xs : List Nat, (∀ x ∈ xs, x < 256) ∧ xs.length ≤ maxLen ∧ ArgS w 1 v xs.length (bys xs) := by
  obtain ⟨xs, h1, h2, h3⟩ := open_arg (f := fun b : Nat => [AV.int .u8 (b : Int)]) (ok := fun b => b < 256) Try.underlying27 (by kernel_rfl) (by decide) (fun _ => rfl) (fun n cs y h => by
    obtain ⟨m, rfl, _, hm⟩ := DataW.trod_int Try.underlying5 h
    obtain ⟨b, rfl, hb⟩ := wf_u8 hm
    exact ⟨b, hb, .cons rfl (fun _ => .int _ _) .nil⟩) hv h
  rw [bys_flat] at h3
  exact ⟨xs, h1, h2, h3⟩
end
theorem wireReads {W : World} {v0 v1 : Value} (bs : List Nat) (items : List It) (h256 : ∀ x ∈ bs, x < 256) (hl0 : bs.length ≤ maxLen) (hs0 : ArgS W 1 v0 bs.length (bys bs)) (hok : ∀ x ∈ items, x.ok) (hl : items.length ≤ maxLen) (hs : ArgS W 6 v1 items.length (items.flatMap It.cells)) :
    Calls Try.prog 12 #[v0, v1] W fun e W' => e = .returned (.bool true) ∧ Below W.heap.size W W' := by
  obtain ⟨a0, A0, μ0, g1, g2, _, g3, g4, _⟩ := add_arg (rel_none W.heap.size W (Nat.le_refl _)) (fun f F hF => by simp [Tr.get] at hF) hs0
  obtain ⟨a, A, μ, h1, h2, ho, h3, h4, hk⟩ := add_arg g1 g2 hs
  exact topP (ES_ok envKnown) (reads_spec h1.lt (g3.keep ho fun _ _ h => h) h256 h3.row hok) (fun _ _ h => h) h2 h1 (.cons (g4.mono hk) (.cons h4 (.nil _)))
end Go.Proofs.Ytejmdglmldjliaa.Ae
