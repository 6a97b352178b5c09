/-
  THREADS BEHAVE AS THE DOCUMENT TELLS: for every row of calls (the law's call, in the model).
-/
import Derived.Test.YtejmdglmldjliaaAiSyS10
import Derived.Test.YtejmdglmldjliaaAiSyO
namespace Go.Proofs.Ytejmdglmldjliaa.Ae
open Go.AE Go.ChangeShapes Go.RowKit
set_option linter.unusedVariables false
set_option maxRecDepth 100000

section
variable {H : Type} {enc : TypeId × Value → H} {w : World} {held : Bool}
theorem three {α : Type} {l : List α} (h : l.length = 3) : ∃ a b c, l = [a, b, c] := by
  match l, h with
  | [a, b, c], _ => exact ⟨a, b, c, rfl⟩
theorem open_step (n : Nat) (cs : List Value) (y : DataW H × List MemPlace) (h : DataW.trod enc Try.prog w 0 (fun _ => true) held n 81 cs = some y) : ∃ x : Stp, x.ok ∧ Same x.cells cs := by
  obtain ⟨xs, m, _, _, hl, hlen, hf⟩ := DataW.trod_struct Try.underlying81 h
  obtain ⟨c0, c1, c2, rfl⟩ := three (hl.trans (by kernel_rfl))
  obtain ⟨x0, x1, x2, rfl⟩ := three (hlen.trans rfl)
  have e3 : Try.prog.cellsOf 3 = 1 := by kernel_rfl
  have f0 := fld hf 0 3 0 rfl rfl rfl e3 rfl rfl
  have f1 := fld hf 1 3 1 rfl rfl rfl e3 rfl rfl
  have f2 := fld hf 2 3 2 rfl rfl rfl e3 rfl rfl
  obtain ⟨n0, g0, _, w0⟩ := DataW.trod_int Try.underlying3 f0
  obtain ⟨n1, g1, _, w1⟩ := DataW.trod_int Try.underlying3 f1
  obtain ⟨n2, g2, _, w2⟩ := DataW.trod_int Try.underlying3 f2
  simp only [List.cons.injEq, and_true] at g0 g1 g2
  subst g0 g1 g2
  exact ⟨⟨n0, n1, n2⟩, ⟨(wf_i64 w1).1, (wf_i64 w1).2, (wf_i64 w2).1, (wf_i64 w2).2⟩, .cons rfl (fun _ => .int _ _) (.cons rfl (fun _ => .int _ _) (.cons rfl (fun _ => .int _ _) .nil))⟩
theorem open_steps {v : Value} {d : DataW H} {ps : List MemPlace} (hv : ∃ a n c, v = .slice a n c) (h : DataW.Trod enc Try.prog w 0 (fun _ => true) held 75 v d ps) :
    ∃ xs : List Stp, (∀ x ∈ xs, x.ok) ∧ xs.length ≤ maxLen ∧ ArgS w 3 v xs.length (xs.flatMap Stp.cells) :=
  open_arg Try.underlying75 (by kernel_rfl) (by decide) Stp.len (fun n cs y h => open_step n cs y h) hv h
end
theorem schedPlays {W : World} {v : Value} (items : List Stp) (hok : ∀ x ∈ items, x.ok) (hl : items.length ≤ maxLen) (hs : ArgS W 3 v items.length (items.flatMap Stp.cells)) :
    Calls Try.prog 9 #[v] W fun e W' => e = .returned (.bool true) ∧ Below W.heap.size W W' := by
  obtain ⟨a, A, μ, h1, h2, _, h3, h4, _⟩ := add_arg (rel_none W.heap.size W (Nat.le_refl _)) (fun f F hF => by simp [Tr.get] at hF) hs
  exact topP (ES_ok envKnown1) (plays_spec h1.lt h3.row hok) (fun _ _ h => h) h2 h1 (LRel.nil _ |>.cons h4)
end Go.Proofs.Ytejmdglmldjliaa.Ae
