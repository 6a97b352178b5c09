/-
  INPUTS OPENED: instructions, rows of bytes.
-/
import Derived.Test.YtokieeiohfcgdaaAiSyC2
import Derived.Test.YtokieeiohfcgdaaAiSy6
namespace Go.Proofs.Ytokieeiohfcgdaa.Ae
open Go.AE Go.ChangeShapes Go.RowKit
set_option linter.unusedVariables false
set_option maxRecDepth 100000
/-- No names are in use. -/
instance rho0 : Rho := ⟨fun _ => 0, fun _ => false, fun _ => [], fun _ => Nat.zero_le _⟩

theorem wf_i64 {n : Int} (h : (Lit.int .i64 n).wf = true) : -9223372036854775808 ≤ n ∧ n < 9223372036854775808 := by
  simp only [Lit.wf, Bool.and_eq_true, decide_eq_true_eq] at h
  have h1 : IntKind.i64.min = -9223372036854775808 := by decide
  have h2 : IntKind.i64.max = 9223372036854775807 := by decide
  rw [h1, h2] at h
  omega
theorem wf_u8 {n : Int} (h : (Lit.int .u8 n).wf = true) : ∃ m : Nat, n = (m : Int) ∧ m < 256 := by
  simp only [Lit.wf, Bool.and_eq_true, decide_eq_true_eq] at h
  have h1 : IntKind.u8.min = 0 := by decide
  have h2 : IntKind.u8.max = 255 := by decide
  rw [h1, h2] at h
  exact ⟨n.toNat, by omega, by omega⟩
theorem bys_flat : ∀ l : List Nat, (l.flatMap fun b : Nat => [AV.int .u8 (b : Int)]) = bys l
  | [] => rfl
  | b :: l => by rw [List.flatMap_cons, bys_flat l]; rfl
section
variable {H : Type} {enc : TypeId × Value → H} {w : World} {held : Bool}
theorem open_bytes {v : Value} {d : DataW H} {ps : List MemPlace} (hv : ∃ a n c, v = .slice a n c) (h : DataW.Trod enc Try.prog w 0 (fun _ => true) held 56 v d ps) :
    ∃ xs : List Nat, (∀ x ∈ xs, x < 256) ∧ xs.length ≤ maxLen ∧ ArgS w 1 v xs.length (bys xs) := by
  obtain ⟨xs, h1, h2, h3⟩ := open_arg (f := fun b : Nat => [AV.int .u8 (b : Int)]) (ok := fun b => b < 256) Try.underlying56 (by kernel_rfl) (by decide) (fun _ => rfl) (fun n cs y h => by
    obtain ⟨m, rfl, _, hm⟩ := DataW.trod_int Try.underlying5 h
    obtain ⟨b, rfl, hb⟩ := wf_u8 hm
    exact ⟨b, hb, .cons rfl (fun _ => .int _ _) .nil⟩) hv h
  rw [bys_flat] at h3
  exact ⟨xs, h1, h2, h3⟩
theorem two_of {α : Type} {l : List α} (h : l.length = 2) : ∃ a b, l = [a, b] := by
  match l, h with
  | [a, b], _ => exact ⟨a, b, rfl⟩
theorem open_in (n : Nat) (cs : List Value) (y : DataW H × List MemPlace) (h : DataW.trod enc Try.prog w 0 (fun _ => true) held n 69 cs = some y) : ∃ x : In, True ∧ Same (icl x) cs := by
  obtain ⟨xs, m, _, _, hl, hlen, hf⟩ := DataW.trod_struct Try.underlying69 h
  obtain ⟨c0, c1, rfl⟩ := two_of (hl.trans (by kernel_rfl))
  obtain ⟨x0, x1, rfl⟩ := two_of (hlen.trans rfl)
  have e3 : Try.prog.cellsOf 3 = 1 := by kernel_rfl
  have f0 := fld hf 0 3 0 rfl rfl rfl e3 rfl rfl
  have f1 := fld hf 1 3 1 rfl rfl rfl e3 rfl rfl
  obtain ⟨n0, g0, _, w0⟩ := DataW.trod_int Try.underlying3 f0
  obtain ⟨n1, g1, _, w1⟩ := DataW.trod_int Try.underlying3 f1
  simp only [List.cons.injEq, and_true] at g0 g1
  subst g0 g1
  exact ⟨(n0, n1), trivial, .cons rfl (fun _ => .int _ _) (.cons rfl (fun _ => .int _ _) .nil)⟩
theorem open_ins {v : Value} {d : DataW H} {ps : List MemPlace} (hv : ∃ a n c, v = .slice a n c) (h : DataW.Trod enc Try.prog w 0 (fun _ => true) held 55 v d ps) :
    ∃ xs : List In, (∀ x ∈ xs, True) ∧ xs.length ≤ maxLen ∧ ArgS w 2 v xs.length (ics xs) :=
  open_arg Try.underlying55 (by kernel_rfl) (by decide) icl_len (fun n cs y h => open_in n cs y h) hv h
end
end Go.Proofs.Ytokieeiohfcgdaa.Ae
