/-
  WHAT IS WRITTEN: for every row of things (the law's call, in the model).
-/
import Derived.Test.YtejmdglmldjliaaAiSyW5
import Derived.Test.YtejmdglmldjliaaAiSy6
namespace Go.Proofs.Ytejmdglmldjliaa.Ae
open Go.AE Go.ChangeShapes Go.RowKit
set_option linter.unusedVariables false
set_option maxRecDepth 100000
/-- No names are in use. -/
instance rho0 : Rho := ⟨fun _ => 0, fun _ => false, fun _ => [], fun _ => Nat.zero_le _⟩

theorem wf_i64 {n : Int} (h : (Lit.int .i64 n).wf = true) : -9223372036854775808 ≤ n ∧ n < 9223372036854775808 := by
  simp only [Lit.wf, Bool.and_eq_true, decide_eq_true_eq] at h
  have h1 : IntKind.i64.min = -9223372036854775808 := by decide
  have h2 : IntKind.i64.max = 9223372036854775807 := by decide
  rw [h1, h2] at h
  omega
theorem wf_u64 {n : Int} (h : (Lit.int .u64 n).wf = true) : ∃ m : Nat, n = (m : Int) ∧ m < 18446744073709551616 := by
  simp only [Lit.wf, Bool.and_eq_true, decide_eq_true_eq] at h
  have h1 : IntKind.u64.min = 0 := by decide
  have h2 : IntKind.u64.max = 18446744073709551615 := by decide
  rw [h1, h2] at h
  exact ⟨n.toNat, by omega, by omega⟩
theorem wf_u8 {n : Int} (h : (Lit.int .u8 n).wf = true) : ∃ m : Nat, n = (m : Int) ∧ m < 256 := by
  simp only [Lit.wf, Bool.and_eq_true, decide_eq_true_eq] at h
  have h1 : IntKind.u8.min = 0 := by decide
  have h2 : IntKind.u8.max = 255 := by decide
  rw [h1, h2] at h
  exact ⟨n.toNat, by omega, by omega⟩
theorem str_bytes (s : ByteArray) : ∀ b ∈ s.data.toList.map UInt8.toNat, b < 256 := fun b hb => by
  obtain ⟨c, _, rfl⟩ := List.mem_map.1 hb
  exact c.toNat_lt

section
variable {H : Type} {enc : TypeId × Value → H} {w : World} {held : Bool}
theorem six {α : Type} {l : List α} (h : l.length = 6) : ∃ a b c d e f, l = [a, b, c, d, e, f] := by
  match l, h with
  | [a, b, c, d, e, f], _ => exact ⟨a, b, c, d, e, f, rfl⟩
theorem open_item (n : Nat) (cs : List Value) (y : DataW H × List MemPlace) (h : DataW.trod enc Try.prog w 0 (fun _ => true) held n 39 cs = some y) : ∃ x : It, x.ok ∧ Same x.cells cs := by
  obtain ⟨xs, m, _, _, hl, hlen, hf⟩ := DataW.trod_struct Try.underlying39 h
  obtain ⟨c0, c1, c2, c3, c4, c5, rfl⟩ := six (hl.trans (by kernel_rfl))
  obtain ⟨x0, x1, x2, x3, x4, x5, rfl⟩ := six (hlen.trans rfl)
  have e3 : Try.prog.cellsOf 3 = 1 := by kernel_rfl
  have e22 : Try.prog.cellsOf 22 = 1 := by kernel_rfl
  have e9 : Try.prog.cellsOf 9 = 1 := by kernel_rfl
  have f0 := fld hf 0 3 0 rfl rfl rfl e3 rfl rfl
  have f1 := fld hf 1 22 1 rfl rfl rfl e22 rfl rfl
  have f2 := fld hf 2 9 2 rfl rfl rfl e9 rfl rfl
  have f3 := fld hf 3 22 3 rfl rfl rfl e22 rfl rfl
  have f4 := fld hf 4 22 4 rfl rfl rfl e22 rfl rfl
  have f5 := fld hf 5 3 5 rfl rfl rfl e3 rfl rfl
  obtain ⟨n0, g0, _, w0⟩ := DataW.trod_int Try.underlying3 f0
  obtain ⟨n1, g1, _, w1⟩ := DataW.trod_int Try.underlying22 f1
  obtain ⟨s2, g2, _, w2⟩ := DataW.trod_string Try.underlying9 f2
  obtain ⟨n3, g3, _, w3⟩ := DataW.trod_int Try.underlying22 f3
  obtain ⟨n4, g4, _, w4⟩ := DataW.trod_int Try.underlying22 f4
  obtain ⟨n5, g5, _, w5⟩ := DataW.trod_int Try.underlying3 f5
  simp only [List.cons.injEq, and_true] at g0 g1 g2 g3 g4 g5
  subst g0 g1 g2 g3 g4 g5
  obtain ⟨m1, rfl, l1⟩ := wf_u64 w1
  obtain ⟨m3, rfl, l3⟩ := wf_u64 w3
  obtain ⟨m4, rfl, l4⟩ := wf_u64 w4
  refine ⟨⟨n0, m1, s2.data.toList.map UInt8.toNat, m3, m4, n5⟩, ⟨(wf_i64 w0).1, (wf_i64 w0).2, l1, (wf_i64 w5).1, (wf_i64 w5).2, str_bytes s2⟩, ?_⟩
  exact .cons rfl (fun _ => .int _ _) (.cons rfl (fun _ => .int _ _) (.cons rfl (fun _ => .str _) (.cons rfl (fun _ => .int _ _) (.cons rfl (fun _ => .int _ _) (.cons rfl (fun _ => .int _ _) .nil)))))
theorem open_items {v : Value} {d : DataW H} {ps : List MemPlace} (hv : ∃ a n c, v = .slice a n c) (h : DataW.Trod enc Try.prog w 0 (fun _ => true) held 37 v d ps) :
    ∃ xs : List It, (∀ x ∈ xs, x.ok) ∧ xs.length ≤ maxLen ∧ ArgS w 6 v xs.length (xs.flatMap It.cells) :=
  open_arg Try.underlying37 (by kernel_rfl) (by decide) It.len (fun n cs y h => open_item n cs y h) hv h
end

theorem wireWrites {W : World} {v : Value} (items : List It) (hok : ∀ x ∈ items, x.ok) (hl : items.length ≤ maxLen) (hs : ArgS W 6 v items.length (items.flatMap It.cells)) :
    Calls Try.prog 4 #[v] W fun e W' => e = .returned (.bool true) ∧ Below W.heap.size W W' := by
  obtain ⟨a, A, μ, h1, h2, _, h3, h4, _⟩ := add_arg (rel_none W.heap.size W (Nat.le_refl _)) (fun f F hF => by simp [Tr.get] at hF) hs
  have hm : maxLen < 9223372036854775808 := by decide
  exact topP (ES_ok envKnown) (writes_spec h1.lt h3.row hok (by omega)) (fun _ _ h => h) h2 h1 (LRel.nil _ |>.cons h4)
end Go.Proofs.Ytejmdglmldjliaa.Ae
