/-
  INPUTS OPENED: whole numbers, texts, rows of bytes.
-/
import Derived.Test.YtejmdglmldjliaaAiSyTab
import Derived.Test.YtejmdglmldjliaaAiSy6
namespace Go.Proofs.Ytejmdglmldjliaa.Ae
open Go.AE Go.ChangeShapes Go.RowKit
set_option linter.unusedVariables false
set_option maxRecDepth 100000

/-- No names are in use. -/
instance rho0 : Rho := ⟨fun _ => 0, fun _ => false, fun _ => [], fun _ => Nat.zero_le _⟩

theorem wf_i64 {n : Int} (h : (Lit.int .i64 n).wf = true) : -9223372036854775808 ≤ n ∧ n < 9223372036854775808 := by
  simp only [Lit.wf, Bool.and_eq_true, decide_eq_true_eq] at h
  have h1 : IntKind.i64.min = -9223372036854775808 := by decide
  have h2 : IntKind.i64.max = 9223372036854775807 := by decide
  rw [h1, h2] at h
  omega
theorem wf_u64 {n : Int} (h : (Lit.int .u64 n).wf = true) : ∃ m : Nat, n = (m : Int) ∧ m < 18446744073709551616 := by
  simp only [Lit.wf, Bool.and_eq_true, decide_eq_true_eq] at h
  have h1 : IntKind.u64.min = 0 := by decide
  have h2 : IntKind.u64.max = 18446744073709551615 := by decide
  rw [h1, h2] at h
  exact ⟨n.toNat, by omega, by omega⟩
theorem wf_u8 {n : Int} (h : (Lit.int .u8 n).wf = true) : ∃ m : Nat, n = (m : Int) ∧ m < 256 := by
  simp only [Lit.wf, Bool.and_eq_true, decide_eq_true_eq] at h
  have h1 : IntKind.u8.min = 0 := by decide
  have h2 : IntKind.u8.max = 255 := by decide
  rw [h1, h2] at h
  exact ⟨n.toNat, by omega, by omega⟩
theorem str_bytes (s : ByteArray) : ∀ b ∈ s.data.toList.map UInt8.toNat, b < 256 := fun b hb => by
  obtain ⟨c, _, rfl⟩ := List.mem_map.1 hb
  exact c.toNat_lt

theorem bys_flat : ∀ l : List Nat, (l.flatMap fun b : Nat => [AV.int .u8 (b : Int)]) = bys l
  | [] => rfl
  | b :: l => by rw [List.flatMap_cons, bys_flat l]; rfl
section
variable {H : Type} {enc : TypeId × Value → H} {w : World} {held : Bool}
theorem open_bytes {v : Value} {d : DataW H} {ps : List MemPlace} (hv : ∃ a n c, v = .slice a n c) (h : DataW.Trod enc Try.prog w 0 (fun _ => true) held 27 v d ps) :
    ∃ xs : List Nat, (∀ x ∈ xs, x < 256) ∧ xs.length ≤ maxLen ∧ ArgS w 1 v xs.length (bys xs) := by
  obtain ⟨xs, h1, h2, h3⟩ := open_arg (f := fun b : Nat => [AV.int .u8 (b : Int)]) (ok := fun b => b < 256) Try.underlying27 (by kernel_rfl) (by decide) (fun _ => rfl) (fun n cs y h => by
    obtain ⟨m, rfl, _, hm⟩ := DataW.trod_int Try.underlying5 h
    obtain ⟨b, rfl, hb⟩ := wf_u8 hm
    exact ⟨b, hb, .cons rfl (fun _ => .int _ _) .nil⟩) hv h
  rw [bys_flat] at h3
  exact ⟨xs, h1, h2, h3⟩
end
end Go.Proofs.Ytejmdglmldjliaa.Ae
