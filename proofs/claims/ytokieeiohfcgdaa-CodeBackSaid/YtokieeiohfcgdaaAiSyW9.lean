/-
  MORE OF A READER, by the rules: counts, texts, complex numbers.
-/
import Derived.Test.YtokieeiohfcgdaaAiSyW8
namespace Go.Proofs.Ytokieeiohfcgdaa.Ae
open Go.AE
set_option linter.unusedVariables false
set_option maxRecDepth 100000

theorem rCount_spec {K : FuncId} {A : AW} {fr : Nat} {v : AV} {bs : List Nat} {most : Int} (hw : Wf A) (h : Rd A fr v bs) (h1 : -9223372036854775808 ≤ most) (h2 : most < 9223372036854775808) :
    CallP (ES K) 65 [.ptr fr 0 0, .int .i64 most] A fun r A1 => r = .tuple [.int .i64 ((rdC most bs).1 : Int), .int .i64 ((rdC most bs).2.1 : Int)] ∧ ∃ v', RStep A A1 fr v v' (bs.drop (rdC most bs).2.2) := by
  refine call_of rfl rfl rfl ?_
  repeat (first | refine wg_seq ?_ | refine wg_skip ?_ | refine wg_block ?_ | refine wg_scope ?_ | refine wg_inBlock ?_ | refine wg_inScope ?_ | refine wg_region ?_ | refine wo_nil ?_ | refine wo_move rfl rfl ?_ | refine wo_assign rfl rfl ?_ | refine wo_fieldAddr rfl rfl rfl ?_ | refine wo_nilCheck rfl rfl ?_ | refine wo_extract rfl rfl rfl ?_ | refine wo_load rfl rfl rfl rfl (by assumption) rfl ?_ | refine wo_eql rfl rfl rfl ?_ | refine wo_neq rfl rfl rfl ?_ | refine wo_lss rfl rfl rfl ?_ | refine wo_gtr rfl rfl rfl ?_ | refine wo_leq rfl rfl rfl ?_ | refine wo_geq rfl rfl rfl ?_ | refine wo_not rfl rfl ?_ | refine wo_lenStr rfl rfl rfl ?_ | refine wo_len rfl rfl rfl rfl ?_ | refine wo_buildSlice rfl rfl rfl ?_ | refine wo_build rfl rfl rfl ?_ | refine wo_pick rfl rfl rfl ?_ | refine wo_strEq rfl rfl rfl ?_ | refine wo_boolEq rfl rfl rfl rfl ?_ | refine wo_boolNe rfl rfl rfl rfl ?_ | refine wo_strNe rfl rfl rfl ?_ | refine wo_on rfl ?_ | refine wo_off rfl rfl ?_ | refine wo_offn rfl ?_)
  refine wo_call rfl rfl orc_cons rfl (rcount_spec hw h h1 h2) ?_
  rintro r A1 ⟨rfl, v', st⟩
  repeat (first | refine wg_seq ?_ | refine wg_skip ?_ | refine wg_block ?_ | refine wg_scope ?_ | refine wg_inBlock ?_ | refine wg_inScope ?_ | refine wg_region ?_ | refine wo_nil ?_ | refine wo_move rfl rfl ?_ | refine wo_assign rfl rfl ?_ | refine wo_fieldAddr rfl rfl rfl ?_ | refine wo_nilCheck rfl rfl ?_ | refine wo_extract rfl rfl rfl ?_ | refine wo_load rfl rfl rfl rfl (by assumption) rfl ?_ | refine wo_eql rfl rfl rfl ?_ | refine wo_neq rfl rfl rfl ?_ | refine wo_lss rfl rfl rfl ?_ | refine wo_gtr rfl rfl rfl ?_ | refine wo_leq rfl rfl rfl ?_ | refine wo_geq rfl rfl rfl ?_ | refine wo_not rfl rfl ?_ | refine wo_lenStr rfl rfl rfl ?_ | refine wo_len rfl rfl rfl rfl ?_ | refine wo_buildSlice rfl rfl rfl ?_ | refine wo_build rfl rfl rfl ?_ | refine wo_pick rfl rfl rfl ?_ | refine wo_strEq rfl rfl rfl ?_ | refine wo_boolEq rfl rfl rfl rfl ?_ | refine wo_boolNe rfl rfl rfl rfl ?_ | refine wo_strNe rfl rfl rfl ?_ | refine wo_on rfl ?_ | refine wo_off rfl rfl ?_ | refine wo_offn rfl ?_)
  exact wg_ret rfl ⟨rfl, v', st⟩

/-- A text: what is read, the error, how much was taken. -/
def rdT (most : Int) (bs : List Nat) : List Nat × Nat × Nat :=
  if (rdC most bs).2.1 ≠ 0 then ([], (rdC most bs).2.1, 0) else if bs.length - (rdC most bs).2.2 < (rdC most bs).1 then ([], 30, 0) else ((bs.drop (rdC most bs).2.2).take (rdC most bs).1, 0, (rdC most bs).2.2 + (rdC most bs).1)
/-! ### Complex numbers -/
/-- So many bytes laid together, the lowest first. -/
def leA (bs : List Nat) : Nat → Nat
  | 0 => 0
  | k + 1 => leA bs k ||| (bs.getD k 0 * 2 ^ (8 * k) % 18446744073709551616)
theorem leA_lt (bs : List Nat) : ∀ k, leA bs k < 18446744073709551616
  | 0 => by show 0 < _; decide
  | k + 1 => Nat.or_lt_two_pow (n := 64) (leA_lt bs k) (Nat.mod_lt _ (by decide))
theorem shl8 {E : Env} {A : AW} {n i : Nat} {k : IntKind} (h : i < 8) : intOp E .shl .u64 (n : Int) k ((8 * i : Nat) : Int) A = .val (.int .u64 ((n * 2 ^ (8 * i) % 18446744073709551616 : Nat) : Int)) A := by
  rw [int_shl (by omega)]
  have e : min ((8 * i : Nat) : Int).toNat IntKind.u64.bits = 8 * i := by
    show min ((8 * i : Nat) : Int).toNat 64 = _
    omega
  rw [e, wrap_u64]
  congr 2
/-- A complex number: what is read, the error, how much was taken. -/
def rdX (bs : List Nat) : (Nat × Nat) × Nat × Nat := if bs.length < 16 then ((0, 0), 30, 0) else ((leA bs 8, leA (bs.drop 8) 8), 0, 16)
theorem leA_take (bs : List Nat) (m : Nat) : ∀ k, k ≤ m → leA (bs.take m) k = leA bs k
  | 0, _ => rfl
  | k + 1, h => by
    show leA (bs.take m) k ||| ((bs.take m).getD k 0 * 2 ^ (8 * k) % 18446744073709551616) = leA bs k ||| (bs.getD k 0 * 2 ^ (8 * k) % 18446744073709551616)
    rw [leA_take bs m k (by omega), List.getD_eq_getElem?_getD, List.getD_eq_getElem?_getD, List.getElem?_take_of_lt (by omega)]
end Go.Proofs.Ytokieeiohfcgdaa.Ae
