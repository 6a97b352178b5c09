/-
  MORE OF A READER, by the rules: numbers with a sign, counts, texts, complex numbers.
-/
import Derived.Test.YtokieeiohfcgdaaAiSyW7
namespace Go.Proofs.Ytokieeiohfcgdaa.Ae
open Go.AE
set_option linter.unusedVariables false
set_option maxRecDepth 100000

def unz (n : Nat) : Int := if n % 2 = 1 then -((n / 2 : Nat) : Int) - 1 else ((n / 2 : Nat) : Int)
theorem xor_i0 {a : Nat} (h : a < 9223372036854775808) : IntKind.i64.wrap ((BitVec.ofInt 64 (a : Int) ^^^ BitVec.ofInt 64 0).toNat : Int) = (a : Int) := by
  have : BitVec.ofInt 64 0 = 0#64 := rfl
  rw [this, BitVec.xor_zero, BitVec.toNat_ofInt, wrap_i64] <;> omega
theorem wrap_i64_big {z : Int} (h1 : 9223372036854775808 ≤ z) (h2 : z < 18446744073709551616) : IntKind.i64.wrap z = z - 18446744073709551616 := by
  have : IntKind.i64.wrap z = (if (z % 18446744073709551616 : Int) ≥ 9223372036854775808 then z % 18446744073709551616 - 18446744073709551616 else z % 18446744073709551616) := by
    unfold IntKind.wrap; simp [IntKind.bits, IntKind.signed]
  rw [this]
  split <;> omega
theorem xor_i1 {a : Nat} (h : a < 9223372036854775808) : IntKind.i64.wrap ((BitVec.ofInt 64 (a : Int) ^^^ BitVec.ofInt 64 (-1)).toNat : Int) = -(a : Int) - 1 := by
  have : BitVec.ofInt 64 (-1) = BitVec.allOnes 64 := by decide
  rw [this, BitVec.xor_allOnes, BitVec.toNat_not, BitVec.toNat_ofInt]
  have e : ((2 ^ 64 - 1 - ((a : Int) % ((2 ^ 64 : Nat) : Int)).toNat : Nat) : Int) = 18446744073709551615 - (a : Int) := by omega
  rw [e, wrap_i64_big (by omega) (by omega)]
  omega
theorem shr1 {E : Env} {A : AW} {n : Nat} {k : IntKind} : intOp E .shr .u64 (n : Int) k 1 A = .val (.int .u64 ((n / 2 : Nat) : Int)) A := by
  rw [int_shr (by decide)]
  have : ((n : Int).fdiv (2 ^ (min (1 : Int).toNat IntKind.u64.bits))) = ((n / 2 : Nat) : Int) := by
    show (n : Int).fdiv 2 = _
    rw [Int.fdiv_eq_ediv_of_nonneg _ (by decide)]
    omega
  rw [this]
theorem and1 {n : Nat} (h : n < 18446744073709551616) : IntKind.u64.wrap ((BitVec.ofInt IntKind.u64.bits (n : Int) &&& BitVec.ofInt IntKind.u64.bits 1).toNat : Int) = ((n % 2 : Nat) : Int) := by
  have e : (BitVec.ofInt IntKind.u64.bits (n : Int) &&& BitVec.ofInt IntKind.u64.bits 1).toNat = n % 2 := by
    rw [BitVec.toNat_and]
    show (BitVec.ofInt 64 (n : Int)).toNat &&& 1 = _
    rw [ofInt64 h, Nat.and_one_is_mod]
  rw [e]
  exact wrap_u64n (by omega)

/-- A count: what is read, the error, how much was taken. -/
def rdC (most : Int) (bs : List Nat) : Nat × Nat × Nat :=
  if (rdG bs 0 0).2.1 = 0 then (if most < 0 ∨ most < ((rdG bs 0 0).1 : Int) then (0, 32, 0) else rdG bs 0 0) else (0, (rdG bs 0 0).2.1, 0)
theorem rdC_le {most : Int} {bs : List Nat} (hm : most < 9223372036854775808) : (rdC most bs).1 < 9223372036854775808 ∧ (rdC most bs).2.2 ≤ bs.length ∧ ((rdC most bs).2.1 ≠ 0 → (rdC most bs).1 = 0 ∧ (rdC most bs).2.2 = 0) := by
  have h := (rdG_take bs 0 0).1
  unfold rdC
  by_cases he : (rdG bs 0 0).2.1 = 0
  · rw [if_pos he]
    by_cases hb : most < 0 ∨ most < ((rdG bs 0 0).1 : Int)
    · rw [if_pos hb]
      exact ⟨by decide, Nat.zero_le _, fun _ => ⟨rfl, rfl⟩⟩
    · rw [if_neg hb]
      exact ⟨by omega, by omega, fun h => absurd he h⟩
  · rw [if_neg he]
    exact ⟨by show 0 < _; decide, Nat.zero_le _, fun _ => ⟨rfl, rfl⟩⟩
/-- What was there before is stored again. -/
theorem RStep.back {A A1 : AW} {fr : Nat} {v v' : AV} {bs cs : List Nat} (hw : Wf A) (h : Rd A fr v bs) (st : RStep A A1 fr v v' cs) : RStep A (A1.put fr (.cells 0 false 1 [v])) fr v v bs := by
  have hf := st.only.wf _ _ st.rd.cell
  have op : Only A1 (A1.put fr (.cells 0 false 1 [v])) (one fr) := Only.put st.only.wf hf
  have o2 := st.only.same op
  exact ⟨⟨by simp, h.full.keep o2 fun g hg e => h.own (by cases e; exact hg), h.own, h.lt⟩, o2, fun _ h => h⟩

theorem rcount_spec {K : FuncId} {A : AW} {fr : Nat} {v : AV} {bs : List Nat} {most : Int} (hw : Wf A) (h : Rd A fr v bs) (h1 : -9223372036854775808 ≤ most) (h2 : most < 9223372036854775808) :
    CallP (ES K) 79 [.ptr fr 0 0, .int .i64 most] A fun r A1 => r = .tuple [.int .i64 ((rdC most bs).1 : Int), .int .i64 ((rdC most bs).2.1 : Int)] ∧ ∃ v', RStep A A1 fr v v' (bs.drop (rdC most bs).2.2) := by
  have hn := rdG_lt bs 0 0 (by decide)
  have hke := (rdG_take bs 0 0).2
  refine call_of rfl rfl rfl ?_
  have hc := h.cell
  repeat (first | refine wg_seq ?_ | refine wg_skip ?_ | refine wg_block ?_ | refine wg_scope ?_ | refine wg_inBlock ?_ | refine wg_inScope ?_ | refine wg_region ?_ | refine wo_nil ?_ | refine wo_move rfl rfl ?_ | refine wo_assign rfl rfl ?_ | refine wo_fieldAddr rfl rfl rfl ?_ | refine wo_nilCheck rfl rfl ?_ | refine wo_extract rfl rfl rfl ?_ | refine wo_load rfl rfl rfl rfl (by assumption) rfl ?_ | refine wo_eql rfl rfl rfl ?_ | refine wo_neq rfl rfl rfl ?_ | refine wo_lss rfl rfl rfl ?_ | refine wo_gtr rfl rfl rfl ?_ | refine wo_leq rfl rfl rfl ?_ | refine wo_geq rfl rfl rfl ?_ | refine wo_not rfl rfl ?_ | refine wo_lenStr rfl rfl rfl ?_ | refine wo_len rfl rfl rfl rfl ?_ | refine wo_buildSlice rfl rfl rfl ?_ | refine wo_build rfl rfl rfl ?_ | refine wo_pick rfl rfl rfl ?_ | refine wo_strEq rfl rfl rfl ?_ | refine wo_boolEq rfl rfl rfl rfl ?_ | refine wo_boolNe rfl rfl rfl rfl ?_ | refine wo_strNe rfl rfl rfl ?_ | refine wo_on rfl ?_ | refine wo_off rfl rfl ?_ | refine wo_offn rfl ?_)
  refine wo_call rfl rfl orc_cons rfl (ruint_spec hw h) ?_
  rintro r A1 ⟨rfl, v', st⟩
  unfold rdC
  rcases hG : rdG bs 0 0 with ⟨n, e, k⟩
  rw [hG] at hn st hke
  simp only at hn st hke ⊢
  have hc1 := st.rd.cell
  repeat (first | refine wo_nil ?_ | refine wo_move rfl rfl ?_ | refine wo_assign rfl rfl ?_ | refine wo_fieldAddr rfl rfl rfl ?_ | refine wo_nilCheck rfl rfl ?_ | refine wo_extract rfl rfl rfl ?_ | refine wo_load rfl rfl rfl rfl (by assumption) rfl ?_ | refine wo_eql rfl rfl rfl ?_ | refine wo_neq rfl rfl rfl ?_ | refine wo_lss rfl rfl rfl ?_ | refine wo_gtr rfl rfl rfl ?_ | refine wo_leq rfl rfl rfl ?_ | refine wo_geq rfl rfl rfl ?_ | refine wo_not rfl rfl ?_ | refine wo_lenStr rfl rfl rfl ?_ | refine wo_len rfl rfl rfl rfl ?_ | refine wo_buildSlice rfl rfl rfl ?_ | refine wo_build rfl rfl rfl ?_ | refine wo_pick rfl rfl rfl ?_ | refine wo_strEq rfl rfl rfl ?_ | refine wo_boolEq rfl rfl rfl rfl ?_ | refine wo_boolNe rfl rfl rfl rfl ?_ | refine wo_strNe rfl rfl rfl ?_ | refine wo_on rfl ?_ | refine wo_off rfl rfl ?_ | refine wo_offn rfl ?_)
  repeat (first | refine wg_seq ?_ | refine wg_skip ?_ | refine wg_block ?_ | refine wg_scope ?_ | refine wg_inBlock ?_ | refine wg_inScope ?_)
  refine wg_regionTo (.put 0 (.ptr fr 0 0) (.put 6 v (.put 7 (.int .u64 (n : Int)) (.put 8 (.int .i64 (e : Int)) (.put 29 (.bool (decide (e = 0 ∧ (most < 0 ∨ most < (n : Int))))) .nil))))) ?_ ?_
  · repeat (first | refine wo_nil ?_ | refine wo_move rfl rfl ?_ | refine wo_assign rfl rfl ?_ | refine wo_fieldAddr rfl rfl rfl ?_ | refine wo_nilCheck rfl rfl ?_ | refine wo_extract rfl rfl rfl ?_ | refine wo_load rfl rfl rfl rfl (by assumption) rfl ?_ | refine wo_eql rfl rfl rfl ?_ | refine wo_neq rfl rfl rfl ?_ | refine wo_lss rfl rfl rfl ?_ | refine wo_gtr rfl rfl rfl ?_ | refine wo_leq rfl rfl rfl ?_ | refine wo_geq rfl rfl rfl ?_ | refine wo_not rfl rfl ?_ | refine wo_lenStr rfl rfl rfl ?_ | refine wo_len rfl rfl rfl rfl ?_ | refine wo_buildSlice rfl rfl rfl ?_ | refine wo_build rfl rfl rfl ?_ | refine wo_pick rfl rfl rfl ?_ | refine wo_strEq rfl rfl rfl ?_ | refine wo_boolEq rfl rfl rfl rfl ?_ | refine wo_boolNe rfl rfl rfl rfl ?_ | refine wo_strNe rfl rfl rfl ?_ | refine wo_on rfl ?_ | refine wo_off rfl rfl ?_ | refine wo_offn rfl ?_)
    by_cases he : e = 0
    · refine wo_is 20 true rfl (decide_eq_true (by first | omega | (simp only; omega))) ?_
      repeat (first | refine wo_nil ?_ | refine wo_move rfl rfl ?_ | refine wo_assign rfl rfl ?_ | refine wo_fieldAddr rfl rfl rfl ?_ | refine wo_nilCheck rfl rfl ?_ | refine wo_extract rfl rfl rfl ?_ | refine wo_load rfl rfl rfl rfl (by assumption) rfl ?_ | refine wo_eql rfl rfl rfl ?_ | refine wo_neq rfl rfl rfl ?_ | refine wo_lss rfl rfl rfl ?_ | refine wo_gtr rfl rfl rfl ?_ | refine wo_leq rfl rfl rfl ?_ | refine wo_geq rfl rfl rfl ?_ | refine wo_not rfl rfl ?_ | refine wo_lenStr rfl rfl rfl ?_ | refine wo_len rfl rfl rfl rfl ?_ | refine wo_buildSlice rfl rfl rfl ?_ | refine wo_build rfl rfl rfl ?_ | refine wo_pick rfl rfl rfl ?_ | refine wo_strEq rfl rfl rfl ?_ | refine wo_boolEq rfl rfl rfl rfl ?_ | refine wo_boolNe rfl rfl rfl rfl ?_ | refine wo_strNe rfl rfl rfl ?_ | refine wo_on rfl ?_ | refine wo_off rfl rfl ?_ | refine wo_offn rfl ?_)
      by_cases hm : most < 0
      · refine wo_is 23 true rfl (decide_eq_true hm) ?_
        repeat (first | refine wo_nil ?_ | refine wo_move rfl rfl ?_ | refine wo_assign rfl rfl ?_ | refine wo_fieldAddr rfl rfl rfl ?_ | refine wo_nilCheck rfl rfl ?_ | refine wo_extract rfl rfl rfl ?_ | refine wo_load rfl rfl rfl rfl (by assumption) rfl ?_ | refine wo_eql rfl rfl rfl ?_ | refine wo_neq rfl rfl rfl ?_ | refine wo_lss rfl rfl rfl ?_ | refine wo_gtr rfl rfl rfl ?_ | refine wo_leq rfl rfl rfl ?_ | refine wo_geq rfl rfl rfl ?_ | refine wo_not rfl rfl ?_ | refine wo_lenStr rfl rfl rfl ?_ | refine wo_len rfl rfl rfl rfl ?_ | refine wo_buildSlice rfl rfl rfl ?_ | refine wo_build rfl rfl rfl ?_ | refine wo_pick rfl rfl rfl ?_ | refine wo_strEq rfl rfl rfl ?_ | refine wo_boolEq rfl rfl rfl rfl ?_ | refine wo_boolNe rfl rfl rfl rfl ?_ | refine wo_strNe rfl rfl rfl ?_ | refine wo_on rfl ?_ | refine wo_off rfl rfl ?_ | refine wo_offn rfl ?_)
        exact ⟨rfl, rfl, rfl, rfl, rfl, congrArg (fun x => some (AV.bool x)) (decide_eq_true ⟨he, .inl hm⟩).symm, trivial⟩
      · refine wo_is 23 false rfl (decide_eq_false hm) ?_
        repeat (first | refine wo_nil ?_ | refine wo_move rfl rfl ?_ | refine wo_assign rfl rfl ?_ | refine wo_fieldAddr rfl rfl rfl ?_ | refine wo_nilCheck rfl rfl ?_ | refine wo_extract rfl rfl rfl ?_ | refine wo_load rfl rfl rfl rfl (by assumption) rfl ?_ | refine wo_eql rfl rfl rfl ?_ | refine wo_neq rfl rfl rfl ?_ | refine wo_lss rfl rfl rfl ?_ | refine wo_gtr rfl rfl rfl ?_ | refine wo_leq rfl rfl rfl ?_ | refine wo_geq rfl rfl rfl ?_ | refine wo_not rfl rfl ?_ | refine wo_lenStr rfl rfl rfl ?_ | refine wo_len rfl rfl rfl rfl ?_ | refine wo_buildSlice rfl rfl rfl ?_ | refine wo_build rfl rfl rfl ?_ | refine wo_pick rfl rfl rfl ?_ | refine wo_strEq rfl rfl rfl ?_ | refine wo_boolEq rfl rfl rfl rfl ?_ | refine wo_boolNe rfl rfl rfl rfl ?_ | refine wo_strNe rfl rfl rfl ?_ | refine wo_on rfl ?_ | refine wo_off rfl rfl ?_ | refine wo_offn rfl ?_)
        refine wo_conv rfl rfl rfl rfl most (by rw [wrap_u64]; omega) ?_
        repeat (first | refine wo_nil ?_ | refine wo_move rfl rfl ?_ | refine wo_assign rfl rfl ?_ | refine wo_fieldAddr rfl rfl rfl ?_ | refine wo_nilCheck rfl rfl ?_ | refine wo_extract rfl rfl rfl ?_ | refine wo_load rfl rfl rfl rfl (by assumption) rfl ?_ | refine wo_eql rfl rfl rfl ?_ | refine wo_neq rfl rfl rfl ?_ | refine wo_lss rfl rfl rfl ?_ | refine wo_gtr rfl rfl rfl ?_ | refine wo_leq rfl rfl rfl ?_ | refine wo_geq rfl rfl rfl ?_ | refine wo_not rfl rfl ?_ | refine wo_lenStr rfl rfl rfl ?_ | refine wo_len rfl rfl rfl rfl ?_ | refine wo_buildSlice rfl rfl rfl ?_ | refine wo_build rfl rfl rfl ?_ | refine wo_pick rfl rfl rfl ?_ | refine wo_strEq rfl rfl rfl ?_ | refine wo_boolEq rfl rfl rfl rfl ?_ | refine wo_boolNe rfl rfl rfl rfl ?_ | refine wo_strNe rfl rfl rfl ?_ | refine wo_on rfl ?_ | refine wo_off rfl rfl ?_ | refine wo_offn rfl ?_)
        exact ⟨rfl, rfl, rfl, rfl, rfl, congrArg (fun x => some (AV.bool x)) (decide_eq_decide.2 ⟨fun h => ⟨he, .inr h⟩, fun h => h.2.resolve_left hm⟩), trivial⟩
    · refine wo_is 20 false rfl (decide_eq_false (by first | omega | (simp only; omega))) ?_
      repeat (first | refine wo_nil ?_ | refine wo_move rfl rfl ?_ | refine wo_assign rfl rfl ?_ | refine wo_fieldAddr rfl rfl rfl ?_ | refine wo_nilCheck rfl rfl ?_ | refine wo_extract rfl rfl rfl ?_ | refine wo_load rfl rfl rfl rfl (by assumption) rfl ?_ | refine wo_eql rfl rfl rfl ?_ | refine wo_neq rfl rfl rfl ?_ | refine wo_lss rfl rfl rfl ?_ | refine wo_gtr rfl rfl rfl ?_ | refine wo_leq rfl rfl rfl ?_ | refine wo_geq rfl rfl rfl ?_ | refine wo_not rfl rfl ?_ | refine wo_lenStr rfl rfl rfl ?_ | refine wo_len rfl rfl rfl rfl ?_ | refine wo_buildSlice rfl rfl rfl ?_ | refine wo_build rfl rfl rfl ?_ | refine wo_pick rfl rfl rfl ?_ | refine wo_strEq rfl rfl rfl ?_ | refine wo_boolEq rfl rfl rfl rfl ?_ | refine wo_boolNe rfl rfl rfl rfl ?_ | refine wo_strNe rfl rfl rfl ?_ | refine wo_on rfl ?_ | refine wo_off rfl rfl ?_ | refine wo_offn rfl ?_)
      exact ⟨rfl, rfl, rfl, rfl, rfl, congrArg (fun x => some (AV.bool x)) (decide_eq_false fun h => he h.1).symm, trivial⟩
  refine wg_dec rfl (fun hbig => ?_) fun hbig => ?_
  · rw [if_pos hbig.1, if_pos hbig.2]
    repeat (first | refine wg_seq ?_ | refine wg_skip ?_ | refine wg_block ?_ | refine wg_scope ?_ | refine wg_inBlock ?_ | refine wg_inScope ?_ | refine wg_region ?_ | refine wo_nil ?_ | refine wo_move rfl rfl ?_ | refine wo_assign rfl rfl ?_ | refine wo_fieldAddr rfl rfl rfl ?_ | refine wo_nilCheck rfl rfl ?_ | refine wo_extract rfl rfl rfl ?_ | refine wo_load rfl rfl rfl rfl (by assumption) rfl ?_ | refine wo_eql rfl rfl rfl ?_ | refine wo_neq rfl rfl rfl ?_ | refine wo_lss rfl rfl rfl ?_ | refine wo_gtr rfl rfl rfl ?_ | refine wo_leq rfl rfl rfl ?_ | refine wo_geq rfl rfl rfl ?_ | refine wo_not rfl rfl ?_ | refine wo_lenStr rfl rfl rfl ?_ | refine wo_len rfl rfl rfl rfl ?_ | refine wo_buildSlice rfl rfl rfl ?_ | refine wo_build rfl rfl rfl ?_ | refine wo_pick rfl rfl rfl ?_ | refine wo_strEq rfl rfl rfl ?_ | refine wo_boolEq rfl rfl rfl rfl ?_ | refine wo_boolNe rfl rfl rfl rfl ?_ | refine wo_strNe rfl rfl rfl ?_ | refine wo_on rfl ?_ | refine wo_off rfl rfl ?_ | refine wo_offn rfl ?_)
    refine wg_dec rfl (fun _ => ?_) fun h => absurd (by decide : (32 : Int) ≠ 0) h
    repeat (first | refine wg_seq ?_ | refine wg_skip ?_ | refine wg_block ?_ | refine wg_scope ?_ | refine wg_inBlock ?_ | refine wg_inScope ?_ | refine wg_region ?_ | refine wo_nil ?_ | refine wo_move rfl rfl ?_ | refine wo_assign rfl rfl ?_ | refine wo_fieldAddr rfl rfl rfl ?_ | refine wo_nilCheck rfl rfl ?_ | refine wo_extract rfl rfl rfl ?_ | refine wo_load rfl rfl rfl rfl (by assumption) rfl ?_ | refine wo_eql rfl rfl rfl ?_ | refine wo_neq rfl rfl rfl ?_ | refine wo_lss rfl rfl rfl ?_ | refine wo_gtr rfl rfl rfl ?_ | refine wo_leq rfl rfl rfl ?_ | refine wo_geq rfl rfl rfl ?_ | refine wo_not rfl rfl ?_ | refine wo_lenStr rfl rfl rfl ?_ | refine wo_len rfl rfl rfl rfl ?_ | refine wo_buildSlice rfl rfl rfl ?_ | refine wo_build rfl rfl rfl ?_ | refine wo_pick rfl rfl rfl ?_ | refine wo_strEq rfl rfl rfl ?_ | refine wo_boolEq rfl rfl rfl rfl ?_ | refine wo_boolNe rfl rfl rfl rfl ?_ | refine wo_strNe rfl rfl rfl ?_ | refine wo_on rfl ?_ | refine wo_off rfl rfl ?_ | refine wo_offn rfl ?_)
    refine wo_storeV rfl rfl h.full.cells rfl rfl hc1 rfl ?_
    repeat (first | refine wg_seq ?_ | refine wg_skip ?_ | refine wg_block ?_ | refine wg_scope ?_ | refine wg_inBlock ?_ | refine wg_inScope ?_ | refine wg_region ?_ | refine wo_nil ?_ | refine wo_move rfl rfl ?_ | refine wo_assign rfl rfl ?_ | refine wo_fieldAddr rfl rfl rfl ?_ | refine wo_nilCheck rfl rfl ?_ | refine wo_extract rfl rfl rfl ?_ | refine wo_load rfl rfl rfl rfl (by assumption) rfl ?_ | refine wo_eql rfl rfl rfl ?_ | refine wo_neq rfl rfl rfl ?_ | refine wo_lss rfl rfl rfl ?_ | refine wo_gtr rfl rfl rfl ?_ | refine wo_leq rfl rfl rfl ?_ | refine wo_geq rfl rfl rfl ?_ | refine wo_not rfl rfl ?_ | refine wo_lenStr rfl rfl rfl ?_ | refine wo_len rfl rfl rfl rfl ?_ | refine wo_buildSlice rfl rfl rfl ?_ | refine wo_build rfl rfl rfl ?_ | refine wo_pick rfl rfl rfl ?_ | refine wo_strEq rfl rfl rfl ?_ | refine wo_boolEq rfl rfl rfl rfl ?_ | refine wo_boolNe rfl rfl rfl rfl ?_ | refine wo_strNe rfl rfl rfl ?_ | refine wo_on rfl ?_ | refine wo_off rfl rfl ?_ | refine wo_offn rfl ?_)
    exact wg_ret rfl ⟨rfl, v, st.back hw h⟩
  · repeat (first | refine wg_seq ?_ | refine wg_skip ?_ | refine wg_block ?_ | refine wg_scope ?_ | refine wg_inBlock ?_ | refine wg_inScope ?_ | refine wg_region ?_ | refine wo_nil ?_ | refine wo_move rfl rfl ?_ | refine wo_assign rfl rfl ?_ | refine wo_fieldAddr rfl rfl rfl ?_ | refine wo_nilCheck rfl rfl ?_ | refine wo_extract rfl rfl rfl ?_ | refine wo_load rfl rfl rfl rfl (by assumption) rfl ?_ | refine wo_eql rfl rfl rfl ?_ | refine wo_neq rfl rfl rfl ?_ | refine wo_lss rfl rfl rfl ?_ | refine wo_gtr rfl rfl rfl ?_ | refine wo_leq rfl rfl rfl ?_ | refine wo_geq rfl rfl rfl ?_ | refine wo_not rfl rfl ?_ | refine wo_lenStr rfl rfl rfl ?_ | refine wo_len rfl rfl rfl rfl ?_ | refine wo_buildSlice rfl rfl rfl ?_ | refine wo_build rfl rfl rfl ?_ | refine wo_pick rfl rfl rfl ?_ | refine wo_strEq rfl rfl rfl ?_ | refine wo_boolEq rfl rfl rfl rfl ?_ | refine wo_boolNe rfl rfl rfl rfl ?_ | refine wo_strNe rfl rfl rfl ?_ | refine wo_on rfl ?_ | refine wo_off rfl rfl ?_ | refine wo_offn rfl ?_)
    refine wg_dec rfl (fun hne => ?_) fun heq => ?_
    · have hne : e ≠ 0 := fun h => hne (by rw [h]; rfl)
      rw [if_neg hne]
      repeat (first | refine wg_seq ?_ | refine wg_skip ?_ | refine wg_block ?_ | refine wg_scope ?_ | refine wg_inBlock ?_ | refine wg_inScope ?_ | refine wg_region ?_ | refine wo_nil ?_ | refine wo_move rfl rfl ?_ | refine wo_assign rfl rfl ?_ | refine wo_fieldAddr rfl rfl rfl ?_ | refine wo_nilCheck rfl rfl ?_ | refine wo_extract rfl rfl rfl ?_ | refine wo_load rfl rfl rfl rfl (by assumption) rfl ?_ | refine wo_eql rfl rfl rfl ?_ | refine wo_neq rfl rfl rfl ?_ | refine wo_lss rfl rfl rfl ?_ | refine wo_gtr rfl rfl rfl ?_ | refine wo_leq rfl rfl rfl ?_ | refine wo_geq rfl rfl rfl ?_ | refine wo_not rfl rfl ?_ | refine wo_lenStr rfl rfl rfl ?_ | refine wo_len rfl rfl rfl rfl ?_ | refine wo_buildSlice rfl rfl rfl ?_ | refine wo_build rfl rfl rfl ?_ | refine wo_pick rfl rfl rfl ?_ | refine wo_strEq rfl rfl rfl ?_ | refine wo_boolEq rfl rfl rfl rfl ?_ | refine wo_boolNe rfl rfl rfl rfl ?_ | refine wo_strNe rfl rfl rfl ?_ | refine wo_on rfl ?_ | refine wo_off rfl rfl ?_ | refine wo_offn rfl ?_)
      refine wo_storeV rfl rfl h.full.cells rfl rfl hc1 rfl ?_
      repeat (first | refine wg_seq ?_ | refine wg_skip ?_ | refine wg_block ?_ | refine wg_scope ?_ | refine wg_inBlock ?_ | refine wg_inScope ?_ | refine wg_region ?_ | refine wo_nil ?_ | refine wo_move rfl rfl ?_ | refine wo_assign rfl rfl ?_ | refine wo_fieldAddr rfl rfl rfl ?_ | refine wo_nilCheck rfl rfl ?_ | refine wo_extract rfl rfl rfl ?_ | refine wo_load rfl rfl rfl rfl (by assumption) rfl ?_ | refine wo_eql rfl rfl rfl ?_ | refine wo_neq rfl rfl rfl ?_ | refine wo_lss rfl rfl rfl ?_ | refine wo_gtr rfl rfl rfl ?_ | refine wo_leq rfl rfl rfl ?_ | refine wo_geq rfl rfl rfl ?_ | refine wo_not rfl rfl ?_ | refine wo_lenStr rfl rfl rfl ?_ | refine wo_len rfl rfl rfl rfl ?_ | refine wo_buildSlice rfl rfl rfl ?_ | refine wo_build rfl rfl rfl ?_ | refine wo_pick rfl rfl rfl ?_ | refine wo_strEq rfl rfl rfl ?_ | refine wo_boolEq rfl rfl rfl rfl ?_ | refine wo_boolNe rfl rfl rfl rfl ?_ | refine wo_strNe rfl rfl rfl ?_ | refine wo_on rfl ?_ | refine wo_off rfl rfl ?_ | refine wo_offn rfl ?_)
      exact wg_ret rfl ⟨rfl, v, st.back hw h⟩
    · have heq : e = 0 := by
        have : ¬ (e : Int) ≠ 0 := heq
        omega
      have hb : ¬ (most < 0 ∨ most < (n : Int)) := fun h => hbig ⟨heq, h⟩
      rw [if_pos heq, if_neg hb]
      subst heq
      repeat (first | refine wg_seq ?_ | refine wg_skip ?_ | refine wg_block ?_ | refine wg_scope ?_ | refine wg_inBlock ?_ | refine wg_inScope ?_ | refine wg_region ?_ | refine wo_nil ?_ | refine wo_move rfl rfl ?_ | refine wo_assign rfl rfl ?_ | refine wo_fieldAddr rfl rfl rfl ?_ | refine wo_nilCheck rfl rfl ?_ | refine wo_extract rfl rfl rfl ?_ | refine wo_load rfl rfl rfl rfl (by assumption) rfl ?_ | refine wo_eql rfl rfl rfl ?_ | refine wo_neq rfl rfl rfl ?_ | refine wo_lss rfl rfl rfl ?_ | refine wo_gtr rfl rfl rfl ?_ | refine wo_leq rfl rfl rfl ?_ | refine wo_geq rfl rfl rfl ?_ | refine wo_not rfl rfl ?_ | refine wo_lenStr rfl rfl rfl ?_ | refine wo_len rfl rfl rfl rfl ?_ | refine wo_buildSlice rfl rfl rfl ?_ | refine wo_build rfl rfl rfl ?_ | refine wo_pick rfl rfl rfl ?_ | refine wo_strEq rfl rfl rfl ?_ | refine wo_boolEq rfl rfl rfl rfl ?_ | refine wo_boolNe rfl rfl rfl rfl ?_ | refine wo_strNe rfl rfl rfl ?_ | refine wo_on rfl ?_ | refine wo_off rfl rfl ?_ | refine wo_offn rfl ?_)
      refine wo_conv rfl rfl rfl rfl (n : Int) (wrap_i64 (by omega) (by omega)) ?_
      repeat (first | refine wg_seq ?_ | refine wg_skip ?_ | refine wg_block ?_ | refine wg_scope ?_ | refine wg_inBlock ?_ | refine wg_inScope ?_ | refine wg_region ?_ | refine wo_nil ?_ | refine wo_move rfl rfl ?_ | refine wo_assign rfl rfl ?_ | refine wo_fieldAddr rfl rfl rfl ?_ | refine wo_nilCheck rfl rfl ?_ | refine wo_extract rfl rfl rfl ?_ | refine wo_load rfl rfl rfl rfl (by assumption) rfl ?_ | refine wo_eql rfl rfl rfl ?_ | refine wo_neq rfl rfl rfl ?_ | refine wo_lss rfl rfl rfl ?_ | refine wo_gtr rfl rfl rfl ?_ | refine wo_leq rfl rfl rfl ?_ | refine wo_geq rfl rfl rfl ?_ | refine wo_not rfl rfl ?_ | refine wo_lenStr rfl rfl rfl ?_ | refine wo_len rfl rfl rfl rfl ?_ | refine wo_buildSlice rfl rfl rfl ?_ | refine wo_build rfl rfl rfl ?_ | refine wo_pick rfl rfl rfl ?_ | refine wo_strEq rfl rfl rfl ?_ | refine wo_boolEq rfl rfl rfl rfl ?_ | refine wo_boolNe rfl rfl rfl rfl ?_ | refine wo_strNe rfl rfl rfl ?_ | refine wo_on rfl ?_ | refine wo_off rfl rfl ?_ | refine wo_offn rfl ?_)
      exact wg_ret rfl ⟨rfl, v', st⟩
end Go.Proofs.Ytokieeiohfcgdaa.Ae
