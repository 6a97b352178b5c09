/-
  THE OTHER FUNCTIONS OF A WRITER, and those of the document, by the rules.
-/
import Derived.Test.YtokieeiohfcgdaaAiSyW1
namespace Go.Proofs.Ytokieeiohfcgdaa.Ae
open Go.AE
set_option linter.unusedVariables false
set_option maxRecDepth 100000

/-- xs has been appended to a row of bytes. -/
structure BStep (A A1 : AW) (v v' : AV) (bs xs : List Nat) : Prop where
  buf : Buf A1 1 v' (bs ++ xs).length (bys (bs ++ xs))
  only : Only A A1 v.isFam
  grow : Grow A v.isFam v'.isFam
theorem BStep.refl {A : AW} {v : AV} {bs : List Nat} (hw : Wf A) (h : Buf A 1 v bs.length (bys bs)) : BStep A A v v bs [] := ⟨by simpa using h, Only.refl hw _, Grow.refl _ _⟩
theorem BStep.trans {A A1 A2 : AW} {v v1 v2 : AV} {bs xs ys : List Nat} (hw : Wf A) (h : BStep A A1 v v1 bs xs) (k : BStep A1 A2 v1 v2 (bs ++ xs) ys) : BStep A A2 v v2 bs (xs ++ ys) :=
  ⟨by rw [← List.append_assoc]; exact k.buf, h.only.trans hw k.only h.grow, h.grow.trans k.grow h.only.nxt⟩
theorem BStep.of {A A0 A1 : AW} {v v' : AV} {bs xs : List Nat} (h0 : Only A A0 none') (g : Grew A0 A1 1 v v' (bs.length + xs.length) (bys bs ++ bys xs)) : BStep A A1 v v' bs xs :=
  ⟨by rw [List.length_append, bys_append]; exact g.buf, (h0.mono fun _ h => h.elim).same g.only, fun k hk => by
    rcases g.grow k hk with h | h
    · exact .inl h
    · exact .inr (Nat.le_trans h0.nxt h)⟩

theorem refUint_spec {K : FuncId} {A : AW} {v : AV} {bs : List Nat} {n : Nat} (hw : Wf A) (h : Buf A 1 v bs.length (bys bs)) (hl : bs.length < 1000000000000) (hn : n < 18446744073709551616) :
    CallP (ES K) 63 [v, .int .u64 (n : Int)] A fun r A1 => BStep A A1 v r bs (grp n) := by
  refine call_of rfl rfl rfl ?_
  repeat (first | refine wg_seq ?_ | refine wg_skip ?_ | refine wg_block ?_ | refine wg_scope ?_ | refine wg_inBlock ?_ | refine wg_inScope ?_ | refine wg_region ?_ | refine wo_nil ?_ | refine wo_move rfl rfl ?_ | refine wo_assign rfl rfl ?_ | refine wo_fieldAddr rfl rfl rfl ?_ | refine wo_nilCheck rfl rfl ?_ | refine wo_extract rfl rfl rfl ?_ | refine wo_load rfl rfl rfl rfl (by assumption) rfl ?_ | refine wo_eql rfl rfl rfl ?_ | refine wo_neq rfl rfl rfl ?_ | refine wo_lss rfl rfl rfl ?_ | refine wo_gtr rfl rfl rfl ?_ | refine wo_leq rfl rfl rfl ?_ | refine wo_geq rfl rfl rfl ?_ | refine wo_not rfl rfl ?_ | refine wo_lenStr rfl rfl rfl ?_ | refine wo_len rfl rfl rfl rfl ?_ | refine wo_buildSlice rfl rfl rfl ?_ | refine wo_build rfl rfl rfl ?_ | refine wo_pick rfl rfl rfl ?_ | refine wo_strEq rfl rfl rfl ?_ | refine wo_boolEq rfl rfl rfl rfl ?_ | refine wo_boolNe rfl rfl rfl rfl ?_ | refine wo_strNe rfl rfl rfl ?_ | refine wo_on rfl ?_ | refine wo_off rfl rfl ?_ | refine wo_offn rfl ?_)
  refine wg_loop ?_
  refine wg_le (.put 0 v (.put 1 (.int .u64 (n : Int)) .nil)) ?_ ⟨rfl, rfl, trivial⟩
  refine wg_ind (ι := Nat × List Nat × AV) (fun i => i.1) (fun i => .put 0 i.2.2 (.put 1 (.int .u64 (i.1 : Int)) .nil))
    (fun i A1 => BStep A A1 v i.2.2 bs i.2.1 ∧ i.2.1 ++ grp i.1 = grp n) ?_ (n, [], v) A ⟨BStep.refl hw h, rfl⟩
  rintro ⟨m, xs, u⟩ A1 ⟨hs, hm⟩ ih
  have hs : BStep A A1 v u bs xs := hs
  have hm : xs ++ grp m = grp n := hm
  have hl1 : xs.length ≤ 10 := by
    have := grp_len10 hn
    rw [← hm, List.length_append] at this
    omega
  repeat (first | refine wg_seq ?_ | refine wg_skip ?_ | refine wg_block ?_ | refine wg_scope ?_ | refine wg_inBlock ?_ | refine wg_inScope ?_ | refine wg_region ?_ | refine wo_nil ?_ | refine wo_move rfl rfl ?_ | refine wo_assign rfl rfl ?_ | refine wo_fieldAddr rfl rfl rfl ?_ | refine wo_nilCheck rfl rfl ?_ | refine wo_extract rfl rfl rfl ?_ | refine wo_load rfl rfl rfl rfl (by assumption) rfl ?_ | refine wo_eql rfl rfl rfl ?_ | refine wo_neq rfl rfl rfl ?_ | refine wo_lss rfl rfl rfl ?_ | refine wo_gtr rfl rfl rfl ?_ | refine wo_leq rfl rfl rfl ?_ | refine wo_geq rfl rfl rfl ?_ | refine wo_not rfl rfl ?_ | refine wo_lenStr rfl rfl rfl ?_ | refine wo_len rfl rfl rfl rfl ?_ | refine wo_buildSlice rfl rfl rfl ?_ | refine wo_build rfl rfl rfl ?_ | refine wo_pick rfl rfl rfl ?_ | refine wo_strEq rfl rfl rfl ?_ | refine wo_boolEq rfl rfl rfl rfl ?_ | refine wo_boolNe rfl rfl rfl rfl ?_ | refine wo_strNe rfl rfl rfl ?_ | refine wo_on rfl ?_ | refine wo_off rfl rfl ?_ | refine wo_offn rfl ?_)
  refine wg_dec rfl (fun hge => ?_) fun hlt => ?_
  · have hge : ¬ m < 128 := fun h => by
      have : (128 : Int) ≤ (m : Int) := hge
      omega
    repeat (first | refine wg_seq ?_ | refine wg_skip ?_ | refine wg_block ?_ | refine wg_scope ?_ | refine wg_inBlock ?_ | refine wg_inScope ?_ | refine wg_region ?_ | refine wo_nil ?_ | refine wo_move rfl rfl ?_ | refine wo_assign rfl rfl ?_ | refine wo_fieldAddr rfl rfl rfl ?_ | refine wo_nilCheck rfl rfl ?_ | refine wo_extract rfl rfl rfl ?_ | refine wo_load rfl rfl rfl rfl (by assumption) rfl ?_ | refine wo_eql rfl rfl rfl ?_ | refine wo_neq rfl rfl rfl ?_ | refine wo_lss rfl rfl rfl ?_ | refine wo_gtr rfl rfl rfl ?_ | refine wo_leq rfl rfl rfl ?_ | refine wo_geq rfl rfl rfl ?_ | refine wo_not rfl rfl ?_ | refine wo_lenStr rfl rfl rfl ?_ | refine wo_len rfl rfl rfl rfl ?_ | refine wo_buildSlice rfl rfl rfl ?_ | refine wo_build rfl rfl rfl ?_ | refine wo_pick rfl rfl rfl ?_ | refine wo_strEq rfl rfl rfl ?_ | refine wo_boolEq rfl rfl rfl rfl ?_ | refine wo_boolNe rfl rfl rfl rfl ?_ | refine wo_strNe rfl rfl rfl ?_ | refine wo_on rfl ?_ | refine wo_off rfl rfl ?_ | refine wo_offn rfl ?_)
    refine wo_conv rfl rfl rfl rfl ((m % 256 : Nat) : Int) (wrap_u8n m) ?_
    refine wo_bin rfl rfl rfl (v := .int .u8 ((m % 128 + 128 : Nat) : Int)) (by rw [int_or]; exact congrArg (fun z => OpR.val (.int .u8 z) A1) or128_of) ?_
    repeat (first | refine wg_seq ?_ | refine wg_skip ?_ | refine wg_block ?_ | refine wg_scope ?_ | refine wg_inBlock ?_ | refine wg_inScope ?_ | refine wg_region ?_ | refine wo_nil ?_ | refine wo_move rfl rfl ?_ | refine wo_assign rfl rfl ?_ | refine wo_fieldAddr rfl rfl rfl ?_ | refine wo_nilCheck rfl rfl ?_ | refine wo_extract rfl rfl rfl ?_ | refine wo_load rfl rfl rfl rfl (by assumption) rfl ?_ | refine wo_eql rfl rfl rfl ?_ | refine wo_neq rfl rfl rfl ?_ | refine wo_lss rfl rfl rfl ?_ | refine wo_gtr rfl rfl rfl ?_ | refine wo_leq rfl rfl rfl ?_ | refine wo_geq rfl rfl rfl ?_ | refine wo_not rfl rfl ?_ | refine wo_lenStr rfl rfl rfl ?_ | refine wo_len rfl rfl rfl rfl ?_ | refine wo_buildSlice rfl rfl rfl ?_ | refine wo_build rfl rfl rfl ?_ | refine wo_pick rfl rfl rfl ?_ | refine wo_strEq rfl rfl rfl ?_ | refine wo_boolEq rfl rfl rfl rfl ?_ | refine wo_boolNe rfl rfl rfl rfl ?_ | refine wo_strNe rfl rfl rfl ?_ | refine wo_on rfl ?_ | refine wo_off rfl rfl ?_ | refine wo_offn rfl ?_)
    have o1 : Only A1 (A1.add (.cells 0 false 1 [.int .u8 ((m % 128 + 128 : Nat) : Int)])) none' := Only.add hs.only.wf _
    refine wo_append rfl rfl rfl rfl rfl (append_buf (de := d5) (m := 1) (xs := [.int .u8 ((m % 128 + 128 : Nat) : Int)]) rfl rfl rfl rfl o1.wf (hs.buf.keep o1 fun _ _ h => h) ?_ rfl (by decide) (room_of (by rw [List.length_append]; omega) (by decide))) ?_
    · simp only [srcA, readCells]
      rw [AW.add_get, if_pos rfl]
      rfl
    intro v' A2 g
    have k := BStep.of (xs := [m % 128 + 128]) o1 g
    repeat (first | refine wg_seq ?_ | refine wg_skip ?_ | refine wg_block ?_ | refine wg_scope ?_ | refine wg_inBlock ?_ | refine wg_inScope ?_ | refine wg_region ?_ | refine wo_nil ?_ | refine wo_move rfl rfl ?_ | refine wo_assign rfl rfl ?_ | refine wo_fieldAddr rfl rfl rfl ?_ | refine wo_nilCheck rfl rfl ?_ | refine wo_extract rfl rfl rfl ?_ | refine wo_load rfl rfl rfl rfl (by assumption) rfl ?_ | refine wo_eql rfl rfl rfl ?_ | refine wo_neq rfl rfl rfl ?_ | refine wo_lss rfl rfl rfl ?_ | refine wo_gtr rfl rfl rfl ?_ | refine wo_leq rfl rfl rfl ?_ | refine wo_geq rfl rfl rfl ?_ | refine wo_not rfl rfl ?_ | refine wo_lenStr rfl rfl rfl ?_ | refine wo_len rfl rfl rfl rfl ?_ | refine wo_buildSlice rfl rfl rfl ?_ | refine wo_build rfl rfl rfl ?_ | refine wo_pick rfl rfl rfl ?_ | refine wo_strEq rfl rfl rfl ?_ | refine wo_boolEq rfl rfl rfl rfl ?_ | refine wo_boolNe rfl rfl rfl rfl ?_ | refine wo_strNe rfl rfl rfl ?_ | refine wo_on rfl ?_ | refine wo_off rfl rfl ?_ | refine wo_offn rfl ?_)
    refine wo_bin rfl rfl rfl shr7 ?_
    repeat (first | refine wg_seq ?_ | refine wg_skip ?_ | refine wg_block ?_ | refine wg_scope ?_ | refine wg_inBlock ?_ | refine wg_inScope ?_ | refine wg_region ?_ | refine wo_nil ?_ | refine wo_move rfl rfl ?_ | refine wo_assign rfl rfl ?_ | refine wo_fieldAddr rfl rfl rfl ?_ | refine wo_nilCheck rfl rfl ?_ | refine wo_extract rfl rfl rfl ?_ | refine wo_load rfl rfl rfl rfl (by assumption) rfl ?_ | refine wo_eql rfl rfl rfl ?_ | refine wo_neq rfl rfl rfl ?_ | refine wo_lss rfl rfl rfl ?_ | refine wo_gtr rfl rfl rfl ?_ | refine wo_leq rfl rfl rfl ?_ | refine wo_geq rfl rfl rfl ?_ | refine wo_not rfl rfl ?_ | refine wo_lenStr rfl rfl rfl ?_ | refine wo_len rfl rfl rfl rfl ?_ | refine wo_buildSlice rfl rfl rfl ?_ | refine wo_build rfl rfl rfl ?_ | refine wo_pick rfl rfl rfl ?_ | refine wo_strEq rfl rfl rfl ?_ | refine wo_boolEq rfl rfl rfl rfl ?_ | refine wo_boolNe rfl rfl rfl rfl ?_ | refine wo_strNe rfl rfl rfl ?_ | refine wo_on rfl ?_ | refine wo_off rfl rfl ?_ | refine wo_offn rfl ?_)
    refine wg_inLoop ?_
    refine wg_le (.put 0 v' (.put 1 (.int .u64 ((m / 128 : Nat) : Int)) .nil)) ?_ ⟨rfl, rfl, trivial⟩
    refine ih (m / 128, xs ++ [m % 128 + 128], v') A2 (by simp only; omega) ⟨hs.trans hw k, ?_⟩
    simp only [List.append_assoc, List.cons_append, List.nil_append]
    rw [← grp_ge hge, hm]
  · have hlt : m < 128 := by
      have : ¬ (128 : Int) ≤ (m : Int) := hlt
      omega
    refine wg_exit rfl ?_
    repeat (first | refine wg_seq ?_ | refine wg_skip ?_ | refine wg_block ?_ | refine wg_scope ?_ | refine wg_inBlock ?_ | refine wg_inScope ?_ | refine wg_region ?_ | refine wo_nil ?_ | refine wo_move rfl rfl ?_ | refine wo_assign rfl rfl ?_ | refine wo_fieldAddr rfl rfl rfl ?_ | refine wo_nilCheck rfl rfl ?_ | refine wo_extract rfl rfl rfl ?_ | refine wo_load rfl rfl rfl rfl (by assumption) rfl ?_ | refine wo_eql rfl rfl rfl ?_ | refine wo_neq rfl rfl rfl ?_ | refine wo_lss rfl rfl rfl ?_ | refine wo_gtr rfl rfl rfl ?_ | refine wo_leq rfl rfl rfl ?_ | refine wo_geq rfl rfl rfl ?_ | refine wo_not rfl rfl ?_ | refine wo_lenStr rfl rfl rfl ?_ | refine wo_len rfl rfl rfl rfl ?_ | refine wo_buildSlice rfl rfl rfl ?_ | refine wo_build rfl rfl rfl ?_ | refine wo_pick rfl rfl rfl ?_ | refine wo_strEq rfl rfl rfl ?_ | refine wo_boolEq rfl rfl rfl rfl ?_ | refine wo_boolNe rfl rfl rfl rfl ?_ | refine wo_strNe rfl rfl rfl ?_ | refine wo_on rfl ?_ | refine wo_off rfl rfl ?_ | refine wo_offn rfl ?_)
    refine wo_conv rfl rfl rfl rfl ((m % 256 : Nat) : Int) (wrap_u8n m) ?_
    repeat (first | refine wg_seq ?_ | refine wg_skip ?_ | refine wg_block ?_ | refine wg_scope ?_ | refine wg_inBlock ?_ | refine wg_inScope ?_ | refine wg_region ?_ | refine wo_nil ?_ | refine wo_move rfl rfl ?_ | refine wo_assign rfl rfl ?_ | refine wo_fieldAddr rfl rfl rfl ?_ | refine wo_nilCheck rfl rfl ?_ | refine wo_extract rfl rfl rfl ?_ | refine wo_load rfl rfl rfl rfl (by assumption) rfl ?_ | refine wo_eql rfl rfl rfl ?_ | refine wo_neq rfl rfl rfl ?_ | refine wo_lss rfl rfl rfl ?_ | refine wo_gtr rfl rfl rfl ?_ | refine wo_leq rfl rfl rfl ?_ | refine wo_geq rfl rfl rfl ?_ | refine wo_not rfl rfl ?_ | refine wo_lenStr rfl rfl rfl ?_ | refine wo_len rfl rfl rfl rfl ?_ | refine wo_buildSlice rfl rfl rfl ?_ | refine wo_build rfl rfl rfl ?_ | refine wo_pick rfl rfl rfl ?_ | refine wo_strEq rfl rfl rfl ?_ | refine wo_boolEq rfl rfl rfl rfl ?_ | refine wo_boolNe rfl rfl rfl rfl ?_ | refine wo_strNe rfl rfl rfl ?_ | refine wo_on rfl ?_ | refine wo_off rfl rfl ?_ | refine wo_offn rfl ?_)
    have o1 : Only A1 (A1.add (.cells 0 false 1 [.int .u8 ((m % 256 : Nat) : Int)])) none' := Only.add hs.only.wf _
    refine wo_append rfl rfl rfl rfl rfl (append_buf (de := d5) (m := 1) (xs := [.int .u8 ((m % 256 : Nat) : Int)]) rfl rfl rfl rfl o1.wf (hs.buf.keep o1 fun _ _ h => h) ?_ rfl (by decide) (room_of (by rw [List.length_append]; omega) (by decide))) ?_
    · simp only [srcA, readCells]
      rw [AW.add_get, if_pos rfl]
      rfl
    intro v' A2 g
    have k := BStep.of (xs := [m % 256]) o1 g
    repeat (first | refine wg_seq ?_ | refine wg_skip ?_ | refine wg_block ?_ | refine wg_scope ?_ | refine wg_inBlock ?_ | refine wg_inScope ?_ | refine wg_region ?_ | refine wo_nil ?_ | refine wo_move rfl rfl ?_ | refine wo_assign rfl rfl ?_ | refine wo_fieldAddr rfl rfl rfl ?_ | refine wo_nilCheck rfl rfl ?_ | refine wo_extract rfl rfl rfl ?_ | refine wo_load rfl rfl rfl rfl (by assumption) rfl ?_ | refine wo_eql rfl rfl rfl ?_ | refine wo_neq rfl rfl rfl ?_ | refine wo_lss rfl rfl rfl ?_ | refine wo_gtr rfl rfl rfl ?_ | refine wo_leq rfl rfl rfl ?_ | refine wo_geq rfl rfl rfl ?_ | refine wo_not rfl rfl ?_ | refine wo_lenStr rfl rfl rfl ?_ | refine wo_len rfl rfl rfl rfl ?_ | refine wo_buildSlice rfl rfl rfl ?_ | refine wo_build rfl rfl rfl ?_ | refine wo_pick rfl rfl rfl ?_ | refine wo_strEq rfl rfl rfl ?_ | refine wo_boolEq rfl rfl rfl rfl ?_ | refine wo_boolNe rfl rfl rfl rfl ?_ | refine wo_strNe rfl rfl rfl ?_ | refine wo_on rfl ?_ | refine wo_off rfl rfl ?_ | refine wo_offn rfl ?_)
    refine wg_ret rfl ?_
    have := hs.trans hw k
    rw [Nat.mod_eq_of_lt (by omega), ← grp_lt hlt, hm] at this
    exact this

/-! ### Numbers with a sign -/
def zz (z : Int) : Nat := if z < 0 then (-z - 1).toNat * 2 + 1 else z.toNat * 2
theorem zz_lt {z : Int} (h1 : -9223372036854775808 ≤ z) (h2 : z < 9223372036854775808) : zz z < 18446744073709551616 := by
  unfold zz
  split <;> omega
theorem xor_zero {a : Nat} (h : a < 18446744073709551616) : IntKind.u64.wrap ((BitVec.ofInt 64 (a : Int) ^^^ BitVec.ofInt 64 0).toNat : Int) = (a : Int) := by
  have : BitVec.ofInt 64 0 = 0#64 := rfl
  rw [this, BitVec.xor_zero, wrap_u64, BitVec.toNat_ofInt]
  omega
theorem xor_ones {a : Nat} (h : a < 18446744073709551616) : IntKind.u64.wrap ((BitVec.ofInt 64 (a : Int) ^^^ BitVec.ofInt 64 18446744073709551615).toNat : Int) = ((18446744073709551615 - a : Nat) : Int) := by
  have : BitVec.ofInt 64 18446744073709551615 = BitVec.allOnes 64 := by decide
  rw [this, BitVec.xor_allOnes, wrap_u64, BitVec.toNat_not, BitVec.toNat_ofInt]
  omega

end Go.Proofs.Ytokieeiohfcgdaa.Ae
