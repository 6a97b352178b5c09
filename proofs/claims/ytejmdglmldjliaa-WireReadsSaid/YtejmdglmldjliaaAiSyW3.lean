/-
  MORE OF A WRITER, and of the document: texts, complex numbers, all that was written.
-/
import Derived.Test.YtejmdglmldjliaaAiSyW2
import Derived.KernelRfl
namespace Go.Proofs.Ytejmdglmldjliaa.Ae
open Go.AE
set_option linter.unusedVariables false
set_option maxRecDepth 100000

theorem BStep.of' {A A1 : AW} {v v' : AV} {bs xs : List Nat} {n : Nat} {cs : List AV} (g : Grew A A1 1 v v' n cs) (hn : n = (bs ++ xs).length) (hc : cs = bys (bs ++ xs)) : BStep A A1 v v' bs xs := ⟨by subst hn hc; exact g.buf, g.only, g.grow⟩
theorem wrap_u64n {n : Nat} (h : n < 18446744073709551616) : IntKind.u64.wrap (n : Int) = (n : Int) := by rw [wrap_u64]; omega

theorem text_spec {K : FuncId} {A : AW} {fw : Nat} {v : AV} {bs s : List Nat} (hw : Wf A) (h : Wr A fw v bs) (hl : bs.length < 1000000) (hs : s.length < 1000000) :
    CallP (ES K) 22 [.ptr fw 0 0, .str s] A fun r A1 => r = .tuple [] ∧ ∃ v', WStep A A1 fw v v' bs (grp s.length ++ s) := by
  refine call_of rfl rfl rfl ?_
  repeat (first
    | refine wg_seq ?_
    | refine wg_skip ?_
    | refine wg_block ?_
    | refine wg_scope ?_
    | refine wg_inBlock ?_
    | refine wg_inScope ?_
    | refine wg_region ?_
    | refine wo_nil ?_
    | refine wo_move rfl rfl ?_
    | refine wo_assign rfl rfl ?_
    | refine wo_fieldAddr rfl rfl rfl ?_
    | refine wo_nilCheck rfl rfl ?_
    | refine wo_extract rfl rfl rfl ?_
    | refine wo_load rfl rfl rfl rfl (by assumption) rfl ?_
    | refine wo_eql rfl rfl rfl ?_
    | refine wo_neq rfl rfl rfl ?_
    | refine wo_lss rfl rfl rfl ?_
    | refine wo_gtr rfl rfl rfl ?_
    | refine wo_leq rfl rfl rfl ?_
    | refine wo_geq rfl rfl rfl ?_
    | refine wo_not rfl rfl ?_
    | refine wo_lenStr rfl rfl rfl ?_
    | refine wo_len rfl rfl rfl rfl ?_
    | refine wo_buildSlice rfl rfl rfl ?_
    | refine wo_build rfl rfl rfl ?_
    | refine wo_pick rfl rfl rfl ?_
    | refine wo_strEq rfl rfl rfl ?_
    | refine wo_strNe rfl rfl rfl ?_
    | refine wo_on rfl ?_
    | refine wo_off rfl rfl ?_
    | refine wo_offn rfl ?_)
  refine wo_conv rfl rfl rfl rfl (s.length : Int) (wrap_u64n (by omega)) ?_
  refine wo_call rfl rfl orc_cons rfl (uint_spec hw h (by omega) (by omega)) ?_
  rintro r A2 ⟨rfl, v1, k⟩
  have hc := k.wr.cell
  have hl10 := grp_len10 (n := s.length) (by omega)
  repeat (first
    | refine wg_seq ?_
    | refine wg_skip ?_
    | refine wg_block ?_
    | refine wg_scope ?_
    | refine wg_inBlock ?_
    | refine wg_inScope ?_
    | refine wg_region ?_
    | refine wo_nil ?_
    | refine wo_move rfl rfl ?_
    | refine wo_assign rfl rfl ?_
    | refine wo_fieldAddr rfl rfl rfl ?_
    | refine wo_nilCheck rfl rfl ?_
    | refine wo_extract rfl rfl rfl ?_
    | refine wo_load rfl rfl rfl rfl (by assumption) rfl ?_
    | refine wo_eql rfl rfl rfl ?_
    | refine wo_neq rfl rfl rfl ?_
    | refine wo_lss rfl rfl rfl ?_
    | refine wo_gtr rfl rfl rfl ?_
    | refine wo_leq rfl rfl rfl ?_
    | refine wo_geq rfl rfl rfl ?_
    | refine wo_not rfl rfl ?_
    | refine wo_lenStr rfl rfl rfl ?_
    | refine wo_len rfl rfl rfl rfl ?_
    | refine wo_buildSlice rfl rfl rfl ?_
    | refine wo_build rfl rfl rfl ?_
    | refine wo_pick rfl rfl rfl ?_
    | refine wo_strEq rfl rfl rfl ?_
    | refine wo_strNe rfl rfl rfl ?_
    | refine wo_on rfl ?_
    | refine wo_off rfl rfl ?_
    | refine wo_offn rfl ?_)
  refine wo_append rfl rfl rfl rfl rfl (append_buf (de := d5) (m := s.length) (xs := bys s) rfl rfl rfl rfl k.only.wf k.wr.buf ?_ ?_ (by decide) (room_of (by rw [List.length_append]; omega) (by decide))) ?_
  · show (bif Nat.beq 1 1 then some (len s, cellsOfStr s) else none) = _
    rw [bys_str, len_eq]
    rfl
  · rw [bys_length]; exact (Nat.mul_one _).symm
  intro v' A3 g
  obtain ⟨e1, r1, r2, r3⟩ := k.wr.step (xs := s) k.only.wf (Only.refl k.only.wf _) g
  repeat (first
    | refine wg_seq ?_
    | refine wg_skip ?_
    | refine wg_block ?_
    | refine wg_scope ?_
    | refine wg_inBlock ?_
    | refine wg_inScope ?_
    | refine wg_region ?_
    | refine wo_nil ?_
    | refine wo_move rfl rfl ?_
    | refine wo_assign rfl rfl ?_
    | refine wo_fieldAddr rfl rfl rfl ?_
    | refine wo_nilCheck rfl rfl ?_
    | refine wo_extract rfl rfl rfl ?_
    | refine wo_load rfl rfl rfl rfl (by assumption) rfl ?_
    | refine wo_eql rfl rfl rfl ?_
    | refine wo_neq rfl rfl rfl ?_
    | refine wo_lss rfl rfl rfl ?_
    | refine wo_gtr rfl rfl rfl ?_
    | refine wo_leq rfl rfl rfl ?_
    | refine wo_geq rfl rfl rfl ?_
    | refine wo_not rfl rfl ?_
    | refine wo_lenStr rfl rfl rfl ?_
    | refine wo_len rfl rfl rfl rfl ?_
    | refine wo_buildSlice rfl rfl rfl ?_
    | refine wo_build rfl rfl rfl ?_
    | refine wo_pick rfl rfl rfl ?_
    | refine wo_strEq rfl rfl rfl ?_
    | refine wo_strNe rfl rfl rfl ?_
    | refine wo_on rfl ?_
    | refine wo_off rfl rfl ?_
    | refine wo_offn rfl ?_)
  refine wo_store rfl rfl g.buf.cells rfl rfl rfl e1 rfl ?_
  repeat (first
    | refine wg_seq ?_
    | refine wg_skip ?_
    | refine wg_block ?_
    | refine wg_scope ?_
    | refine wg_inBlock ?_
    | refine wg_inScope ?_
    | refine wg_region ?_
    | refine wo_nil ?_
    | refine wo_move rfl rfl ?_
    | refine wo_assign rfl rfl ?_
    | refine wo_fieldAddr rfl rfl rfl ?_
    | refine wo_nilCheck rfl rfl ?_
    | refine wo_extract rfl rfl rfl ?_
    | refine wo_load rfl rfl rfl rfl (by assumption) rfl ?_
    | refine wo_eql rfl rfl rfl ?_
    | refine wo_neq rfl rfl rfl ?_
    | refine wo_lss rfl rfl rfl ?_
    | refine wo_gtr rfl rfl rfl ?_
    | refine wo_leq rfl rfl rfl ?_
    | refine wo_geq rfl rfl rfl ?_
    | refine wo_not rfl rfl ?_
    | refine wo_lenStr rfl rfl rfl ?_
    | refine wo_len rfl rfl rfl rfl ?_
    | refine wo_buildSlice rfl rfl rfl ?_
    | refine wo_build rfl rfl rfl ?_
    | refine wo_pick rfl rfl rfl ?_
    | refine wo_strEq rfl rfl rfl ?_
    | refine wo_strNe rfl rfl rfl ?_
    | refine wo_on rfl ?_
    | refine wo_off rfl rfl ?_
    | refine wo_offn rfl ?_)
  exact wg_nil rfl ⟨rfl, v', k.trans hw ⟨r1, r2, r3⟩⟩

theorem refText_spec {K : FuncId} {A : AW} {v : AV} {bs s : List Nat} (hw : Wf A) (h : Buf A 1 v bs.length (bys bs)) (hl : bs.length < 1000000) (hs : s.length < 1000000) :
    CallP (ES K) 23 [v, .str s] A fun r A1 => BStep A A1 v r bs (grp s.length ++ s) := by
  refine call_of rfl rfl rfl ?_
  repeat (first
    | refine wg_seq ?_
    | refine wg_skip ?_
    | refine wg_block ?_
    | refine wg_scope ?_
    | refine wg_inBlock ?_
    | refine wg_inScope ?_
    | refine wg_region ?_
    | refine wo_nil ?_
    | refine wo_move rfl rfl ?_
    | refine wo_assign rfl rfl ?_
    | refine wo_fieldAddr rfl rfl rfl ?_
    | refine wo_nilCheck rfl rfl ?_
    | refine wo_extract rfl rfl rfl ?_
    | refine wo_load rfl rfl rfl rfl (by assumption) rfl ?_
    | refine wo_eql rfl rfl rfl ?_
    | refine wo_neq rfl rfl rfl ?_
    | refine wo_lss rfl rfl rfl ?_
    | refine wo_gtr rfl rfl rfl ?_
    | refine wo_leq rfl rfl rfl ?_
    | refine wo_geq rfl rfl rfl ?_
    | refine wo_not rfl rfl ?_
    | refine wo_lenStr rfl rfl rfl ?_
    | refine wo_len rfl rfl rfl rfl ?_
    | refine wo_buildSlice rfl rfl rfl ?_
    | refine wo_build rfl rfl rfl ?_
    | refine wo_pick rfl rfl rfl ?_
    | refine wo_strEq rfl rfl rfl ?_
    | refine wo_strNe rfl rfl rfl ?_
    | refine wo_on rfl ?_
    | refine wo_off rfl rfl ?_
    | refine wo_offn rfl ?_)
  refine wo_conv rfl rfl rfl rfl (s.length : Int) (wrap_u64n (by omega)) ?_
  refine wo_call rfl rfl orc_cons rfl (refUint_spec hw h (by omega) (by omega)) ?_
  intro r A2 k
  have hl10 := grp_len10 (n := s.length) (by omega)
  repeat (first
    | refine wg_seq ?_
    | refine wg_skip ?_
    | refine wg_block ?_
    | refine wg_scope ?_
    | refine wg_inBlock ?_
    | refine wg_inScope ?_
    | refine wg_region ?_
    | refine wo_nil ?_
    | refine wo_move rfl rfl ?_
    | refine wo_assign rfl rfl ?_
    | refine wo_fieldAddr rfl rfl rfl ?_
    | refine wo_nilCheck rfl rfl ?_
    | refine wo_extract rfl rfl rfl ?_
    | refine wo_load rfl rfl rfl rfl (by assumption) rfl ?_
    | refine wo_eql rfl rfl rfl ?_
    | refine wo_neq rfl rfl rfl ?_
    | refine wo_lss rfl rfl rfl ?_
    | refine wo_gtr rfl rfl rfl ?_
    | refine wo_leq rfl rfl rfl ?_
    | refine wo_geq rfl rfl rfl ?_
    | refine wo_not rfl rfl ?_
    | refine wo_lenStr rfl rfl rfl ?_
    | refine wo_len rfl rfl rfl rfl ?_
    | refine wo_buildSlice rfl rfl rfl ?_
    | refine wo_build rfl rfl rfl ?_
    | refine wo_pick rfl rfl rfl ?_
    | refine wo_strEq rfl rfl rfl ?_
    | refine wo_strNe rfl rfl rfl ?_
    | refine wo_on rfl ?_
    | refine wo_off rfl rfl ?_
    | refine wo_offn rfl ?_)
  refine wo_append rfl rfl rfl rfl rfl (append_buf (de := d5) (m := s.length) (xs := bys s) rfl rfl rfl rfl k.only.wf k.buf ?_ ?_ (by decide) (room_of (by rw [List.length_append]; omega) (by decide))) ?_
  · show (bif Nat.beq 1 1 then some (len s, cellsOfStr s) else none) = _
    rw [bys_str, len_eq]
    rfl
  · rw [bys_length]; exact (Nat.mul_one _).symm
  intro v' A3 g
  repeat (first
    | refine wg_seq ?_
    | refine wg_skip ?_
    | refine wg_block ?_
    | refine wg_scope ?_
    | refine wg_inBlock ?_
    | refine wg_inScope ?_
    | refine wg_region ?_
    | refine wo_nil ?_
    | refine wo_move rfl rfl ?_
    | refine wo_assign rfl rfl ?_
    | refine wo_fieldAddr rfl rfl rfl ?_
    | refine wo_nilCheck rfl rfl ?_
    | refine wo_extract rfl rfl rfl ?_
    | refine wo_load rfl rfl rfl rfl (by assumption) rfl ?_
    | refine wo_eql rfl rfl rfl ?_
    | refine wo_neq rfl rfl rfl ?_
    | refine wo_lss rfl rfl rfl ?_
    | refine wo_gtr rfl rfl rfl ?_
    | refine wo_leq rfl rfl rfl ?_
    | refine wo_geq rfl rfl rfl ?_
    | refine wo_not rfl rfl ?_
    | refine wo_lenStr rfl rfl rfl ?_
    | refine wo_len rfl rfl rfl rfl ?_
    | refine wo_buildSlice rfl rfl rfl ?_
    | refine wo_build rfl rfl rfl ?_
    | refine wo_pick rfl rfl rfl ?_
    | refine wo_strEq rfl rfl rfl ?_
    | refine wo_strNe rfl rfl rfl ?_
    | refine wo_on rfl ?_
    | refine wo_off rfl rfl ?_
    | refine wo_offn rfl ?_)
  exact wg_ret rfl (k.trans hw (BStep.of' g (by simp; omega) (by simp [bys_append])))

/-! ### Complex numbers -/
def from8 : Nat → Nat → Nat → List Nat
  | 0, _, _ => []
  | k + 1, i, n => (n / 256 ^ i % 256) :: from8 k (i + 1) n
theorem from8_snoc : ∀ (k i n : Nat), from8 (k + 1) i n = from8 k i n ++ [n / 256 ^ (i + k) % 256]
  | 0, i, n => rfl
  | k + 1, i, n => by
    show _ :: from8 (k + 1) (i + 1) n = _
    rw [from8_snoc k (i + 1) n]
    simp only [from8, List.cons_append]
    rw [show i + 1 + k = i + (k + 1) from by omega]
theorem from8_len : ∀ k i n, (from8 k i n).length = k
  | 0, _, _ => rfl
  | k + 1, i, n => by simp [from8, from8_len k (i + 1) n]

theorem shr8 {E : Env} {A : AW} {n : Nat} {k : IntKind} : intOp E .shr .u64 (n : Int) k 8 A = .val (.int .u64 ((n / 256 : Nat) : Int)) A := by
  rw [int_shr (by decide)]
  have : ((n : Int).fdiv (2 ^ (min (8 : Int).toNat IntKind.u64.bits))) = ((n / 256 : Nat) : Int) := by
    show (n : Int).fdiv 256 = _
    rw [Int.fdiv_eq_ediv_of_nonneg _ (by decide)]
    omega
  rw [this]
theorem shr8i {E : Env} {A : AW} {n i : Nat} {k : IntKind} (h : i < 8) : intOp E .shr .u64 (n : Int) k ((8 * i : Nat) : Int) A = .val (.int .u64 ((n / 256 ^ i : Nat) : Int)) A := by
  rw [int_shr (by omega)]
  have e : min ((8 * i : Nat) : Int).toNat IntKind.u64.bits = 8 * i := by
    show min ((8 * i : Nat) : Int).toNat 64 = _
    omega
  rw [e]
  have : ((n : Int).fdiv (2 ^ (8 * i))) = ((n / 256 ^ i : Nat) : Int) := by
    rw [Int.pow_mul, Int.fdiv_eq_ediv_of_nonneg _ (Int.pow_nonneg (by decide))]
    rw [Int.natCast_ediv, Int.natCast_pow]
    rfl
  rw [this]

theorem eight_spec {K : FuncId} {A : AW} {v : AV} {bs : List Nat} {n : Nat} (hw : Wf A) (h : Buf A 1 v bs.length (bys bs)) (hl : bs.length < 1000000) :
    CallP (ES K) 66 [v, .int .u64 (n : Int)] A fun r A1 => BStep A A1 v r bs (from8 8 0 n) := by
  refine call_of rfl rfl rfl ?_
  repeat (first
    | refine wg_seq ?_
    | refine wg_skip ?_
    | refine wg_block ?_
    | refine wg_scope ?_
    | refine wg_inBlock ?_
    | refine wg_inScope ?_
    | refine wg_region ?_
    | refine wo_nil ?_
    | refine wo_move rfl rfl ?_
    | refine wo_assign rfl rfl ?_
    | refine wo_fieldAddr rfl rfl rfl ?_
    | refine wo_nilCheck rfl rfl ?_
    | refine wo_extract rfl rfl rfl ?_
    | refine wo_load rfl rfl rfl rfl (by assumption) rfl ?_
    | refine wo_eql rfl rfl rfl ?_
    | refine wo_neq rfl rfl rfl ?_
    | refine wo_lss rfl rfl rfl ?_
    | refine wo_gtr rfl rfl rfl ?_
    | refine wo_leq rfl rfl rfl ?_
    | refine wo_geq rfl rfl rfl ?_
    | refine wo_not rfl rfl ?_
    | refine wo_lenStr rfl rfl rfl ?_
    | refine wo_len rfl rfl rfl rfl ?_
    | refine wo_buildSlice rfl rfl rfl ?_
    | refine wo_build rfl rfl rfl ?_
    | refine wo_pick rfl rfl rfl ?_
    | refine wo_strEq rfl rfl rfl ?_
    | refine wo_strNe rfl rfl rfl ?_
    | refine wo_on rfl ?_
    | refine wo_off rfl rfl ?_
    | refine wo_offn rfl ?_)
  refine wg_loop ?_
  refine wg_le (.put 0 v (.put 1 (.int .u64 (n : Int)) (.put 5 (.int .i64 ((0 : Nat) : Int)) .nil))) ?_ ⟨rfl, rfl, rfl, trivial⟩
  refine wg_ind (ι := Nat × AV) (fun i => 8 - i.1) (fun i => .put 0 i.2 (.put 1 (.int .u64 (n : Int)) (.put 5 (.int .i64 (i.1 : Int)) .nil)))
    (fun i A1 => i.1 ≤ 8 ∧ BStep A A1 v i.2 bs (from8 i.1 0 n)) ?_ (0, v) A ⟨Nat.zero_le _, BStep.refl hw h⟩
  rintro ⟨i, u⟩ A1 ⟨hi, hs⟩ ih
  have hi : i ≤ 8 := hi
  have hs : BStep A A1 v u bs (from8 i 0 n) := hs
  repeat (first
    | refine wg_seq ?_
    | refine wg_skip ?_
    | refine wg_block ?_
    | refine wg_scope ?_
    | refine wg_inBlock ?_
    | refine wg_inScope ?_
    | refine wg_region ?_
    | refine wo_nil ?_
    | refine wo_move rfl rfl ?_
    | refine wo_assign rfl rfl ?_
    | refine wo_fieldAddr rfl rfl rfl ?_
    | refine wo_nilCheck rfl rfl ?_
    | refine wo_extract rfl rfl rfl ?_
    | refine wo_load rfl rfl rfl rfl (by assumption) rfl ?_
    | refine wo_eql rfl rfl rfl ?_
    | refine wo_neq rfl rfl rfl ?_
    | refine wo_lss rfl rfl rfl ?_
    | refine wo_gtr rfl rfl rfl ?_
    | refine wo_leq rfl rfl rfl ?_
    | refine wo_geq rfl rfl rfl ?_
    | refine wo_not rfl rfl ?_
    | refine wo_lenStr rfl rfl rfl ?_
    | refine wo_len rfl rfl rfl rfl ?_
    | refine wo_buildSlice rfl rfl rfl ?_
    | refine wo_build rfl rfl rfl ?_
    | refine wo_pick rfl rfl rfl ?_
    | refine wo_strEq rfl rfl rfl ?_
    | refine wo_strNe rfl rfl rfl ?_
    | refine wo_on rfl ?_
    | refine wo_off rfl rfl ?_
    | refine wo_offn rfl ?_)
  refine wg_dec rfl (fun hlt => ?_) fun hge => ?_
  · have hlt : i < 8 := Int.ofNat_lt.1 hlt
    repeat (first
      | refine wg_seq ?_
      | refine wg_skip ?_
      | refine wg_block ?_
      | refine wg_scope ?_
      | refine wg_inBlock ?_
      | refine wg_inScope ?_
      | refine wg_region ?_
      | refine wo_nil ?_
      | refine wo_move rfl rfl ?_
      | refine wo_assign rfl rfl ?_
      | refine wo_fieldAddr rfl rfl rfl ?_
      | refine wo_nilCheck rfl rfl ?_
      | refine wo_extract rfl rfl rfl ?_
      | refine wo_load rfl rfl rfl rfl (by assumption) rfl ?_
      | refine wo_eql rfl rfl rfl ?_
      | refine wo_neq rfl rfl rfl ?_
      | refine wo_lss rfl rfl rfl ?_
      | refine wo_gtr rfl rfl rfl ?_
      | refine wo_leq rfl rfl rfl ?_
      | refine wo_geq rfl rfl rfl ?_
      | refine wo_not rfl rfl ?_
      | refine wo_lenStr rfl rfl rfl ?_
      | refine wo_len rfl rfl rfl rfl ?_
      | refine wo_buildSlice rfl rfl rfl ?_
      | refine wo_build rfl rfl rfl ?_
      | refine wo_pick rfl rfl rfl ?_
      | refine wo_strEq rfl rfl rfl ?_
      | refine wo_strNe rfl rfl rfl ?_
      | refine wo_on rfl ?_
      | refine wo_off rfl rfl ?_
      | refine wo_offn rfl ?_)
    refine wo_bin rfl rfl rfl (v := .int .i64 ((8 * i : Nat) : Int)) (by rw [int_mul, wrap_i64 (by omega) (by omega)]; rfl) ?_
    refine wo_bin rfl rfl rfl (shr8i hlt) ?_
    refine wo_conv rfl rfl rfl rfl ((n / 256 ^ i % 256 : Nat) : Int) (wrap_u8n _) ?_
    repeat (first
      | refine wg_seq ?_
      | refine wg_skip ?_
      | refine wg_block ?_
      | refine wg_scope ?_
      | refine wg_inBlock ?_
      | refine wg_inScope ?_
      | refine wg_region ?_
      | refine wo_nil ?_
      | refine wo_move rfl rfl ?_
      | refine wo_assign rfl rfl ?_
      | refine wo_fieldAddr rfl rfl rfl ?_
      | refine wo_nilCheck rfl rfl ?_
      | refine wo_extract rfl rfl rfl ?_
      | refine wo_load rfl rfl rfl rfl (by assumption) rfl ?_
      | refine wo_eql rfl rfl rfl ?_
      | refine wo_neq rfl rfl rfl ?_
      | refine wo_lss rfl rfl rfl ?_
      | refine wo_gtr rfl rfl rfl ?_
      | refine wo_leq rfl rfl rfl ?_
      | refine wo_geq rfl rfl rfl ?_
      | refine wo_not rfl rfl ?_
      | refine wo_lenStr rfl rfl rfl ?_
      | refine wo_len rfl rfl rfl rfl ?_
      | refine wo_buildSlice rfl rfl rfl ?_
      | refine wo_build rfl rfl rfl ?_
      | refine wo_pick rfl rfl rfl ?_
      | refine wo_strEq rfl rfl rfl ?_
      | refine wo_strNe rfl rfl rfl ?_
      | refine wo_on rfl ?_
      | refine wo_off rfl rfl ?_
      | refine wo_offn rfl ?_)
    refine wo_append rfl rfl rfl rfl rfl (append_one (de := d5) rfl rfl rfl rfl hs.only.wf hs.buf rfl (by decide) (room_of (by rw [List.length_append, from8_len]; omega) (by decide))) ?_
    intro v' A2 g
    have k := BStep.of' (bs := bs ++ from8 i 0 n) (xs := [n / 256 ^ i % 256]) g (by simp; omega) (by rw [bys_append (bs ++ from8 i 0 n)]; rfl)
    repeat (first
      | refine wg_seq ?_
      | refine wg_skip ?_
      | refine wg_block ?_
      | refine wg_scope ?_
      | refine wg_inBlock ?_
      | refine wg_inScope ?_
      | refine wg_region ?_
      | refine wo_nil ?_
      | refine wo_move rfl rfl ?_
      | refine wo_assign rfl rfl ?_
      | refine wo_fieldAddr rfl rfl rfl ?_
      | refine wo_nilCheck rfl rfl ?_
      | refine wo_extract rfl rfl rfl ?_
      | refine wo_load rfl rfl rfl rfl (by assumption) rfl ?_
      | refine wo_eql rfl rfl rfl ?_
      | refine wo_neq rfl rfl rfl ?_
      | refine wo_lss rfl rfl rfl ?_
      | refine wo_gtr rfl rfl rfl ?_
      | refine wo_leq rfl rfl rfl ?_
      | refine wo_geq rfl rfl rfl ?_
      | refine wo_not rfl rfl ?_
      | refine wo_lenStr rfl rfl rfl ?_
      | refine wo_len rfl rfl rfl rfl ?_
      | refine wo_buildSlice rfl rfl rfl ?_
      | refine wo_build rfl rfl rfl ?_
      | refine wo_pick rfl rfl rfl ?_
      | refine wo_strEq rfl rfl rfl ?_
      | refine wo_strNe rfl rfl rfl ?_
      | refine wo_on rfl ?_
      | refine wo_off rfl rfl ?_
      | refine wo_offn rfl ?_)
    refine wo_add rfl rfl rfl (by omega) (by omega) ?_
    repeat (first
      | refine wg_seq ?_
      | refine wg_skip ?_
      | refine wg_block ?_
      | refine wg_scope ?_
      | refine wg_inBlock ?_
      | refine wg_inScope ?_
      | refine wg_region ?_
      | refine wo_nil ?_
      | refine wo_move rfl rfl ?_
      | refine wo_assign rfl rfl ?_
      | refine wo_fieldAddr rfl rfl rfl ?_
      | refine wo_nilCheck rfl rfl ?_
      | refine wo_extract rfl rfl rfl ?_
      | refine wo_load rfl rfl rfl rfl (by assumption) rfl ?_
      | refine wo_eql rfl rfl rfl ?_
      | refine wo_neq rfl rfl rfl ?_
      | refine wo_lss rfl rfl rfl ?_
      | refine wo_gtr rfl rfl rfl ?_
      | refine wo_leq rfl rfl rfl ?_
      | refine wo_geq rfl rfl rfl ?_
      | refine wo_not rfl rfl ?_
      | refine wo_lenStr rfl rfl rfl ?_
      | refine wo_len rfl rfl rfl rfl ?_
      | refine wo_buildSlice rfl rfl rfl ?_
      | refine wo_build rfl rfl rfl ?_
      | refine wo_pick rfl rfl rfl ?_
      | refine wo_strEq rfl rfl rfl ?_
      | refine wo_strNe rfl rfl rfl ?_
      | refine wo_on rfl ?_
      | refine wo_off rfl rfl ?_
      | refine wo_offn rfl ?_)
    refine wg_inLoop ?_
    refine wg_le (.put 0 v' (.put 1 (.int .u64 (n : Int)) (.put 5 (.int .i64 ((i + 1 : Nat) : Int)) .nil))) ?_ ⟨rfl, rfl, rfl, trivial⟩
    refine ih (i + 1, v') A2 (by simp only; omega) ⟨by simp only; omega, ?_⟩
    have := hs.trans hw k
    rw [show [n / 256 ^ i % 256] = [n / 256 ^ (0 + i) % 256] from by rw [Nat.zero_add], ← from8_snoc] at this
    exact this
  · have hge : i = 8 := by
      have : ¬ (i : Int) < 8 := hge
      omega
    subst hge
    refine wg_exit rfl ?_
    repeat (first
      | refine wg_seq ?_
      | refine wg_skip ?_
      | refine wg_block ?_
      | refine wg_scope ?_
      | refine wg_inBlock ?_
      | refine wg_inScope ?_
      | refine wg_region ?_
      | refine wo_nil ?_
      | refine wo_move rfl rfl ?_
      | refine wo_assign rfl rfl ?_
      | refine wo_fieldAddr rfl rfl rfl ?_
      | refine wo_nilCheck rfl rfl ?_
      | refine wo_extract rfl rfl rfl ?_
      | refine wo_load rfl rfl rfl rfl (by assumption) rfl ?_
      | refine wo_eql rfl rfl rfl ?_
      | refine wo_neq rfl rfl rfl ?_
      | refine wo_lss rfl rfl rfl ?_
      | refine wo_gtr rfl rfl rfl ?_
      | refine wo_leq rfl rfl rfl ?_
      | refine wo_geq rfl rfl rfl ?_
      | refine wo_not rfl rfl ?_
      | refine wo_lenStr rfl rfl rfl ?_
      | refine wo_len rfl rfl rfl rfl ?_
      | refine wo_buildSlice rfl rfl rfl ?_
      | refine wo_build rfl rfl rfl ?_
      | refine wo_pick rfl rfl rfl ?_
      | refine wo_strEq rfl rfl rfl ?_
      | refine wo_strNe rfl rfl rfl ?_
      | refine wo_on rfl ?_
      | refine wo_off rfl rfl ?_
      | refine wo_offn rfl ?_)
    exact wg_ret rfl hs
end Go.Proofs.Ytejmdglmldjliaa.Ae
