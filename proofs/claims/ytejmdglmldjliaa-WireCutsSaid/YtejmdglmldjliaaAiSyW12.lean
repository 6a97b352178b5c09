/-
  WHAT IS CUT OFF IS TOO SHORT: the law's walk.
-/
import Derived.Test.YtejmdglmldjliaaAiSyW10
namespace Go.Proofs.Ytejmdglmldjliaa.Ae
open Go.AE
set_option linter.unusedVariables false
set_option maxRecDepth 100000

theorem cuts_spec {A : AW} {s : List Nat} {z : Int} {cut : Nat} (hw : Wf A) (hs : ∀ b ∈ s, b < 256) (h1 : -9223372036854775808 ≤ z) (h2 : z < 9223372036854775808) (hc : cut < 256) :
    CallP (ES 13) 8 [.str s, .int .i64 z, .int .u8 (cut : Int)] A fun r A1 => r = .bool true := by
  refine call_of rfl rfl rfl ?_
  repeat (first
    | refine wg_seq ?_
    | refine wg_skip ?_
    | refine wg_block ?_
    | refine wg_scope ?_
    | refine wg_inBlock ?_
    | refine wg_inScope ?_
    | refine wg_region ?_
    | refine wo_nil ?_
    | refine wo_move rfl rfl ?_
    | refine wo_assign rfl rfl ?_
    | refine wo_fieldAddr rfl rfl rfl ?_
    | refine wo_nilCheck rfl rfl ?_
    | refine wo_extract rfl rfl rfl ?_
    | refine wo_load rfl rfl rfl rfl (by assumption) rfl ?_
    | refine wo_eql rfl rfl rfl ?_
    | refine wo_neq rfl rfl rfl ?_
    | refine wo_lss rfl rfl rfl ?_
    | refine wo_gtr rfl rfl rfl ?_
    | refine wo_leq rfl rfl rfl ?_
    | refine wo_geq rfl rfl rfl ?_
    | refine wo_not rfl rfl ?_
    | refine wo_lenStr rfl rfl rfl ?_
    | refine wo_len rfl rfl rfl rfl ?_
    | refine wo_buildSlice rfl rfl rfl ?_
    | refine wo_build rfl rfl rfl ?_
    | refine wo_pick rfl rfl rfl ?_
    | refine wo_strEq rfl rfl rfl ?_
    | refine wo_strNe rfl rfl rfl ?_
    | refine wo_on rfl ?_
    | refine wo_off rfl rfl ?_
    | refine wo_offn rfl ?_)
  refine wo_orc rfl rfl rfl rfl ?_
  repeat (first
    | refine wg_seq ?_
    | refine wg_skip ?_
    | refine wg_block ?_
    | refine wg_scope ?_
    | refine wg_inBlock ?_
    | refine wg_inScope ?_
    | refine wg_region ?_
    | refine wo_nil ?_
    | refine wo_move rfl rfl ?_
    | refine wo_assign rfl rfl ?_
    | refine wo_fieldAddr rfl rfl rfl ?_
    | refine wo_nilCheck rfl rfl ?_
    | refine wo_extract rfl rfl rfl ?_
    | refine wo_load rfl rfl rfl rfl (by assumption) rfl ?_
    | refine wo_eql rfl rfl rfl ?_
    | refine wo_neq rfl rfl rfl ?_
    | refine wo_lss rfl rfl rfl ?_
    | refine wo_gtr rfl rfl rfl ?_
    | refine wo_leq rfl rfl rfl ?_
    | refine wo_geq rfl rfl rfl ?_
    | refine wo_not rfl rfl ?_
    | refine wo_lenStr rfl rfl rfl ?_
    | refine wo_len rfl rfl rfl rfl ?_
    | refine wo_buildSlice rfl rfl rfl ?_
    | refine wo_build rfl rfl rfl ?_
    | refine wo_pick rfl rfl rfl ?_
    | refine wo_strEq rfl rfl rfl ?_
    | refine wo_strNe rfl rfl rfl ?_
    | refine wo_on rfl ?_
    | refine wo_off rfl rfl ?_
    | refine wo_offn rfl ?_)
  refine wg_false rfl ?_
  repeat (first
    | refine wg_seq ?_
    | refine wg_skip ?_
    | refine wg_block ?_
    | refine wg_scope ?_
    | refine wg_inBlock ?_
    | refine wg_inScope ?_
    | refine wg_region ?_
    | refine wo_nil ?_
    | refine wo_move rfl rfl ?_
    | refine wo_assign rfl rfl ?_
    | refine wo_fieldAddr rfl rfl rfl ?_
    | refine wo_nilCheck rfl rfl ?_
    | refine wo_extract rfl rfl rfl ?_
    | refine wo_load rfl rfl rfl rfl (by assumption) rfl ?_
    | refine wo_eql rfl rfl rfl ?_
    | refine wo_neq rfl rfl rfl ?_
    | refine wo_lss rfl rfl rfl ?_
    | refine wo_gtr rfl rfl rfl ?_
    | refine wo_leq rfl rfl rfl ?_
    | refine wo_geq rfl rfl rfl ?_
    | refine wo_not rfl rfl ?_
    | refine wo_lenStr rfl rfl rfl ?_
    | refine wo_len rfl rfl rfl rfl ?_
    | refine wo_buildSlice rfl rfl rfl ?_
    | refine wo_build rfl rfl rfl ?_
    | refine wo_pick rfl rfl rfl ?_
    | refine wo_strEq rfl rfl rfl ?_
    | refine wo_strNe rfl rfl rfl ?_
    | refine wo_on rfl ?_
    | refine wo_off rfl rfl ?_
    | refine wo_offn rfl ?_)
  refine wg_dec rfl (fun h200 => ?_) fun h200 => ?_
  · repeat (first
      | refine wg_seq ?_
      | refine wg_skip ?_
      | refine wg_block ?_
      | refine wg_scope ?_
      | refine wg_inBlock ?_
      | refine wg_inScope ?_
      | refine wg_region ?_
      | refine wo_nil ?_
      | refine wo_move rfl rfl ?_
      | refine wo_assign rfl rfl ?_
      | refine wo_fieldAddr rfl rfl rfl ?_
      | refine wo_nilCheck rfl rfl ?_
      | refine wo_extract rfl rfl rfl ?_
      | refine wo_load rfl rfl rfl rfl (by assumption) rfl ?_
      | refine wo_eql rfl rfl rfl ?_
      | refine wo_neq rfl rfl rfl ?_
      | refine wo_lss rfl rfl rfl ?_
      | refine wo_gtr rfl rfl rfl ?_
      | refine wo_leq rfl rfl rfl ?_
      | refine wo_geq rfl rfl rfl ?_
      | refine wo_not rfl rfl ?_
      | refine wo_lenStr rfl rfl rfl ?_
      | refine wo_len rfl rfl rfl rfl ?_
      | refine wo_buildSlice rfl rfl rfl ?_
      | refine wo_build rfl rfl rfl ?_
      | refine wo_pick rfl rfl rfl ?_
      | refine wo_strEq rfl rfl rfl ?_
      | refine wo_strNe rfl rfl rfl ?_
      | refine wo_on rfl ?_
      | refine wo_off rfl rfl ?_
      | refine wo_offn rfl ?_)
    exact wg_ret rfl rfl
  have h200 : s.length ≤ 200 := by
    have : ¬ (200 : Int) < (s.length : Int) := h200
    omega
  have g1 := grp_len10 (n := s.length) (by omega)
  have g2 := grp_len10 (zz_lt h1 h2)
  have g3 : 0 < (grp (zz z)).length := by
    rw [grp]
    split <;> simp
  repeat (first
    | refine wg_seq ?_
    | refine wg_skip ?_
    | refine wg_block ?_
    | refine wg_scope ?_
    | refine wg_inBlock ?_
    | refine wg_inScope ?_
    | refine wg_region ?_
    | refine wo_nil ?_
    | refine wo_move rfl rfl ?_
    | refine wo_assign rfl rfl ?_
    | refine wo_fieldAddr rfl rfl rfl ?_
    | refine wo_nilCheck rfl rfl ?_
    | refine wo_extract rfl rfl rfl ?_
    | refine wo_load rfl rfl rfl rfl (by assumption) rfl ?_
    | refine wo_eql rfl rfl rfl ?_
    | refine wo_neq rfl rfl rfl ?_
    | refine wo_lss rfl rfl rfl ?_
    | refine wo_gtr rfl rfl rfl ?_
    | refine wo_leq rfl rfl rfl ?_
    | refine wo_geq rfl rfl rfl ?_
    | refine wo_not rfl rfl ?_
    | refine wo_lenStr rfl rfl rfl ?_
    | refine wo_len rfl rfl rfl rfl ?_
    | refine wo_buildSlice rfl rfl rfl ?_
    | refine wo_build rfl rfl rfl ?_
    | refine wo_pick rfl rfl rfl ?_
    | refine wo_strEq rfl rfl rfl ?_
    | refine wo_strNe rfl rfl rfl ?_
    | refine wo_on rfl ?_
    | refine wo_off rfl rfl ?_
    | refine wo_offn rfl ?_)
  refine wo_call rfl rfl rfl rfl (new_spec (by decide) hw) ?_
  rintro r A1 ⟨rfl, hwr, ho⟩
  generalize A.nxt = fw at hwr
  repeat (first
    | refine wg_seq ?_
    | refine wg_skip ?_
    | refine wg_block ?_
    | refine wg_scope ?_
    | refine wg_inBlock ?_
    | refine wg_inScope ?_
    | refine wg_region ?_
    | refine wo_nil ?_
    | refine wo_move rfl rfl ?_
    | refine wo_assign rfl rfl ?_
    | refine wo_fieldAddr rfl rfl rfl ?_
    | refine wo_nilCheck rfl rfl ?_
    | refine wo_extract rfl rfl rfl ?_
    | refine wo_load rfl rfl rfl rfl (by assumption) rfl ?_
    | refine wo_eql rfl rfl rfl ?_
    | refine wo_neq rfl rfl rfl ?_
    | refine wo_lss rfl rfl rfl ?_
    | refine wo_gtr rfl rfl rfl ?_
    | refine wo_leq rfl rfl rfl ?_
    | refine wo_geq rfl rfl rfl ?_
    | refine wo_not rfl rfl ?_
    | refine wo_lenStr rfl rfl rfl ?_
    | refine wo_len rfl rfl rfl rfl ?_
    | refine wo_buildSlice rfl rfl rfl ?_
    | refine wo_build rfl rfl rfl ?_
    | refine wo_pick rfl rfl rfl ?_
    | refine wo_strEq rfl rfl rfl ?_
    | refine wo_strNe rfl rfl rfl ?_
    | refine wo_on rfl ?_
    | refine wo_off rfl rfl ?_
    | refine wo_offn rfl ?_)
  refine wo_call rfl rfl orc_cons rfl (text_spec ho.wf hwr (by decide) (by omega)) ?_
  rintro r A2 ⟨rfl, w2, k2⟩
  have wr2 : Wr A2 fw w2 (grp s.length ++ s) := k2.wr
  repeat (first
    | refine wg_seq ?_
    | refine wg_skip ?_
    | refine wg_block ?_
    | refine wg_scope ?_
    | refine wg_inBlock ?_
    | refine wg_inScope ?_
    | refine wg_region ?_
    | refine wo_nil ?_
    | refine wo_move rfl rfl ?_
    | refine wo_assign rfl rfl ?_
    | refine wo_fieldAddr rfl rfl rfl ?_
    | refine wo_nilCheck rfl rfl ?_
    | refine wo_extract rfl rfl rfl ?_
    | refine wo_load rfl rfl rfl rfl (by assumption) rfl ?_
    | refine wo_eql rfl rfl rfl ?_
    | refine wo_neq rfl rfl rfl ?_
    | refine wo_lss rfl rfl rfl ?_
    | refine wo_gtr rfl rfl rfl ?_
    | refine wo_leq rfl rfl rfl ?_
    | refine wo_geq rfl rfl rfl ?_
    | refine wo_not rfl rfl ?_
    | refine wo_lenStr rfl rfl rfl ?_
    | refine wo_len rfl rfl rfl rfl ?_
    | refine wo_buildSlice rfl rfl rfl ?_
    | refine wo_build rfl rfl rfl ?_
    | refine wo_pick rfl rfl rfl ?_
    | refine wo_strEq rfl rfl rfl ?_
    | refine wo_strNe rfl rfl rfl ?_
    | refine wo_on rfl ?_
    | refine wo_off rfl rfl ?_
    | refine wo_offn rfl ?_)
  refine wo_call rfl rfl orc_cons rfl (bytes_spec k2.only.wf wr2 (by simp only [List.length_append]; omega)) ?_
  rintro b1 A3 ⟨hb1, ho3, hg3⟩
  have wr3 := wr2.keep ho3 fun _ _ h => h
  repeat (first
    | refine wg_seq ?_
    | refine wg_skip ?_
    | refine wg_block ?_
    | refine wg_scope ?_
    | refine wg_inBlock ?_
    | refine wg_inScope ?_
    | refine wg_region ?_
    | refine wo_nil ?_
    | refine wo_move rfl rfl ?_
    | refine wo_assign rfl rfl ?_
    | refine wo_fieldAddr rfl rfl rfl ?_
    | refine wo_nilCheck rfl rfl ?_
    | refine wo_extract rfl rfl rfl ?_
    | refine wo_load rfl rfl rfl rfl (by assumption) rfl ?_
    | refine wo_eql rfl rfl rfl ?_
    | refine wo_neq rfl rfl rfl ?_
    | refine wo_lss rfl rfl rfl ?_
    | refine wo_gtr rfl rfl rfl ?_
    | refine wo_leq rfl rfl rfl ?_
    | refine wo_geq rfl rfl rfl ?_
    | refine wo_not rfl rfl ?_
    | refine wo_lenStr rfl rfl rfl ?_
    | refine wo_len rfl rfl rfl rfl ?_
    | refine wo_buildSlice rfl rfl rfl ?_
    | refine wo_build rfl rfl rfl ?_
    | refine wo_pick rfl rfl rfl ?_
    | refine wo_strEq rfl rfl rfl ?_
    | refine wo_strNe rfl rfl rfl ?_
    | refine wo_on rfl ?_
    | refine wo_off rfl rfl ?_
    | refine wo_offn rfl ?_)
  refine wo_len rfl rfl rfl hb1.lenV ?_
  repeat (first
    | refine wg_seq ?_
    | refine wg_skip ?_
    | refine wg_block ?_
    | refine wg_scope ?_
    | refine wg_inBlock ?_
    | refine wg_inScope ?_
    | refine wg_region ?_
    | refine wo_nil ?_
    | refine wo_move rfl rfl ?_
    | refine wo_assign rfl rfl ?_
    | refine wo_fieldAddr rfl rfl rfl ?_
    | refine wo_nilCheck rfl rfl ?_
    | refine wo_extract rfl rfl rfl ?_
    | refine wo_load rfl rfl rfl rfl (by assumption) rfl ?_
    | refine wo_eql rfl rfl rfl ?_
    | refine wo_neq rfl rfl rfl ?_
    | refine wo_lss rfl rfl rfl ?_
    | refine wo_gtr rfl rfl rfl ?_
    | refine wo_leq rfl rfl rfl ?_
    | refine wo_geq rfl rfl rfl ?_
    | refine wo_not rfl rfl ?_
    | refine wo_lenStr rfl rfl rfl ?_
    | refine wo_len rfl rfl rfl rfl ?_
    | refine wo_buildSlice rfl rfl rfl ?_
    | refine wo_build rfl rfl rfl ?_
    | refine wo_pick rfl rfl rfl ?_
    | refine wo_strEq rfl rfl rfl ?_
    | refine wo_strNe rfl rfl rfl ?_
    | refine wo_on rfl ?_
    | refine wo_off rfl rfl ?_
    | refine wo_offn rfl ?_)
  refine wo_call rfl rfl orc_cons rfl (int_spec ho3.wf wr3 (by simp only [List.length_append]; omega) h1 h2) ?_
  rintro r A4 ⟨rfl, w4, k4⟩
  repeat (first
    | refine wg_seq ?_
    | refine wg_skip ?_
    | refine wg_block ?_
    | refine wg_scope ?_
    | refine wg_inBlock ?_
    | refine wg_inScope ?_
    | refine wg_region ?_
    | refine wo_nil ?_
    | refine wo_move rfl rfl ?_
    | refine wo_assign rfl rfl ?_
    | refine wo_fieldAddr rfl rfl rfl ?_
    | refine wo_nilCheck rfl rfl ?_
    | refine wo_extract rfl rfl rfl ?_
    | refine wo_load rfl rfl rfl rfl (by assumption) rfl ?_
    | refine wo_eql rfl rfl rfl ?_
    | refine wo_neq rfl rfl rfl ?_
    | refine wo_lss rfl rfl rfl ?_
    | refine wo_gtr rfl rfl rfl ?_
    | refine wo_leq rfl rfl rfl ?_
    | refine wo_geq rfl rfl rfl ?_
    | refine wo_not rfl rfl ?_
    | refine wo_lenStr rfl rfl rfl ?_
    | refine wo_len rfl rfl rfl rfl ?_
    | refine wo_buildSlice rfl rfl rfl ?_
    | refine wo_build rfl rfl rfl ?_
    | refine wo_pick rfl rfl rfl ?_
    | refine wo_strEq rfl rfl rfl ?_
    | refine wo_strNe rfl rfl rfl ?_
    | refine wo_on rfl ?_
    | refine wo_off rfl rfl ?_
    | refine wo_offn rfl ?_)
  refine wo_call rfl rfl orc_cons rfl (bytes_spec k4.only.wf k4.wr (by simp only [List.length_append]; omega)) ?_
  rintro b2 A5 ⟨hb2, ho5, hg5⟩
  generalize hall : (grp s.length ++ s) ++ grp (zz z) = all at hb2
  have hlen : all.length = (grp s.length ++ s).length + (grp (zz z)).length := by rw [← hall, List.length_append]
  have hgs : (grp s.length ++ s).length ≤ 210 := by rw [List.length_append]; omega
  have h256 : ∀ b ∈ all, b < 256 := by
    intro b hb
    rw [← hall] at hb
    rcases List.mem_append.1 hb with hb | hb
    · rcases List.mem_append.1 hb with hb | hb
      · exact grp_256 _ b hb
      · exact hs b hb
    · exact grp_256 _ b hb
  repeat (first
    | refine wg_seq ?_
    | refine wg_skip ?_
    | refine wg_block ?_
    | refine wg_scope ?_
    | refine wg_inBlock ?_
    | refine wg_inScope ?_
    | refine wg_region ?_
    | refine wo_nil ?_
    | refine wo_move rfl rfl ?_
    | refine wo_assign rfl rfl ?_
    | refine wo_fieldAddr rfl rfl rfl ?_
    | refine wo_nilCheck rfl rfl ?_
    | refine wo_extract rfl rfl rfl ?_
    | refine wo_load rfl rfl rfl rfl (by assumption) rfl ?_
    | refine wo_eql rfl rfl rfl ?_
    | refine wo_neq rfl rfl rfl ?_
    | refine wo_lss rfl rfl rfl ?_
    | refine wo_gtr rfl rfl rfl ?_
    | refine wo_leq rfl rfl rfl ?_
    | refine wo_geq rfl rfl rfl ?_
    | refine wo_not rfl rfl ?_
    | refine wo_lenStr rfl rfl rfl ?_
    | refine wo_len rfl rfl rfl rfl ?_
    | refine wo_buildSlice rfl rfl rfl ?_
    | refine wo_build rfl rfl rfl ?_
    | refine wo_pick rfl rfl rfl ?_
    | refine wo_strEq rfl rfl rfl ?_
    | refine wo_strNe rfl rfl rfl ?_
    | refine wo_on rfl ?_
    | refine wo_off rfl rfl ?_
    | refine wo_offn rfl ?_)
  refine wo_conv rfl rfl rfl rfl (cut : Int) (wrap_i64 (by omega) (by omega)) ?_
  repeat (first
    | refine wg_seq ?_
    | refine wg_skip ?_
    | refine wg_block ?_
    | refine wg_scope ?_
    | refine wg_inBlock ?_
    | refine wg_inScope ?_
    | refine wg_region ?_
    | refine wo_nil ?_
    | refine wo_move rfl rfl ?_
    | refine wo_assign rfl rfl ?_
    | refine wo_fieldAddr rfl rfl rfl ?_
    | refine wo_nilCheck rfl rfl ?_
    | refine wo_extract rfl rfl rfl ?_
    | refine wo_load rfl rfl rfl rfl (by assumption) rfl ?_
    | refine wo_eql rfl rfl rfl ?_
    | refine wo_neq rfl rfl rfl ?_
    | refine wo_lss rfl rfl rfl ?_
    | refine wo_gtr rfl rfl rfl ?_
    | refine wo_leq rfl rfl rfl ?_
    | refine wo_geq rfl rfl rfl ?_
    | refine wo_not rfl rfl ?_
    | refine wo_lenStr rfl rfl rfl ?_
    | refine wo_len rfl rfl rfl rfl ?_
    | refine wo_buildSlice rfl rfl rfl ?_
    | refine wo_build rfl rfl rfl ?_
    | refine wo_pick rfl rfl rfl ?_
    | refine wo_strEq rfl rfl rfl ?_
    | refine wo_strNe rfl rfl rfl ?_
    | refine wo_on rfl ?_
    | refine wo_off rfl rfl ?_
    | refine wo_offn rfl ?_)
  refine wo_len rfl rfl rfl hb2.lenV ?_
  refine wo_bin rfl rfl rfl (v := .int .i64 ((cut % all.length : Nat) : Int)) (by rw [int_rem (by omega)]; rfl) ?_
  generalize hk : cut % all.length = k
  have hkl : k < all.length := by
    rw [← hk]
    exact Nat.mod_lt _ (by omega)
  repeat (first
    | refine wg_seq ?_
    | refine wg_skip ?_
    | refine wg_block ?_
    | refine wg_scope ?_
    | refine wg_inBlock ?_
    | refine wg_inScope ?_
    | refine wg_region ?_
    | refine wo_nil ?_
    | refine wo_move rfl rfl ?_
    | refine wo_assign rfl rfl ?_
    | refine wo_fieldAddr rfl rfl rfl ?_
    | refine wo_nilCheck rfl rfl ?_
    | refine wo_extract rfl rfl rfl ?_
    | refine wo_load rfl rfl rfl rfl (by assumption) rfl ?_
    | refine wo_eql rfl rfl rfl ?_
    | refine wo_neq rfl rfl rfl ?_
    | refine wo_lss rfl rfl rfl ?_
    | refine wo_gtr rfl rfl rfl ?_
    | refine wo_leq rfl rfl rfl ?_
    | refine wo_geq rfl rfl rfl ?_
    | refine wo_not rfl rfl ?_
    | refine wo_lenStr rfl rfl rfl ?_
    | refine wo_len rfl rfl rfl rfl ?_
    | refine wo_buildSlice rfl rfl rfl ?_
    | refine wo_build rfl rfl rfl ?_
    | refine wo_pick rfl rfl rfl ?_
    | refine wo_strEq rfl rfl rfl ?_
    | refine wo_strNe rfl rfl rfl ?_
    | refine wo_on rfl ?_
    | refine wo_off rfl rfl ?_
    | refine wo_offn rfl ?_)
  refine wo_slice rfl rfl rfl rfl rfl (Full.take (de := d5) (k := k) rfl rfl rfl hb2.full (by omega)) ?_
  rintro x ⟨hx, _⟩
  have hx : Row A5 1 x (all.take k).length (bys (all.take k)) := by
    have : Row A5 1 x k ((bys all).take (k * 1)) := hx
    rw [Nat.mul_one] at this
    rw [List.length_take, Nat.min_eq_left (by omega)]
    unfold bys at this ⊢
    rw [List.map_take]
    exact this
  refine wo_call rfl rfl orc_cons rfl (open_spec ho5.wf hx (by rw [List.length_take]; omega) fun b hb => h256 b (List.mem_of_mem_take hb)) ?_
  rintro r A6 ⟨fr, vr, rfl, hrd, ho6, _⟩
  repeat (first
    | refine wg_seq ?_
    | refine wg_skip ?_
    | refine wg_block ?_
    | refine wg_scope ?_
    | refine wg_inBlock ?_
    | refine wg_inScope ?_
    | refine wg_region ?_
    | refine wo_nil ?_
    | refine wo_move rfl rfl ?_
    | refine wo_assign rfl rfl ?_
    | refine wo_fieldAddr rfl rfl rfl ?_
    | refine wo_nilCheck rfl rfl ?_
    | refine wo_extract rfl rfl rfl ?_
    | refine wo_load rfl rfl rfl rfl (by assumption) rfl ?_
    | refine wo_eql rfl rfl rfl ?_
    | refine wo_neq rfl rfl rfl ?_
    | refine wo_lss rfl rfl rfl ?_
    | refine wo_gtr rfl rfl rfl ?_
    | refine wo_leq rfl rfl rfl ?_
    | refine wo_geq rfl rfl rfl ?_
    | refine wo_not rfl rfl ?_
    | refine wo_lenStr rfl rfl rfl ?_
    | refine wo_len rfl rfl rfl rfl ?_
    | refine wo_buildSlice rfl rfl rfl ?_
    | refine wo_build rfl rfl rfl ?_
    | refine wo_pick rfl rfl rfl ?_
    | refine wo_strEq rfl rfl rfl ?_
    | refine wo_strNe rfl rfl rfl ?_
    | refine wo_on rfl ?_
    | refine wo_off rfl rfl ?_
    | refine wo_offn rfl ?_)
  refine wo_call rfl rfl orc_cons rfl (rtext_spec ho6.wf hrd (by decide) (by decide)) ?_
  by_cases hks : k < (grp s.length ++ s).length
  · have e : all.take k = (grp s.length ++ s).take k := by rw [← hall, List.take_append_of_le_length (by omega)]
    rw [e] at hrd ⊢
    rw [rdT_short (by omega) (by omega) hks]
    rintro r A7 ⟨hr, v7, st⟩
    obtain rfl : r = .tuple [.str [], .int .i64 30] := hr
    repeat (first
      | refine wg_seq ?_
      | refine wg_skip ?_
      | refine wg_block ?_
      | refine wg_scope ?_
      | refine wg_inBlock ?_
      | refine wg_inScope ?_
      | refine wg_region ?_
      | refine wo_nil ?_
      | refine wo_move rfl rfl ?_
      | refine wo_assign rfl rfl ?_
      | refine wo_fieldAddr rfl rfl rfl ?_
      | refine wo_nilCheck rfl rfl ?_
      | refine wo_extract rfl rfl rfl ?_
      | refine wo_load rfl rfl rfl rfl (by assumption) rfl ?_
      | refine wo_eql rfl rfl rfl ?_
      | refine wo_neq rfl rfl rfl ?_
      | refine wo_lss rfl rfl rfl ?_
      | refine wo_gtr rfl rfl rfl ?_
      | refine wo_leq rfl rfl rfl ?_
      | refine wo_geq rfl rfl rfl ?_
      | refine wo_not rfl rfl ?_
      | refine wo_lenStr rfl rfl rfl ?_
      | refine wo_len rfl rfl rfl rfl ?_
      | refine wo_buildSlice rfl rfl rfl ?_
      | refine wo_build rfl rfl rfl ?_
      | refine wo_pick rfl rfl rfl ?_
      | refine wo_strEq rfl rfl rfl ?_
      | refine wo_strNe rfl rfl rfl ?_
      | refine wo_on rfl ?_
      | refine wo_off rfl rfl ?_
      | refine wo_offn rfl ?_)
    refine wg_dec rfl (fun _ => ?_) fun h => absurd (Int.ofNat_lt.2 hks) h
    repeat (first
      | refine wg_seq ?_
      | refine wg_skip ?_
      | refine wg_block ?_
      | refine wg_scope ?_
      | refine wg_inBlock ?_
      | refine wg_inScope ?_
      | refine wg_region ?_
      | refine wo_nil ?_
      | refine wo_move rfl rfl ?_
      | refine wo_assign rfl rfl ?_
      | refine wo_fieldAddr rfl rfl rfl ?_
      | refine wo_nilCheck rfl rfl ?_
      | refine wo_extract rfl rfl rfl ?_
      | refine wo_load rfl rfl rfl rfl (by assumption) rfl ?_
      | refine wo_eql rfl rfl rfl ?_
      | refine wo_neq rfl rfl rfl ?_
      | refine wo_lss rfl rfl rfl ?_
      | refine wo_gtr rfl rfl rfl ?_
      | refine wo_leq rfl rfl rfl ?_
      | refine wo_geq rfl rfl rfl ?_
      | refine wo_not rfl rfl ?_
      | refine wo_lenStr rfl rfl rfl ?_
      | refine wo_len rfl rfl rfl rfl ?_
      | refine wo_buildSlice rfl rfl rfl ?_
      | refine wo_build rfl rfl rfl ?_
      | refine wo_pick rfl rfl rfl ?_
      | refine wo_strEq rfl rfl rfl ?_
      | refine wo_strNe rfl rfl rfl ?_
      | refine wo_on rfl ?_
      | refine wo_off rfl rfl ?_
      | refine wo_offn rfl ?_)
    refine wo_call rfl rfl orc_cons rfl (left_spec st.rd) ?_
    rintro r A8 ⟨rfl, rfl⟩
    repeat (first
      | refine wg_seq ?_
      | refine wg_skip ?_
      | refine wg_block ?_
      | refine wg_scope ?_
      | refine wg_inBlock ?_
      | refine wg_inScope ?_
      | refine wg_region ?_
      | refine wo_nil ?_
      | refine wo_move rfl rfl ?_
      | refine wo_assign rfl rfl ?_
      | refine wo_fieldAddr rfl rfl rfl ?_
      | refine wo_nilCheck rfl rfl ?_
      | refine wo_extract rfl rfl rfl ?_
      | refine wo_load rfl rfl rfl rfl (by assumption) rfl ?_
      | refine wo_eql rfl rfl rfl ?_
      | refine wo_neq rfl rfl rfl ?_
      | refine wo_lss rfl rfl rfl ?_
      | refine wo_gtr rfl rfl rfl ?_
      | refine wo_leq rfl rfl rfl ?_
      | refine wo_geq rfl rfl rfl ?_
      | refine wo_not rfl rfl ?_
      | refine wo_lenStr rfl rfl rfl ?_
      | refine wo_len rfl rfl rfl rfl ?_
      | refine wo_buildSlice rfl rfl rfl ?_
      | refine wo_build rfl rfl rfl ?_
      | refine wo_pick rfl rfl rfl ?_
      | refine wo_strEq rfl rfl rfl ?_
      | refine wo_strNe rfl rfl rfl ?_
      | refine wo_on rfl ?_
      | refine wo_off rfl rfl ?_
      | refine wo_offn rfl ?_)
    refine wg_ret rfl ?_
    show AV.bool (decide ((((grp s.length ++ s).take k).length : Int) = (k : Int))) = _
    rw [decide_eq_true]
    rw [List.length_take]
    omega
  · have e : all.take k = grp s.length ++ (s ++ (grp (zz z)).take (k - (grp s.length ++ s).length)) := by
      rw [← hall, List.take_append, List.take_of_length_le (by omega), List.append_assoc]
    rw [e] at hrd ⊢
    rw [rdT_back (by omega) (by omega)]
    rintro r A7 ⟨hr, v7, st⟩
    obtain rfl : r = .tuple [.str s, .int .i64 0] := hr
    have e3 : (grp s.length ++ (s ++ (grp (zz z)).take (k - (grp s.length ++ s).length))).drop (s, 0, (grp s.length).length + s.length).2.2 = (grp (zz z)).take (k - (grp s.length ++ s).length) := by
      show List.drop ((grp s.length).length + s.length) _ = _
      rw [← List.append_assoc, ← List.length_append, List.drop_left]
    rw [e3] at st
    repeat (first
      | refine wg_seq ?_
      | refine wg_skip ?_
      | refine wg_block ?_
      | refine wg_scope ?_
      | refine wg_inBlock ?_
      | refine wg_inScope ?_
      | refine wg_region ?_
      | refine wo_nil ?_
      | refine wo_move rfl rfl ?_
      | refine wo_assign rfl rfl ?_
      | refine wo_fieldAddr rfl rfl rfl ?_
      | refine wo_nilCheck rfl rfl ?_
      | refine wo_extract rfl rfl rfl ?_
      | refine wo_load rfl rfl rfl rfl (by assumption) rfl ?_
      | refine wo_eql rfl rfl rfl ?_
      | refine wo_neq rfl rfl rfl ?_
      | refine wo_lss rfl rfl rfl ?_
      | refine wo_gtr rfl rfl rfl ?_
      | refine wo_leq rfl rfl rfl ?_
      | refine wo_geq rfl rfl rfl ?_
      | refine wo_not rfl rfl ?_
      | refine wo_lenStr rfl rfl rfl ?_
      | refine wo_len rfl rfl rfl rfl ?_
      | refine wo_buildSlice rfl rfl rfl ?_
      | refine wo_build rfl rfl rfl ?_
      | refine wo_pick rfl rfl rfl ?_
      | refine wo_strEq rfl rfl rfl ?_
      | refine wo_strNe rfl rfl rfl ?_
      | refine wo_on rfl ?_
      | refine wo_off rfl rfl ?_
      | refine wo_offn rfl ?_)
    refine wg_dec rfl (fun h => absurd (Int.ofNat_lt.1 h) hks) fun _ => ?_
    repeat (first
      | refine wg_seq ?_
      | refine wg_skip ?_
      | refine wg_block ?_
      | refine wg_scope ?_
      | refine wg_inBlock ?_
      | refine wg_inScope ?_
      | refine wg_region ?_
      | refine wo_nil ?_
      | refine wo_move rfl rfl ?_
      | refine wo_assign rfl rfl ?_
      | refine wo_fieldAddr rfl rfl rfl ?_
      | refine wo_nilCheck rfl rfl ?_
      | refine wo_extract rfl rfl rfl ?_
      | refine wo_load rfl rfl rfl rfl (by assumption) rfl ?_
      | refine wo_eql rfl rfl rfl ?_
      | refine wo_neq rfl rfl rfl ?_
      | refine wo_lss rfl rfl rfl ?_
      | refine wo_gtr rfl rfl rfl ?_
      | refine wo_leq rfl rfl rfl ?_
      | refine wo_geq rfl rfl rfl ?_
      | refine wo_not rfl rfl ?_
      | refine wo_lenStr rfl rfl rfl ?_
      | refine wo_len rfl rfl rfl rfl ?_
      | refine wo_buildSlice rfl rfl rfl ?_
      | refine wo_build rfl rfl rfl ?_
      | refine wo_pick rfl rfl rfl ?_
      | refine wo_strEq rfl rfl rfl ?_
      | refine wo_strNe rfl rfl rfl ?_
      | refine wo_on rfl ?_
      | refine wo_off rfl rfl ?_
      | refine wo_offn rfl ?_)
    refine wo_call rfl rfl orc_cons rfl (rint_spec st.only.wf st.rd) ?_
    rw [rdG_short (zz_lt h1 h2) (by omega)]
    rintro r A8 ⟨hr, v8, st8⟩
    obtain rfl : r = .tuple [.int .i64 0, .int .i64 30] := hr
    repeat (first
      | refine wg_seq ?_
      | refine wg_skip ?_
      | refine wg_block ?_
      | refine wg_scope ?_
      | refine wg_inBlock ?_
      | refine wg_inScope ?_
      | refine wg_region ?_
      | refine wo_nil ?_
      | refine wo_move rfl rfl ?_
      | refine wo_assign rfl rfl ?_
      | refine wo_fieldAddr rfl rfl rfl ?_
      | refine wo_nilCheck rfl rfl ?_
      | refine wo_extract rfl rfl rfl ?_
      | refine wo_load rfl rfl rfl rfl (by assumption) rfl ?_
      | refine wo_eql rfl rfl rfl ?_
      | refine wo_neq rfl rfl rfl ?_
      | refine wo_lss rfl rfl rfl ?_
      | refine wo_gtr rfl rfl rfl ?_
      | refine wo_leq rfl rfl rfl ?_
      | refine wo_geq rfl rfl rfl ?_
      | refine wo_not rfl rfl ?_
      | refine wo_lenStr rfl rfl rfl ?_
      | refine wo_len rfl rfl rfl rfl ?_
      | refine wo_buildSlice rfl rfl rfl ?_
      | refine wo_build rfl rfl rfl ?_
      | refine wo_pick rfl rfl rfl ?_
      | refine wo_strEq rfl rfl rfl ?_
      | refine wo_strNe rfl rfl rfl ?_
      | refine wo_on rfl ?_
      | refine wo_off rfl rfl ?_
      | refine wo_offn rfl ?_)
    refine wo_is 74 true rfl (decide_eq_true rfl) ?_
    repeat (first
      | refine wg_seq ?_
      | refine wg_skip ?_
      | refine wg_block ?_
      | refine wg_scope ?_
      | refine wg_inBlock ?_
      | refine wg_inScope ?_
      | refine wg_region ?_
      | refine wo_nil ?_
      | refine wo_move rfl rfl ?_
      | refine wo_assign rfl rfl ?_
      | refine wo_fieldAddr rfl rfl rfl ?_
      | refine wo_nilCheck rfl rfl ?_
      | refine wo_extract rfl rfl rfl ?_
      | refine wo_load rfl rfl rfl rfl (by assumption) rfl ?_
      | refine wo_eql rfl rfl rfl ?_
      | refine wo_neq rfl rfl rfl ?_
      | refine wo_lss rfl rfl rfl ?_
      | refine wo_gtr rfl rfl rfl ?_
      | refine wo_leq rfl rfl rfl ?_
      | refine wo_geq rfl rfl rfl ?_
      | refine wo_not rfl rfl ?_
      | refine wo_lenStr rfl rfl rfl ?_
      | refine wo_len rfl rfl rfl rfl ?_
      | refine wo_buildSlice rfl rfl rfl ?_
      | refine wo_build rfl rfl rfl ?_
      | refine wo_pick rfl rfl rfl ?_
      | refine wo_strEq rfl rfl rfl ?_
      | refine wo_strNe rfl rfl rfl ?_
      | refine wo_on rfl ?_
      | refine wo_off rfl rfl ?_
      | refine wo_offn rfl ?_)
    refine wo_call rfl rfl orc_cons rfl (left_spec st8.rd) ?_
    rintro r A9 ⟨rfl, rfl⟩
    repeat (first
      | refine wg_seq ?_
      | refine wg_skip ?_
      | refine wg_block ?_
      | refine wg_scope ?_
      | refine wg_inBlock ?_
      | refine wg_inScope ?_
      | refine wg_region ?_
      | refine wo_nil ?_
      | refine wo_move rfl rfl ?_
      | refine wo_assign rfl rfl ?_
      | refine wo_fieldAddr rfl rfl rfl ?_
      | refine wo_nilCheck rfl rfl ?_
      | refine wo_extract rfl rfl rfl ?_
      | refine wo_load rfl rfl rfl rfl (by assumption) rfl ?_
      | refine wo_eql rfl rfl rfl ?_
      | refine wo_neq rfl rfl rfl ?_
      | refine wo_lss rfl rfl rfl ?_
      | refine wo_gtr rfl rfl rfl ?_
      | refine wo_leq rfl rfl rfl ?_
      | refine wo_geq rfl rfl rfl ?_
      | refine wo_not rfl rfl ?_
      | refine wo_lenStr rfl rfl rfl ?_
      | refine wo_len rfl rfl rfl rfl ?_
      | refine wo_buildSlice rfl rfl rfl ?_
      | refine wo_build rfl rfl rfl ?_
      | refine wo_pick rfl rfl rfl ?_
      | refine wo_strEq rfl rfl rfl ?_
      | refine wo_strNe rfl rfl rfl ?_
      | refine wo_on rfl ?_
      | refine wo_off rfl rfl ?_
      | refine wo_offn rfl ?_)
    refine wo_sub rfl rfl rfl (by omega) (by omega) ?_
    repeat (first
      | refine wg_seq ?_
      | refine wg_skip ?_
      | refine wg_block ?_
      | refine wg_scope ?_
      | refine wg_inBlock ?_
      | refine wg_inScope ?_
      | refine wg_region ?_
      | refine wo_nil ?_
      | refine wo_move rfl rfl ?_
      | refine wo_assign rfl rfl ?_
      | refine wo_fieldAddr rfl rfl rfl ?_
      | refine wo_nilCheck rfl rfl ?_
      | refine wo_extract rfl rfl rfl ?_
      | refine wo_load rfl rfl rfl rfl (by assumption) rfl ?_
      | refine wo_eql rfl rfl rfl ?_
      | refine wo_neq rfl rfl rfl ?_
      | refine wo_lss rfl rfl rfl ?_
      | refine wo_gtr rfl rfl rfl ?_
      | refine wo_leq rfl rfl rfl ?_
      | refine wo_geq rfl rfl rfl ?_
      | refine wo_not rfl rfl ?_
      | refine wo_lenStr rfl rfl rfl ?_
      | refine wo_len rfl rfl rfl rfl ?_
      | refine wo_buildSlice rfl rfl rfl ?_
      | refine wo_build rfl rfl rfl ?_
      | refine wo_pick rfl rfl rfl ?_
      | refine wo_strEq rfl rfl rfl ?_
      | refine wo_strNe rfl rfl rfl ?_
      | refine wo_on rfl ?_
      | refine wo_off rfl rfl ?_
      | refine wo_offn rfl ?_)
    refine wg_ret rfl ?_
    show AV.bool (decide ((((grp (zz z)).take (k - (grp s.length ++ s).length)).length : Int) = (k : Int) - (((grp s.length ++ s).length : Nat) : Int))) = _
    rw [decide_eq_true]
    rw [List.length_take]
    omega
end Go.Proofs.Ytejmdglmldjliaa.Ae
