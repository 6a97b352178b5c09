/-
  WHATEVER BYTES, READ BY WHATEVER CALLS: the law's walk.
-/
import Derived.Test.YtejmdglmldjliaaAiSyW11
import Derived.Test.YtejmdglmldjliaaAiSyW15
namespace Go.Proofs.Ytejmdglmldjliaa.Ae
open Go.AE
set_option linter.unusedVariables false
set_option maxRecDepth 100000

/-- What holds at the head of the loop: both readers have the same left. -/
structure RInv (A A1 : AW) (fr fm : Nat) (vr vm : AV) (bs : List Nat) (i m : Nat) : Prop where
  le : i ≤ m
  wf : Wf A1
  r : Rd A1 fr vr bs
  m : Rd A1 fm vm bs
  ne : fr ≠ fm
  rm : ∀ g, vr.isFam g → g ≠ fm
  mr : ∀ g, vm.isFam g → g ≠ fr
  only : Only A A1 none'
  or : A.nxt ≤ fr
  om : A.nxt ≤ fm
  len : bs.length ≤ 500
set_option maxHeartbeats 4000000 in
theorem reads_spec {A : AW} {vb v : AV} {bs : List Nat} {items : List It} (hw : Wf A) (hb : Full A 1 vb bs.length (bys bs)) (h256 : ∀ b ∈ bs, b < 256) (hrow : Row A 6 v items.length (items.flatMap It.cells)) (hok : ∀ x ∈ items, x.ok) :
    CallP (ES 13) 12 [vb, v] A fun r A1 => r = .bool true := by
  refine call_of rfl rfl rfl ?_
  repeat (first
    | refine wg_seq ?_
    | refine wg_skip ?_
    | refine wg_block ?_
    | refine wg_scope ?_
    | refine wg_inBlock ?_
    | refine wg_inScope ?_
    | refine wg_region ?_
    | refine wo_nil ?_
    | refine wo_move rfl rfl ?_
    | refine wo_assign rfl rfl ?_
    | refine wo_fieldAddr rfl rfl rfl ?_
    | refine wo_nilCheck rfl rfl ?_
    | refine wo_extract rfl rfl rfl ?_
    | refine wo_load rfl rfl rfl rfl (by assumption) rfl ?_
    | refine wo_eql rfl rfl rfl ?_
    | refine wo_neq rfl rfl rfl ?_
    | refine wo_lss rfl rfl rfl ?_
    | refine wo_gtr rfl rfl rfl ?_
    | refine wo_leq rfl rfl rfl ?_
    | refine wo_geq rfl rfl rfl ?_
    | refine wo_not rfl rfl ?_
    | refine wo_lenStr rfl rfl rfl ?_
    | refine wo_len rfl rfl rfl rfl ?_
    | refine wo_buildSlice rfl rfl rfl ?_
    | refine wo_build rfl rfl rfl ?_
    | refine wo_pick rfl rfl rfl ?_
    | refine wo_strEq rfl rfl rfl ?_
    | refine wo_strNe rfl rfl rfl ?_
    | refine wo_on rfl ?_
    | refine wo_off rfl rfl ?_
    | refine wo_offn rfl ?_)
  refine wo_orc rfl rfl rfl rfl ?_
  repeat (first
    | refine wg_seq ?_
    | refine wg_skip ?_
    | refine wg_block ?_
    | refine wg_scope ?_
    | refine wg_inBlock ?_
    | refine wg_inScope ?_
    | refine wg_region ?_
    | refine wo_nil ?_
    | refine wo_move rfl rfl ?_
    | refine wo_assign rfl rfl ?_
    | refine wo_fieldAddr rfl rfl rfl ?_
    | refine wo_nilCheck rfl rfl ?_
    | refine wo_extract rfl rfl rfl ?_
    | refine wo_load rfl rfl rfl rfl (by assumption) rfl ?_
    | refine wo_eql rfl rfl rfl ?_
    | refine wo_neq rfl rfl rfl ?_
    | refine wo_lss rfl rfl rfl ?_
    | refine wo_gtr rfl rfl rfl ?_
    | refine wo_leq rfl rfl rfl ?_
    | refine wo_geq rfl rfl rfl ?_
    | refine wo_not rfl rfl ?_
    | refine wo_lenStr rfl rfl rfl ?_
    | refine wo_len rfl rfl rfl rfl ?_
    | refine wo_buildSlice rfl rfl rfl ?_
    | refine wo_build rfl rfl rfl ?_
    | refine wo_pick rfl rfl rfl ?_
    | refine wo_strEq rfl rfl rfl ?_
    | refine wo_strNe rfl rfl rfl ?_
    | refine wo_on rfl ?_
    | refine wo_off rfl rfl ?_
    | refine wo_offn rfl ?_)
  refine wg_false rfl ?_
  repeat (first
    | refine wo_nil ?_
    | refine wo_move rfl rfl ?_
    | refine wo_assign rfl rfl ?_
    | refine wo_fieldAddr rfl rfl rfl ?_
    | refine wo_nilCheck rfl rfl ?_
    | refine wo_extract rfl rfl rfl ?_
    | refine wo_load rfl rfl rfl rfl (by assumption) rfl ?_
    | refine wo_eql rfl rfl rfl ?_
    | refine wo_neq rfl rfl rfl ?_
    | refine wo_lss rfl rfl rfl ?_
    | refine wo_gtr rfl rfl rfl ?_
    | refine wo_leq rfl rfl rfl ?_
    | refine wo_geq rfl rfl rfl ?_
    | refine wo_not rfl rfl ?_
    | refine wo_lenStr rfl rfl rfl ?_
    | refine wo_len rfl rfl rfl rfl ?_
    | refine wo_buildSlice rfl rfl rfl ?_
    | refine wo_build rfl rfl rfl ?_
    | refine wo_pick rfl rfl rfl ?_
    | refine wo_strEq rfl rfl rfl ?_
    | refine wo_strNe rfl rfl rfl ?_
    | refine wo_on rfl ?_
    | refine wo_off rfl rfl ?_
    | refine wo_offn rfl ?_)
  repeat (first
    | refine wg_seq ?_
    | refine wg_skip ?_
    | refine wg_block ?_
    | refine wg_scope ?_
    | refine wg_inBlock ?_
    | refine wg_inScope ?_)
  refine wg_regionTo (.put 0 vb (.put 1 v (.put 44 (.bool (decide (500 < bs.length ∨ 40 < items.length))) .nil))) ?_ ?_
  · repeat (first
      | refine wo_nil ?_
      | refine wo_move rfl rfl ?_
      | refine wo_assign rfl rfl ?_
      | refine wo_fieldAddr rfl rfl rfl ?_
      | refine wo_nilCheck rfl rfl ?_
      | refine wo_extract rfl rfl rfl ?_
      | refine wo_load rfl rfl rfl rfl (by assumption) rfl ?_
      | refine wo_eql rfl rfl rfl ?_
      | refine wo_neq rfl rfl rfl ?_
      | refine wo_lss rfl rfl rfl ?_
      | refine wo_gtr rfl rfl rfl ?_
      | refine wo_leq rfl rfl rfl ?_
      | refine wo_geq rfl rfl rfl ?_
      | refine wo_not rfl rfl ?_
      | refine wo_lenStr rfl rfl rfl ?_
      | refine wo_len rfl rfl rfl rfl ?_
      | refine wo_buildSlice rfl rfl rfl ?_
      | refine wo_build rfl rfl rfl ?_
      | refine wo_pick rfl rfl rfl ?_
      | refine wo_strEq rfl rfl rfl ?_
      | refine wo_strNe rfl rfl rfl ?_
      | refine wo_on rfl ?_
      | refine wo_off rfl rfl ?_
      | refine wo_offn rfl ?_)
    refine wo_len rfl rfl rfl hb.row.lenV ?_
    repeat (first
      | refine wo_nil ?_
      | refine wo_move rfl rfl ?_
      | refine wo_assign rfl rfl ?_
      | refine wo_fieldAddr rfl rfl rfl ?_
      | refine wo_nilCheck rfl rfl ?_
      | refine wo_extract rfl rfl rfl ?_
      | refine wo_load rfl rfl rfl rfl (by assumption) rfl ?_
      | refine wo_eql rfl rfl rfl ?_
      | refine wo_neq rfl rfl rfl ?_
      | refine wo_lss rfl rfl rfl ?_
      | refine wo_gtr rfl rfl rfl ?_
      | refine wo_leq rfl rfl rfl ?_
      | refine wo_geq rfl rfl rfl ?_
      | refine wo_not rfl rfl ?_
      | refine wo_lenStr rfl rfl rfl ?_
      | refine wo_len rfl rfl rfl rfl ?_
      | refine wo_buildSlice rfl rfl rfl ?_
      | refine wo_build rfl rfl rfl ?_
      | refine wo_pick rfl rfl rfl ?_
      | refine wo_strEq rfl rfl rfl ?_
      | refine wo_strNe rfl rfl rfl ?_
      | refine wo_on rfl ?_
      | refine wo_off rfl rfl ?_
      | refine wo_offn rfl ?_)
    by_cases h5 : 500 < bs.length
    · refine wo_is 40 true rfl (decide_eq_true (by first | omega | (simp only; omega))) ?_
      repeat (first
        | refine wo_nil ?_
        | refine wo_move rfl rfl ?_
        | refine wo_assign rfl rfl ?_
        | refine wo_fieldAddr rfl rfl rfl ?_
        | refine wo_nilCheck rfl rfl ?_
        | refine wo_extract rfl rfl rfl ?_
        | refine wo_load rfl rfl rfl rfl (by assumption) rfl ?_
        | refine wo_eql rfl rfl rfl ?_
        | refine wo_neq rfl rfl rfl ?_
        | refine wo_lss rfl rfl rfl ?_
        | refine wo_gtr rfl rfl rfl ?_
        | refine wo_leq rfl rfl rfl ?_
        | refine wo_geq rfl rfl rfl ?_
        | refine wo_not rfl rfl ?_
        | refine wo_lenStr rfl rfl rfl ?_
        | refine wo_len rfl rfl rfl rfl ?_
        | refine wo_buildSlice rfl rfl rfl ?_
        | refine wo_build rfl rfl rfl ?_
        | refine wo_pick rfl rfl rfl ?_
        | refine wo_strEq rfl rfl rfl ?_
        | refine wo_strNe rfl rfl rfl ?_
        | refine wo_on rfl ?_
        | refine wo_off rfl rfl ?_
        | refine wo_offn rfl ?_)
      exact ⟨rfl, rfl, rfl, congrArg (fun x => some (AV.bool x)) (decide_eq_true (.inl h5)).symm, trivial⟩
    · refine wo_is 40 false rfl (decide_eq_false (by first | omega | (simp only; omega))) ?_
      repeat (first
        | refine wo_nil ?_
        | refine wo_move rfl rfl ?_
        | refine wo_assign rfl rfl ?_
        | refine wo_fieldAddr rfl rfl rfl ?_
        | refine wo_nilCheck rfl rfl ?_
        | refine wo_extract rfl rfl rfl ?_
        | refine wo_load rfl rfl rfl rfl (by assumption) rfl ?_
        | refine wo_eql rfl rfl rfl ?_
        | refine wo_neq rfl rfl rfl ?_
        | refine wo_lss rfl rfl rfl ?_
        | refine wo_gtr rfl rfl rfl ?_
        | refine wo_leq rfl rfl rfl ?_
        | refine wo_geq rfl rfl rfl ?_
        | refine wo_not rfl rfl ?_
        | refine wo_lenStr rfl rfl rfl ?_
        | refine wo_len rfl rfl rfl rfl ?_
        | refine wo_buildSlice rfl rfl rfl ?_
        | refine wo_build rfl rfl rfl ?_
        | refine wo_pick rfl rfl rfl ?_
        | refine wo_strEq rfl rfl rfl ?_
        | refine wo_strNe rfl rfl rfl ?_
        | refine wo_on rfl ?_
        | refine wo_off rfl rfl ?_
        | refine wo_offn rfl ?_)
      refine wo_len rfl rfl rfl hrow.lenV ?_
      repeat (first
        | refine wo_nil ?_
        | refine wo_move rfl rfl ?_
        | refine wo_assign rfl rfl ?_
        | refine wo_fieldAddr rfl rfl rfl ?_
        | refine wo_nilCheck rfl rfl ?_
        | refine wo_extract rfl rfl rfl ?_
        | refine wo_load rfl rfl rfl rfl (by assumption) rfl ?_
        | refine wo_eql rfl rfl rfl ?_
        | refine wo_neq rfl rfl rfl ?_
        | refine wo_lss rfl rfl rfl ?_
        | refine wo_gtr rfl rfl rfl ?_
        | refine wo_leq rfl rfl rfl ?_
        | refine wo_geq rfl rfl rfl ?_
        | refine wo_not rfl rfl ?_
        | refine wo_lenStr rfl rfl rfl ?_
        | refine wo_len rfl rfl rfl rfl ?_
        | refine wo_buildSlice rfl rfl rfl ?_
        | refine wo_build rfl rfl rfl ?_
        | refine wo_pick rfl rfl rfl ?_
        | refine wo_strEq rfl rfl rfl ?_
        | refine wo_strNe rfl rfl rfl ?_
        | refine wo_on rfl ?_
        | refine wo_off rfl rfl ?_
        | refine wo_offn rfl ?_)
      exact ⟨rfl, rfl, rfl, congrArg (fun x => some (AV.bool x)) (decide_eq_decide.2 (by omega)), trivial⟩
  refine wg_dec rfl (fun h => ?_) fun h => ?_
  · repeat (first
      | refine wg_seq ?_
      | refine wg_skip ?_
      | refine wg_block ?_
      | refine wg_scope ?_
      | refine wg_inBlock ?_
      | refine wg_inScope ?_
      | refine wg_region ?_
      | refine wo_nil ?_
      | refine wo_move rfl rfl ?_
      | refine wo_assign rfl rfl ?_
      | refine wo_fieldAddr rfl rfl rfl ?_
      | refine wo_nilCheck rfl rfl ?_
      | refine wo_extract rfl rfl rfl ?_
      | refine wo_load rfl rfl rfl rfl (by assumption) rfl ?_
      | refine wo_eql rfl rfl rfl ?_
      | refine wo_neq rfl rfl rfl ?_
      | refine wo_lss rfl rfl rfl ?_
      | refine wo_gtr rfl rfl rfl ?_
      | refine wo_leq rfl rfl rfl ?_
      | refine wo_geq rfl rfl rfl ?_
      | refine wo_not rfl rfl ?_
      | refine wo_lenStr rfl rfl rfl ?_
      | refine wo_len rfl rfl rfl rfl ?_
      | refine wo_buildSlice rfl rfl rfl ?_
      | refine wo_build rfl rfl rfl ?_
      | refine wo_pick rfl rfl rfl ?_
      | refine wo_strEq rfl rfl rfl ?_
      | refine wo_strNe rfl rfl rfl ?_
      | refine wo_on rfl ?_
      | refine wo_off rfl rfl ?_
      | refine wo_offn rfl ?_)
    exact wg_ret rfl rfl
  have h5 : bs.length ≤ 500 := by omega
  have h40 : items.length ≤ 40 := by omega
  repeat (first
    | refine wg_seq ?_
    | refine wg_skip ?_
    | refine wg_block ?_
    | refine wg_scope ?_
    | refine wg_inBlock ?_
    | refine wg_inScope ?_
    | refine wg_region ?_
    | refine wo_nil ?_
    | refine wo_move rfl rfl ?_
    | refine wo_assign rfl rfl ?_
    | refine wo_fieldAddr rfl rfl rfl ?_
    | refine wo_nilCheck rfl rfl ?_
    | refine wo_extract rfl rfl rfl ?_
    | refine wo_load rfl rfl rfl rfl (by assumption) rfl ?_
    | refine wo_eql rfl rfl rfl ?_
    | refine wo_neq rfl rfl rfl ?_
    | refine wo_lss rfl rfl rfl ?_
    | refine wo_gtr rfl rfl rfl ?_
    | refine wo_leq rfl rfl rfl ?_
    | refine wo_geq rfl rfl rfl ?_
    | refine wo_not rfl rfl ?_
    | refine wo_lenStr rfl rfl rfl ?_
    | refine wo_len rfl rfl rfl rfl ?_
    | refine wo_buildSlice rfl rfl rfl ?_
    | refine wo_build rfl rfl rfl ?_
    | refine wo_pick rfl rfl rfl ?_
    | refine wo_strEq rfl rfl rfl ?_
    | refine wo_strNe rfl rfl rfl ?_
    | refine wo_on rfl ?_
    | refine wo_off rfl rfl ?_
    | refine wo_offn rfl ?_)
  refine wo_append rfl rfl rfl rfl rfl (append_buf (de := d5) (v := .nils) (n := 0) (cs := []) rfl rfl rfl rfl hw (.inl ⟨rfl, rfl, rfl⟩) hb.row.src (by rw [bys_length]; exact (Nat.mul_one _).symm) (by decide) (room_of (by omega) (by decide))) ?_
  intro x A1 g
  have gb := g.buf
  rw [Nat.zero_add] at gb
  have gb : Buf A1 1 x bs.length (bys bs) := gb
  refine wo_call rfl rfl orc_cons rfl (open_spec g.only.wf gb.full.row (by omega) h256) ?_
  rintro r A2 ⟨fr, vr, rfl, hrd, ho2, hg2⟩
  have oA2 : Only A A2 none' := g.only.same ho2
  have hb2 := hb.keep oA2 fun _ _ h => h
  repeat (first
    | refine wg_seq ?_
    | refine wg_skip ?_
    | refine wg_block ?_
    | refine wg_scope ?_
    | refine wg_inBlock ?_
    | refine wg_inScope ?_
    | refine wg_region ?_
    | refine wo_nil ?_
    | refine wo_move rfl rfl ?_
    | refine wo_assign rfl rfl ?_
    | refine wo_fieldAddr rfl rfl rfl ?_
    | refine wo_nilCheck rfl rfl ?_
    | refine wo_extract rfl rfl rfl ?_
    | refine wo_load rfl rfl rfl rfl (by assumption) rfl ?_
    | refine wo_eql rfl rfl rfl ?_
    | refine wo_neq rfl rfl rfl ?_
    | refine wo_lss rfl rfl rfl ?_
    | refine wo_gtr rfl rfl rfl ?_
    | refine wo_leq rfl rfl rfl ?_
    | refine wo_geq rfl rfl rfl ?_
    | refine wo_not rfl rfl ?_
    | refine wo_lenStr rfl rfl rfl ?_
    | refine wo_len rfl rfl rfl rfl ?_
    | refine wo_buildSlice rfl rfl rfl ?_
    | refine wo_build rfl rfl rfl ?_
    | refine wo_pick rfl rfl rfl ?_
    | refine wo_strEq rfl rfl rfl ?_
    | refine wo_strNe rfl rfl rfl ?_
    | refine wo_on rfl ?_
    | refine wo_off rfl rfl ?_
    | refine wo_offn rfl ?_)
  refine wo_build (v := .agg [vb]) rfl rfl ?_ ?_
  · rcases hb with ⟨rfl | ⟨z, rfl⟩, _⟩ | ⟨f, t, o, ex, ro, all, rfl, _⟩ <;> rfl
  refine wo_box rfl rfl rfl rfl ?_
  have oa : Only A2 (A2.add (.cells 0 false 1 [vb])) none' := Only.add ho2.wf _
  refine wo_A (fun A3 => Only A2 A3 none' ∧ A3.heap.get A2.nxt = some (.cells 0 false 1 [vb])) ⟨oa, by rw [AW.add_get, if_pos rfl]; rfl⟩ ?_
  rintro A3 ⟨o3, hm3⟩
  have oA3 : Only A A3 none' := oA2.same o3
  have hr3 := hrd.keep o3 fun _ _ h => h
  have ub : ∀ g, vb.isFam g → g < A.nxt := fun g hg => hb.row.under hw g hg
  have uw : ∀ g, both (one fr) vr.isFam g → g < A2.nxt := fun g hg => by
    rcases hg with hg | hg
    · cases hg; exact ho2.wf _ _ hrd.cell
    · exact hrd.full.row.under ho2.wf g hg
  have hge : A.nxt ≤ fr := by
    have := g.only.nxt
    rcases hg2 fr (.inl rfl) with h | h
    · exact h.elim
    · omega
  have hg3 : A.nxt ≤ A2.nxt := oA2.nxt
  generalize hfm : A2.nxt = fm at hm3 uw hg3
  have hm : Rd A3 fm vb bs := ⟨hm3, hb.keep oA3 fun _ _ h => h, fun e => by
    have := ub _ e
    omega, h256⟩
  repeat (first
    | refine wg_seq ?_
    | refine wg_skip ?_
    | refine wg_block ?_
    | refine wg_scope ?_
    | refine wg_inBlock ?_
    | refine wg_inScope ?_
    | refine wg_region ?_
    | refine wo_nil ?_
    | refine wo_move rfl rfl ?_
    | refine wo_assign rfl rfl ?_
    | refine wo_fieldAddr rfl rfl rfl ?_
    | refine wo_nilCheck rfl rfl ?_
    | refine wo_extract rfl rfl rfl ?_
    | refine wo_load rfl rfl rfl rfl (by assumption) rfl ?_
    | refine wo_eql rfl rfl rfl ?_
    | refine wo_neq rfl rfl rfl ?_
    | refine wo_lss rfl rfl rfl ?_
    | refine wo_gtr rfl rfl rfl ?_
    | refine wo_leq rfl rfl rfl ?_
    | refine wo_geq rfl rfl rfl ?_
    | refine wo_not rfl rfl ?_
    | refine wo_lenStr rfl rfl rfl ?_
    | refine wo_len rfl rfl rfl rfl ?_
    | refine wo_buildSlice rfl rfl rfl ?_
    | refine wo_build rfl rfl rfl ?_
    | refine wo_pick rfl rfl rfl ?_
    | refine wo_strEq rfl rfl rfl ?_
    | refine wo_strNe rfl rfl rfl ?_
    | refine wo_on rfl ?_
    | refine wo_off rfl rfl ?_
    | refine wo_offn rfl ?_)
  refine wg_loop ?_
  refine wg_le (.put 1 v (.put 5 (.ptr fr 0 0) (.put 6 (.ptr fm 0 0) (.put 7 (.int .i64 ((0 : Nat) : Int)) .nil)))) ?_ ⟨rfl, rfl, by rw [← hfm]; rfl, rfl, trivial⟩
  refine wg_ind (ι := Nat × AV × AV × List Nat) (fun i => items.length - i.1) (fun i => .put 1 v (.put 5 (.ptr fr 0 0) (.put 6 (.ptr fm 0 0) (.put 7 (.int .i64 (i.1 : Int)) .nil))))
    (fun i A1 => RInv A A1 fr fm i.2.1 i.2.2.1 i.2.2.2 i.1 items.length) ?_ (0, vr, vb, bs) A3
    ⟨Nat.zero_le _, o3.wf, hr3, hm, fun e => by have := uw fr (.inl rfl); omega, fun g hg => by have := uw g (.inr hg); omega, fun g hg => by have := ub g hg; omega, oA3, hge, hg3, h5⟩
  clear hfm hm oA3 hr3 o3 hm3 oa hb2 oA2 hrd ho2 hg2 gb g hb h256 ub uw hge hg3 h5
  rintro ⟨i, vr, vm, bs1⟩ A1 inv ih
  have inv : RInv A A1 fr fm vr vm bs1 i items.length := inv
  have hrow1 := hrow.keep inv.only fun _ _ h => h
  have hi40 := inv.le
  have hl1 := inv.len
  repeat (first
    | refine wg_seq ?_
    | refine wg_skip ?_
    | refine wg_block ?_
    | refine wg_scope ?_
    | refine wg_inBlock ?_
    | refine wg_inScope ?_
    | refine wg_region ?_
    | refine wo_nil ?_
    | refine wo_move rfl rfl ?_
    | refine wo_assign rfl rfl ?_
    | refine wo_fieldAddr rfl rfl rfl ?_
    | refine wo_nilCheck rfl rfl ?_
    | refine wo_extract rfl rfl rfl ?_
    | refine wo_load rfl rfl rfl rfl (by assumption) rfl ?_
    | refine wo_eql rfl rfl rfl ?_
    | refine wo_neq rfl rfl rfl ?_
    | refine wo_lss rfl rfl rfl ?_
    | refine wo_gtr rfl rfl rfl ?_
    | refine wo_leq rfl rfl rfl ?_
    | refine wo_geq rfl rfl rfl ?_
    | refine wo_not rfl rfl ?_
    | refine wo_lenStr rfl rfl rfl ?_
    | refine wo_len rfl rfl rfl rfl ?_
    | refine wo_buildSlice rfl rfl rfl ?_
    | refine wo_build rfl rfl rfl ?_
    | refine wo_pick rfl rfl rfl ?_
    | refine wo_strEq rfl rfl rfl ?_
    | refine wo_strNe rfl rfl rfl ?_
    | refine wo_on rfl ?_
    | refine wo_off rfl rfl ?_
    | refine wo_offn rfl ?_)
  refine wo_len rfl rfl rfl hrow1.lenV ?_
  repeat (first
    | refine wg_seq ?_
    | refine wg_skip ?_
    | refine wg_block ?_
    | refine wg_scope ?_
    | refine wg_inBlock ?_
    | refine wg_inScope ?_
    | refine wg_region ?_
    | refine wo_nil ?_
    | refine wo_move rfl rfl ?_
    | refine wo_assign rfl rfl ?_
    | refine wo_fieldAddr rfl rfl rfl ?_
    | refine wo_nilCheck rfl rfl ?_
    | refine wo_extract rfl rfl rfl ?_
    | refine wo_load rfl rfl rfl rfl (by assumption) rfl ?_
    | refine wo_eql rfl rfl rfl ?_
    | refine wo_neq rfl rfl rfl ?_
    | refine wo_lss rfl rfl rfl ?_
    | refine wo_gtr rfl rfl rfl ?_
    | refine wo_leq rfl rfl rfl ?_
    | refine wo_geq rfl rfl rfl ?_
    | refine wo_not rfl rfl ?_
    | refine wo_lenStr rfl rfl rfl ?_
    | refine wo_len rfl rfl rfl rfl ?_
    | refine wo_buildSlice rfl rfl rfl ?_
    | refine wo_build rfl rfl rfl ?_
    | refine wo_pick rfl rfl rfl ?_
    | refine wo_strEq rfl rfl rfl ?_
    | refine wo_strNe rfl rfl rfl ?_
    | refine wo_on rfl ?_
    | refine wo_off rfl rfl ?_
    | refine wo_offn rfl ?_)
  refine wg_dec rfl (fun hlt => ?_) fun hge => ?_
  · have hi : i < items.length := Int.ofNat_lt.1 hlt
    obtain ⟨x, hx⟩ : ∃ x, items[i]? = some x := ⟨items[i], List.getElem?_eq_getElem hi⟩
    have xok := hok x (List.mem_of_getElem? hx)
    obtain ⟨f, t, o, c, ex, ro, all, rfl, hh, hat⟩ := hrow1.at hi
    have hW : nth all (Nat.add (Nat.add o (Nat.mul i 6)) 0) = some (.int .i64 x.what) := nth_take ((hat 1 0 (by decide)).trans (by rw [take_flat It.len hx 1 0 (by decide)]; rfl))
    have hM : nth all (Nat.add (Nat.add o (Nat.mul i 6)) 5) = some (.int .i64 x.most) := nth_take ((hat 1 5 (by decide)).trans (by rw [take_flat It.len hx 1 5 (by decide)]; rfl))
    have hfa : f < A.nxt := hrow.under hw f rfl
    have hfr : ¬ one fr f := fun e => by
      have e : f = fr := e
      have := inv.or
      omega
    have hmk : ∀ {A2 : AW} {v' : AV} {bs2 : List Nat}, RStep A1 A2 fr vr v' bs2 → Rd A2 fm vm bs1 := fun st => inv.m.keep st.only fun g hg e => by
      have e : g = fr := e
      rcases hg with hg | hg
      · have hg : g = fm := hg
        exact inv.ne (e.symm.trans hg)
      · exact inv.mr g hg e
    have hdl : ∀ k, (bs1.drop k).length ≤ 500 := fun k => by
      rw [List.length_drop]
      omega
    repeat (first
      | refine wg_seq ?_
      | refine wg_skip ?_
      | refine wg_block ?_
      | refine wg_scope ?_
      | refine wg_inBlock ?_
      | refine wg_inScope ?_
      | refine wg_region ?_
      | refine wo_nil ?_
      | refine wo_move rfl rfl ?_
      | refine wo_assign rfl rfl ?_
      | refine wo_fieldAddr rfl rfl rfl ?_
      | refine wo_nilCheck rfl rfl ?_
      | refine wo_extract rfl rfl rfl ?_
      | refine wo_load rfl rfl rfl rfl (by assumption) rfl ?_
      | refine wo_eql rfl rfl rfl ?_
      | refine wo_neq rfl rfl rfl ?_
      | refine wo_lss rfl rfl rfl ?_
      | refine wo_gtr rfl rfl rfl ?_
      | refine wo_leq rfl rfl rfl ?_
      | refine wo_geq rfl rfl rfl ?_
      | refine wo_not rfl rfl ?_
      | refine wo_lenStr rfl rfl rfl ?_
      | refine wo_len rfl rfl rfl rfl ?_
      | refine wo_buildSlice rfl rfl rfl ?_
      | refine wo_build rfl rfl rfl ?_
      | refine wo_pick rfl rfl rfl ?_
      | refine wo_strEq rfl rfl rfl ?_
      | refine wo_strNe rfl rfl rfl ?_
      | refine wo_on rfl ?_
      | refine wo_off rfl rfl ?_
      | refine wo_offn rfl ?_)
    refine wo_indexAddr i rfl rfl rfl rfl rfl hi ?_
    repeat (first
      | refine wg_seq ?_
      | refine wg_skip ?_
      | refine wg_block ?_
      | refine wg_scope ?_
      | refine wg_inBlock ?_
      | refine wg_inScope ?_
      | refine wg_region ?_
      | refine wo_nil ?_
      | refine wo_move rfl rfl ?_
      | refine wo_assign rfl rfl ?_
      | refine wo_fieldAddr rfl rfl rfl ?_
      | refine wo_nilCheck rfl rfl ?_
      | refine wo_extract rfl rfl rfl ?_
      | refine wo_load rfl rfl rfl rfl (by assumption) rfl ?_
      | refine wo_eql rfl rfl rfl ?_
      | refine wo_neq rfl rfl rfl ?_
      | refine wo_lss rfl rfl rfl ?_
      | refine wo_gtr rfl rfl rfl ?_
      | refine wo_leq rfl rfl rfl ?_
      | refine wo_geq rfl rfl rfl ?_
      | refine wo_not rfl rfl ?_
      | refine wo_lenStr rfl rfl rfl ?_
      | refine wo_len rfl rfl rfl rfl ?_
      | refine wo_buildSlice rfl rfl rfl ?_
      | refine wo_build rfl rfl rfl ?_
      | refine wo_pick rfl rfl rfl ?_
      | refine wo_strEq rfl rfl rfl ?_
      | refine wo_strNe rfl rfl rfl ?_
      | refine wo_on rfl ?_
      | refine wo_off rfl rfl ?_
      | refine wo_offn rfl ?_)
    refine wo_load rfl rfl rfl rfl hh hW ?_
    repeat (first
      | refine wg_seq ?_
      | refine wg_skip ?_
      | refine wg_block ?_
      | refine wg_scope ?_
      | refine wg_inBlock ?_
      | refine wg_inScope ?_
      | refine wg_region ?_
      | refine wo_nil ?_
      | refine wo_move rfl rfl ?_
      | refine wo_assign rfl rfl ?_
      | refine wo_fieldAddr rfl rfl rfl ?_
      | refine wo_nilCheck rfl rfl ?_
      | refine wo_extract rfl rfl rfl ?_
      | refine wo_load rfl rfl rfl rfl (by assumption) rfl ?_
      | refine wo_eql rfl rfl rfl ?_
      | refine wo_neq rfl rfl rfl ?_
      | refine wo_lss rfl rfl rfl ?_
      | refine wo_gtr rfl rfl rfl ?_
      | refine wo_leq rfl rfl rfl ?_
      | refine wo_geq rfl rfl rfl ?_
      | refine wo_not rfl rfl ?_
      | refine wo_lenStr rfl rfl rfl ?_
      | refine wo_len rfl rfl rfl rfl ?_
      | refine wo_buildSlice rfl rfl rfl ?_
      | refine wo_build rfl rfl rfl ?_
      | refine wo_pick rfl rfl rfl ?_
      | refine wo_strEq rfl rfl rfl ?_
      | refine wo_strNe rfl rfl rfl ?_
      | refine wo_on rfl ?_
      | refine wo_off rfl rfl ?_
      | refine wo_offn rfl ?_)
    refine wg_dec rfl (fun w1 => ?_) fun w1 => ?_
    · repeat (first
        | refine wg_seq ?_
        | refine wg_skip ?_
        | refine wg_block ?_
        | refine wg_scope ?_
        | refine wg_inBlock ?_
        | refine wg_inScope ?_
        | refine wg_region ?_
        | refine wo_nil ?_
        | refine wo_move rfl rfl ?_
        | refine wo_assign rfl rfl ?_
        | refine wo_fieldAddr rfl rfl rfl ?_
        | refine wo_nilCheck rfl rfl ?_
        | refine wo_extract rfl rfl rfl ?_
        | refine wo_load rfl rfl rfl rfl (by assumption) rfl ?_
        | refine wo_eql rfl rfl rfl ?_
        | refine wo_neq rfl rfl rfl ?_
        | refine wo_lss rfl rfl rfl ?_
        | refine wo_gtr rfl rfl rfl ?_
        | refine wo_leq rfl rfl rfl ?_
        | refine wo_geq rfl rfl rfl ?_
        | refine wo_not rfl rfl ?_
        | refine wo_lenStr rfl rfl rfl ?_
        | refine wo_len rfl rfl rfl rfl ?_
        | refine wo_buildSlice rfl rfl rfl ?_
        | refine wo_build rfl rfl rfl ?_
        | refine wo_pick rfl rfl rfl ?_
        | refine wo_strEq rfl rfl rfl ?_
        | refine wo_strNe rfl rfl rfl ?_
        | refine wo_on rfl ?_
        | refine wo_off rfl rfl ?_
        | refine wo_offn rfl ?_)
      refine wo_call rfl rfl orc_cons rfl (rint_spec inv.wf inv.r) ?_
      rintro r A2 ⟨rfl, vr', st⟩
      repeat (first
        | refine wg_seq ?_
        | refine wg_skip ?_
        | refine wg_block ?_
        | refine wg_scope ?_
        | refine wg_inBlock ?_
        | refine wg_inScope ?_
        | refine wg_region ?_
        | refine wo_nil ?_
        | refine wo_move rfl rfl ?_
        | refine wo_assign rfl rfl ?_
        | refine wo_fieldAddr rfl rfl rfl ?_
        | refine wo_nilCheck rfl rfl ?_
        | refine wo_extract rfl rfl rfl ?_
        | refine wo_load rfl rfl rfl rfl (by assumption) rfl ?_
        | refine wo_eql rfl rfl rfl ?_
        | refine wo_neq rfl rfl rfl ?_
        | refine wo_lss rfl rfl rfl ?_
        | refine wo_gtr rfl rfl rfl ?_
        | refine wo_leq rfl rfl rfl ?_
        | refine wo_geq rfl rfl rfl ?_
        | refine wo_not rfl rfl ?_
        | refine wo_lenStr rfl rfl rfl ?_
        | refine wo_len rfl rfl rfl rfl ?_
        | refine wo_buildSlice rfl rfl rfl ?_
        | refine wo_build rfl rfl rfl ?_
        | refine wo_pick rfl rfl rfl ?_
        | refine wo_strEq rfl rfl rfl ?_
        | refine wo_strNe rfl rfl rfl ?_
        | refine wo_on rfl ?_
        | refine wo_off rfl rfl ?_
        | refine wo_offn rfl ?_)
      refine wo_call rfl rfl orc_cons rfl (ref_int st.only.wf (hmk st) (by omega)) ?_
      rintro r A3 ⟨rfl, vm', sm⟩
      have hbl := hdl (rdG bs1 0 0).2.2
      generalize (rdG bs1 0 0).2.1 = e
      generalize (rdG bs1 0 0).1 = n
      generalize bs1.drop (rdG bs1 0 0).2.2 = bs2 at st sm hbl
      repeat (first
        | refine wg_seq ?_
        | refine wg_skip ?_
        | refine wg_block ?_
        | refine wg_scope ?_
        | refine wg_inBlock ?_
        | refine wg_inScope ?_
        | refine wg_region ?_
        | refine wo_nil ?_
        | refine wo_move rfl rfl ?_
        | refine wo_assign rfl rfl ?_
        | refine wo_fieldAddr rfl rfl rfl ?_
        | refine wo_nilCheck rfl rfl ?_
        | refine wo_extract rfl rfl rfl ?_
        | refine wo_load rfl rfl rfl rfl (by assumption) rfl ?_
        | refine wo_eql rfl rfl rfl ?_
        | refine wo_neq rfl rfl rfl ?_
        | refine wo_lss rfl rfl rfl ?_
        | refine wo_gtr rfl rfl rfl ?_
        | refine wo_leq rfl rfl rfl ?_
        | refine wo_geq rfl rfl rfl ?_
        | refine wo_not rfl rfl ?_
        | refine wo_lenStr rfl rfl rfl ?_
        | refine wo_len rfl rfl rfl rfl ?_
        | refine wo_buildSlice rfl rfl rfl ?_
        | refine wo_build rfl rfl rfl ?_
        | refine wo_pick rfl rfl rfl ?_
        | refine wo_strEq rfl rfl rfl ?_
        | refine wo_strNe rfl rfl rfl ?_
        | refine wo_on rfl ?_
        | refine wo_off rfl rfl ?_
        | refine wo_offn rfl ?_)
      refine wo_is 92 true rfl (decide_eq_true rfl) ?_
      repeat (first
        | refine wo_nil ?_
        | refine wo_move rfl rfl ?_
        | refine wo_assign rfl rfl ?_
        | refine wo_fieldAddr rfl rfl rfl ?_
        | refine wo_nilCheck rfl rfl ?_
        | refine wo_extract rfl rfl rfl ?_
        | refine wo_load rfl rfl rfl rfl (by assumption) rfl ?_
        | refine wo_eql rfl rfl rfl ?_
        | refine wo_neq rfl rfl rfl ?_
        | refine wo_lss rfl rfl rfl ?_
        | refine wo_gtr rfl rfl rfl ?_
        | refine wo_leq rfl rfl rfl ?_
        | refine wo_geq rfl rfl rfl ?_
        | refine wo_not rfl rfl ?_
        | refine wo_lenStr rfl rfl rfl ?_
        | refine wo_len rfl rfl rfl rfl ?_
        | refine wo_buildSlice rfl rfl rfl ?_
        | refine wo_build rfl rfl rfl ?_
        | refine wo_pick rfl rfl rfl ?_
        | refine wo_strEq rfl rfl rfl ?_
        | refine wo_strNe rfl rfl rfl ?_
        | refine wo_on rfl ?_
        | refine wo_off rfl rfl ?_
        | refine wo_offn rfl ?_)
      repeat (first
        | refine wg_seq ?_
        | refine wg_skip ?_
        | refine wg_block ?_
        | refine wg_scope ?_
        | refine wg_inBlock ?_
        | refine wg_inScope ?_)
      have hok : (some (AV.bool true)) = some (AV.bool true) := rfl
      have st3 : Rd A3 fr vr' bs2 := st.rd.keep sm.only fun g hg e => by
        have e : g = fm := e
        rcases hg with hg | hg
        · have hg : g = fr := hg
          exact inv.ne (hg.symm.trans e)
        · exact inv.rm g (st.sub g hg) e
      have oA3 : Only A A3 none' := Only.own hw (Only.own hw inv.only st.only fun g hg => by
        have hg : g = fr := hg
        have := inv.or
        omega) sm.only fun g hg => by
        have hg : g = fm := hg
        have := inv.om
        omega
      have hcm := sm.rd.cell
      refine wg_le (.put 1 (.slice f t o items.length c ex) (.put 5 (.ptr fr 0 0) (.put 6 (.ptr fm 0 0) (.put 7 (.int .i64 (i : Int)) (.put 8 (.int .i64 (e : Int)) (.put 9 (.int .i64 (e : Int)) (.put 10 (.bool true) .nil))))))) ?_ ⟨rfl, rfl, rfl, rfl, rfl, rfl, hok, trivial⟩
      refine wg_draw rfl ?_
      repeat (first
        | (refine wd_pure rfl rfl rfl rfl rfl ?_
           repeat (first
             | refine wo_nil ?_
             | refine wo_move rfl rfl ?_
             | refine wo_assign rfl rfl ?_
             | refine wo_fieldAddr rfl rfl rfl ?_
             | refine wo_nilCheck rfl rfl ?_
             | refine wo_extract rfl rfl rfl ?_
             | refine wo_load rfl rfl rfl rfl (by assumption) rfl ?_
             | refine wo_eql rfl rfl rfl ?_
             | refine wo_neq rfl rfl rfl ?_
             | refine wo_lss rfl rfl rfl ?_
             | refine wo_gtr rfl rfl rfl ?_
             | refine wo_leq rfl rfl rfl ?_
             | refine wo_geq rfl rfl rfl ?_
             | refine wo_not rfl rfl ?_
             | refine wo_lenStr rfl rfl rfl ?_
             | refine wo_len rfl rfl rfl rfl ?_
             | refine wo_buildSlice rfl rfl rfl ?_
             | refine wo_build rfl rfl rfl ?_
             | refine wo_pick rfl rfl rfl ?_
             | refine wo_strEq rfl rfl rfl ?_
             | refine wo_strNe rfl rfl rfl ?_
             | refine wo_on rfl ?_
             | refine wo_off rfl rfl ?_
             | refine wo_offn rfl ?_)
           refine ⟨rfl, ?_⟩)
        | (refine wd_read rfl rfl rfl rfl rfl rfl rfl ?_
           repeat (first
             | refine wo_nil ?_
             | refine wo_move rfl rfl ?_
             | refine wo_assign rfl rfl ?_
             | refine wo_fieldAddr rfl rfl rfl ?_
             | refine wo_nilCheck rfl rfl ?_
             | refine wo_extract rfl rfl rfl ?_
             | refine wo_load rfl rfl rfl rfl (by assumption) rfl ?_
             | refine wo_eql rfl rfl rfl ?_
             | refine wo_neq rfl rfl rfl ?_
             | refine wo_lss rfl rfl rfl ?_
             | refine wo_gtr rfl rfl rfl ?_
             | refine wo_leq rfl rfl rfl ?_
             | refine wo_geq rfl rfl rfl ?_
             | refine wo_not rfl rfl ?_
             | refine wo_lenStr rfl rfl rfl ?_
             | refine wo_len rfl rfl rfl rfl ?_
             | refine wo_buildSlice rfl rfl rfl ?_
             | refine wo_build rfl rfl rfl ?_
             | refine wo_pick rfl rfl rfl ?_
             | refine wo_strEq rfl rfl rfl ?_
             | refine wo_strNe rfl rfl rfl ?_
             | refine wo_on rfl ?_
             | refine wo_off rfl rfl ?_
             | refine wo_offn rfl ?_)
           refine ⟨rfl, _, rfl, ?_⟩))
      refine wd_is 193 false rfl (decide_eq_false fun h => h rfl) ?_
      repeat (first
        | (refine wd_pure rfl rfl rfl rfl rfl ?_
           repeat (first
             | refine wo_nil ?_
             | refine wo_move rfl rfl ?_
             | refine wo_assign rfl rfl ?_
             | refine wo_fieldAddr rfl rfl rfl ?_
             | refine wo_nilCheck rfl rfl ?_
             | refine wo_extract rfl rfl rfl ?_
             | refine wo_load rfl rfl rfl rfl (by assumption) rfl ?_
             | refine wo_eql rfl rfl rfl ?_
             | refine wo_neq rfl rfl rfl ?_
             | refine wo_lss rfl rfl rfl ?_
             | refine wo_gtr rfl rfl rfl ?_
             | refine wo_leq rfl rfl rfl ?_
             | refine wo_geq rfl rfl rfl ?_
             | refine wo_not rfl rfl ?_
             | refine wo_lenStr rfl rfl rfl ?_
             | refine wo_len rfl rfl rfl rfl ?_
             | refine wo_buildSlice rfl rfl rfl ?_
             | refine wo_build rfl rfl rfl ?_
             | refine wo_pick rfl rfl rfl ?_
             | refine wo_strEq rfl rfl rfl ?_
             | refine wo_strNe rfl rfl rfl ?_
             | refine wo_on rfl ?_
             | refine wo_off rfl rfl ?_
             | refine wo_offn rfl ?_)
           refine ⟨rfl, ?_⟩)
        | (refine wd_read rfl rfl rfl rfl rfl rfl rfl ?_
           repeat (first
             | refine wo_nil ?_
             | refine wo_move rfl rfl ?_
             | refine wo_assign rfl rfl ?_
             | refine wo_fieldAddr rfl rfl rfl ?_
             | refine wo_nilCheck rfl rfl ?_
             | refine wo_extract rfl rfl rfl ?_
             | refine wo_load rfl rfl rfl rfl (by assumption) rfl ?_
             | refine wo_eql rfl rfl rfl ?_
             | refine wo_neq rfl rfl rfl ?_
             | refine wo_lss rfl rfl rfl ?_
             | refine wo_gtr rfl rfl rfl ?_
             | refine wo_leq rfl rfl rfl ?_
             | refine wo_geq rfl rfl rfl ?_
             | refine wo_not rfl rfl ?_
             | refine wo_lenStr rfl rfl rfl ?_
             | refine wo_len rfl rfl rfl rfl ?_
             | refine wo_buildSlice rfl rfl rfl ?_
             | refine wo_build rfl rfl rfl ?_
             | refine wo_pick rfl rfl rfl ?_
             | refine wo_strEq rfl rfl rfl ?_
             | refine wo_strNe rfl rfl rfl ?_
             | refine wo_on rfl ?_
             | refine wo_off rfl rfl ?_
             | refine wo_offn rfl ?_)
           refine ⟨rfl, _, rfl, ?_⟩))
      refine wd_read rfl rfl rfl rfl rfl rfl rfl ?_
      refine wo_on rfl ?_
      refine wo_len rfl rfl rfl sm.rd.full.row.lenV ?_
      repeat (first
        | refine wo_nil ?_
        | refine wo_move rfl rfl ?_
        | refine wo_assign rfl rfl ?_
        | refine wo_fieldAddr rfl rfl rfl ?_
        | refine wo_nilCheck rfl rfl ?_
        | refine wo_extract rfl rfl rfl ?_
        | refine wo_load rfl rfl rfl rfl (by assumption) rfl ?_
        | refine wo_eql rfl rfl rfl ?_
        | refine wo_neq rfl rfl rfl ?_
        | refine wo_lss rfl rfl rfl ?_
        | refine wo_gtr rfl rfl rfl ?_
        | refine wo_leq rfl rfl rfl ?_
        | refine wo_geq rfl rfl rfl ?_
        | refine wo_not rfl rfl ?_
        | refine wo_lenStr rfl rfl rfl ?_
        | refine wo_len rfl rfl rfl rfl ?_
        | refine wo_buildSlice rfl rfl rfl ?_
        | refine wo_build rfl rfl rfl ?_
        | refine wo_pick rfl rfl rfl ?_
        | refine wo_strEq rfl rfl rfl ?_
        | refine wo_strNe rfl rfl rfl ?_
        | refine wo_on rfl ?_
        | refine wo_off rfl rfl ?_
        | refine wo_offn rfl ?_)
      refine ⟨rfl, _, rfl, ?_⟩
      refine wd_act rfl rfl rfl ?_
      refine wo_on rfl ?_
      refine wo_call rfl rfl orc_cons rfl (left_spec st3) ?_
      rintro r A4 ⟨rfl, rfl⟩
      repeat (first
        | refine wo_nil ?_
        | refine wo_move rfl rfl ?_
        | refine wo_assign rfl rfl ?_
        | refine wo_fieldAddr rfl rfl rfl ?_
        | refine wo_nilCheck rfl rfl ?_
        | refine wo_extract rfl rfl rfl ?_
        | refine wo_load rfl rfl rfl rfl (by assumption) rfl ?_
        | refine wo_eql rfl rfl rfl ?_
        | refine wo_neq rfl rfl rfl ?_
        | refine wo_lss rfl rfl rfl ?_
        | refine wo_gtr rfl rfl rfl ?_
        | refine wo_leq rfl rfl rfl ?_
        | refine wo_geq rfl rfl rfl ?_
        | refine wo_not rfl rfl ?_
        | refine wo_lenStr rfl rfl rfl ?_
        | refine wo_len rfl rfl rfl rfl ?_
        | refine wo_buildSlice rfl rfl rfl ?_
        | refine wo_build rfl rfl rfl ?_
        | refine wo_pick rfl rfl rfl ?_
        | refine wo_strEq rfl rfl rfl ?_
        | refine wo_strNe rfl rfl rfl ?_
        | refine wo_on rfl ?_
        | refine wo_off rfl rfl ?_
        | refine wo_offn rfl ?_)
      refine ⟨⟨.inr ⟨fun F hF => ?_, stillInt⟩, .inr ⟨fun F hF => ?_, sm.rd.full.still⟩, trivial⟩, ?_⟩
      · show liftR (lenA (ES 13) 27 (ev F (.tmp 199)) A4) = _
        rw [hF.ev (x := .tmp 199) (v := vm') rfl, lenA_eq rfl sm.rd.full.row.lenV]
        rfl
      · show liftR (loadA (ES 13) 27 (ev F (.tmp 198)) A4) = _
        rw [hF.ev (x := .tmp 198) (v := .ptr fm 0 0) rfl, loadA_eq rfl rfl hcm rfl]
        rfl
      refine wd_pure rfl rfl rfl rfl rfl ?_
      repeat (first
        | refine wo_nil ?_
        | refine wo_move rfl rfl ?_
        | refine wo_assign rfl rfl ?_
        | refine wo_fieldAddr rfl rfl rfl ?_
        | refine wo_nilCheck rfl rfl ?_
        | refine wo_extract rfl rfl rfl ?_
        | refine wo_load rfl rfl rfl rfl (by assumption) rfl ?_
        | refine wo_eql rfl rfl rfl ?_
        | refine wo_neq rfl rfl rfl ?_
        | refine wo_lss rfl rfl rfl ?_
        | refine wo_gtr rfl rfl rfl ?_
        | refine wo_leq rfl rfl rfl ?_
        | refine wo_geq rfl rfl rfl ?_
        | refine wo_not rfl rfl ?_
        | refine wo_lenStr rfl rfl rfl ?_
        | refine wo_len rfl rfl rfl rfl ?_
        | refine wo_buildSlice rfl rfl rfl ?_
        | refine wo_build rfl rfl rfl ?_
        | refine wo_pick rfl rfl rfl ?_
        | refine wo_strEq rfl rfl rfl ?_
        | refine wo_strNe rfl rfl rfl ?_
        | refine wo_on rfl ?_
        | refine wo_off rfl rfl ?_
        | refine wo_offn rfl ?_)
      refine ⟨rfl, ?_⟩
      repeat (first
        | (refine wd_pure rfl rfl rfl rfl rfl ?_
           repeat (first
             | refine wo_nil ?_
             | refine wo_move rfl rfl ?_
             | refine wo_assign rfl rfl ?_
             | refine wo_fieldAddr rfl rfl rfl ?_
             | refine wo_nilCheck rfl rfl ?_
             | refine wo_extract rfl rfl rfl ?_
             | refine wo_load rfl rfl rfl rfl (by assumption) rfl ?_
             | refine wo_eql rfl rfl rfl ?_
             | refine wo_neq rfl rfl rfl ?_
             | refine wo_lss rfl rfl rfl ?_
             | refine wo_gtr rfl rfl rfl ?_
             | refine wo_leq rfl rfl rfl ?_
             | refine wo_geq rfl rfl rfl ?_
             | refine wo_not rfl rfl ?_
             | refine wo_lenStr rfl rfl rfl ?_
             | refine wo_len rfl rfl rfl rfl ?_
             | refine wo_buildSlice rfl rfl rfl ?_
             | refine wo_build rfl rfl rfl ?_
             | refine wo_pick rfl rfl rfl ?_
             | refine wo_strEq rfl rfl rfl ?_
             | refine wo_strNe rfl rfl rfl ?_
             | refine wo_on rfl ?_
             | refine wo_off rfl rfl ?_
             | refine wo_offn rfl ?_)
           refine ⟨rfl, ?_⟩)
        | (refine wd_read rfl rfl rfl rfl rfl rfl rfl ?_
           repeat (first
             | refine wo_nil ?_
             | refine wo_move rfl rfl ?_
             | refine wo_assign rfl rfl ?_
             | refine wo_fieldAddr rfl rfl rfl ?_
             | refine wo_nilCheck rfl rfl ?_
             | refine wo_extract rfl rfl rfl ?_
             | refine wo_load rfl rfl rfl rfl (by assumption) rfl ?_
             | refine wo_eql rfl rfl rfl ?_
             | refine wo_neq rfl rfl rfl ?_
             | refine wo_lss rfl rfl rfl ?_
             | refine wo_gtr rfl rfl rfl ?_
             | refine wo_leq rfl rfl rfl ?_
             | refine wo_geq rfl rfl rfl ?_
             | refine wo_not rfl rfl ?_
             | refine wo_lenStr rfl rfl rfl ?_
             | refine wo_len rfl rfl rfl rfl ?_
             | refine wo_buildSlice rfl rfl rfl ?_
             | refine wo_build rfl rfl rfl ?_
             | refine wo_pick rfl rfl rfl ?_
             | refine wo_strEq rfl rfl rfl ?_
             | refine wo_strNe rfl rfl rfl ?_
             | refine wo_on rfl ?_
             | refine wo_off rfl rfl ?_
             | refine wo_offn rfl ?_)
           refine ⟨rfl, _, rfl, ?_⟩))
      refine wd_nil ?_
      refine wg_dec rfl (fun h => absurd rfl h) fun _ => ?_
      repeat (first
        | refine wg_seq ?_
        | refine wg_skip ?_
        | refine wg_block ?_
        | refine wg_scope ?_
        | refine wg_inBlock ?_
        | refine wg_inScope ?_
        | refine wg_region ?_
        | refine wo_nil ?_
        | refine wo_move rfl rfl ?_
        | refine wo_assign rfl rfl ?_
        | refine wo_fieldAddr rfl rfl rfl ?_
        | refine wo_nilCheck rfl rfl ?_
        | refine wo_extract rfl rfl rfl ?_
        | refine wo_load rfl rfl rfl rfl (by assumption) rfl ?_
        | refine wo_eql rfl rfl rfl ?_
        | refine wo_neq rfl rfl rfl ?_
        | refine wo_lss rfl rfl rfl ?_
        | refine wo_gtr rfl rfl rfl ?_
        | refine wo_leq rfl rfl rfl ?_
        | refine wo_geq rfl rfl rfl ?_
        | refine wo_not rfl rfl ?_
        | refine wo_lenStr rfl rfl rfl ?_
        | refine wo_len rfl rfl rfl rfl ?_
        | refine wo_buildSlice rfl rfl rfl ?_
        | refine wo_build rfl rfl rfl ?_
        | refine wo_pick rfl rfl rfl ?_
        | refine wo_strEq rfl rfl rfl ?_
        | refine wo_strNe rfl rfl rfl ?_
        | refine wo_on rfl ?_
        | refine wo_off rfl rfl ?_
        | refine wo_offn rfl ?_)
      refine wo_add rfl rfl rfl (by omega) (by omega) ?_
      repeat (first
        | refine wg_seq ?_
        | refine wg_skip ?_
        | refine wg_block ?_
        | refine wg_scope ?_
        | refine wg_inBlock ?_
        | refine wg_inScope ?_
        | refine wg_region ?_
        | refine wo_nil ?_
        | refine wo_move rfl rfl ?_
        | refine wo_assign rfl rfl ?_
        | refine wo_fieldAddr rfl rfl rfl ?_
        | refine wo_nilCheck rfl rfl ?_
        | refine wo_extract rfl rfl rfl ?_
        | refine wo_load rfl rfl rfl rfl (by assumption) rfl ?_
        | refine wo_eql rfl rfl rfl ?_
        | refine wo_neq rfl rfl rfl ?_
        | refine wo_lss rfl rfl rfl ?_
        | refine wo_gtr rfl rfl rfl ?_
        | refine wo_leq rfl rfl rfl ?_
        | refine wo_geq rfl rfl rfl ?_
        | refine wo_not rfl rfl ?_
        | refine wo_lenStr rfl rfl rfl ?_
        | refine wo_len rfl rfl rfl rfl ?_
        | refine wo_buildSlice rfl rfl rfl ?_
        | refine wo_build rfl rfl rfl ?_
        | refine wo_pick rfl rfl rfl ?_
        | refine wo_strEq rfl rfl rfl ?_
        | refine wo_strNe rfl rfl rfl ?_
        | refine wo_on rfl ?_
        | refine wo_off rfl rfl ?_
        | refine wo_offn rfl ?_)
      refine wg_inLoop ?_
      refine wg_le (.put 1 (.slice f t o items.length c ex) (.put 5 (.ptr fr 0 0) (.put 6 (.ptr fm 0 0) (.put 7 (.int .i64 ((i + 1 : Nat) : Int)) .nil)))) ?_ ⟨rfl, rfl, rfl, rfl, trivial⟩
      exact ih (i + 1, vr', vm', bs2) A4 (by simp only; omega) ⟨hi, sm.only.wf, st3, sm.rd, inv.ne, fun g hg => inv.rm g (st.sub g hg), fun g hg => inv.mr g (sm.sub g hg), oA3, inv.or, inv.om, hbl⟩
    repeat (first
      | refine wg_seq ?_
      | refine wg_skip ?_
      | refine wg_block ?_
      | refine wg_scope ?_
      | refine wg_inBlock ?_
      | refine wg_inScope ?_
      | refine wg_region ?_
      | refine wo_nil ?_
      | refine wo_move rfl rfl ?_
      | refine wo_assign rfl rfl ?_
      | refine wo_fieldAddr rfl rfl rfl ?_
      | refine wo_nilCheck rfl rfl ?_
      | refine wo_extract rfl rfl rfl ?_
      | refine wo_load rfl rfl rfl rfl (by assumption) rfl ?_
      | refine wo_eql rfl rfl rfl ?_
      | refine wo_neq rfl rfl rfl ?_
      | refine wo_lss rfl rfl rfl ?_
      | refine wo_gtr rfl rfl rfl ?_
      | refine wo_leq rfl rfl rfl ?_
      | refine wo_geq rfl rfl rfl ?_
      | refine wo_not rfl rfl ?_
      | refine wo_lenStr rfl rfl rfl ?_
      | refine wo_len rfl rfl rfl rfl ?_
      | refine wo_buildSlice rfl rfl rfl ?_
      | refine wo_build rfl rfl rfl ?_
      | refine wo_pick rfl rfl rfl ?_
      | refine wo_strEq rfl rfl rfl ?_
      | refine wo_strNe rfl rfl rfl ?_
      | refine wo_on rfl ?_
      | refine wo_off rfl rfl ?_
      | refine wo_offn rfl ?_)
    refine wg_dec rfl (fun w2 => ?_) fun w2 => ?_
    · repeat (first
        | refine wg_seq ?_
        | refine wg_skip ?_
        | refine wg_block ?_
        | refine wg_scope ?_
        | refine wg_inBlock ?_
        | refine wg_inScope ?_
        | refine wg_region ?_
        | refine wo_nil ?_
        | refine wo_move rfl rfl ?_
        | refine wo_assign rfl rfl ?_
        | refine wo_fieldAddr rfl rfl rfl ?_
        | refine wo_nilCheck rfl rfl ?_
        | refine wo_extract rfl rfl rfl ?_
        | refine wo_load rfl rfl rfl rfl (by assumption) rfl ?_
        | refine wo_eql rfl rfl rfl ?_
        | refine wo_neq rfl rfl rfl ?_
        | refine wo_lss rfl rfl rfl ?_
        | refine wo_gtr rfl rfl rfl ?_
        | refine wo_leq rfl rfl rfl ?_
        | refine wo_geq rfl rfl rfl ?_
        | refine wo_not rfl rfl ?_
        | refine wo_lenStr rfl rfl rfl ?_
        | refine wo_len rfl rfl rfl rfl ?_
        | refine wo_buildSlice rfl rfl rfl ?_
        | refine wo_build rfl rfl rfl ?_
        | refine wo_pick rfl rfl rfl ?_
        | refine wo_strEq rfl rfl rfl ?_
        | refine wo_strNe rfl rfl rfl ?_
        | refine wo_on rfl ?_
        | refine wo_off rfl rfl ?_
        | refine wo_offn rfl ?_)
      refine wo_indexAddr i rfl rfl rfl rfl rfl hi ?_
      repeat (first
        | refine wg_seq ?_
        | refine wg_skip ?_
        | refine wg_block ?_
        | refine wg_scope ?_
        | refine wg_inBlock ?_
        | refine wg_inScope ?_
        | refine wg_region ?_
        | refine wo_nil ?_
        | refine wo_move rfl rfl ?_
        | refine wo_assign rfl rfl ?_
        | refine wo_fieldAddr rfl rfl rfl ?_
        | refine wo_nilCheck rfl rfl ?_
        | refine wo_extract rfl rfl rfl ?_
        | refine wo_load rfl rfl rfl rfl (by assumption) rfl ?_
        | refine wo_eql rfl rfl rfl ?_
        | refine wo_neq rfl rfl rfl ?_
        | refine wo_lss rfl rfl rfl ?_
        | refine wo_gtr rfl rfl rfl ?_
        | refine wo_leq rfl rfl rfl ?_
        | refine wo_geq rfl rfl rfl ?_
        | refine wo_not rfl rfl ?_
        | refine wo_lenStr rfl rfl rfl ?_
        | refine wo_len rfl rfl rfl rfl ?_
        | refine wo_buildSlice rfl rfl rfl ?_
        | refine wo_build rfl rfl rfl ?_
        | refine wo_pick rfl rfl rfl ?_
        | refine wo_strEq rfl rfl rfl ?_
        | refine wo_strNe rfl rfl rfl ?_
        | refine wo_on rfl ?_
        | refine wo_off rfl rfl ?_
        | refine wo_offn rfl ?_)
      refine wo_load rfl rfl rfl rfl hh hM ?_
      refine wo_call rfl rfl orc_cons rfl (rtext_spec inv.wf inv.r xok.m1 xok.m2) ?_
      rintro r A2 ⟨rfl, vr', st⟩
      have hh2 := st.only.keep _ _ hh hfr
      repeat (first
        | refine wg_seq ?_
        | refine wg_skip ?_
        | refine wg_block ?_
        | refine wg_scope ?_
        | refine wg_inBlock ?_
        | refine wg_inScope ?_
        | refine wg_region ?_
        | refine wo_nil ?_
        | refine wo_move rfl rfl ?_
        | refine wo_assign rfl rfl ?_
        | refine wo_fieldAddr rfl rfl rfl ?_
        | refine wo_nilCheck rfl rfl ?_
        | refine wo_extract rfl rfl rfl ?_
        | refine wo_load rfl rfl rfl rfl (by assumption) rfl ?_
        | refine wo_eql rfl rfl rfl ?_
        | refine wo_neq rfl rfl rfl ?_
        | refine wo_lss rfl rfl rfl ?_
        | refine wo_gtr rfl rfl rfl ?_
        | refine wo_leq rfl rfl rfl ?_
        | refine wo_geq rfl rfl rfl ?_
        | refine wo_not rfl rfl ?_
        | refine wo_lenStr rfl rfl rfl ?_
        | refine wo_len rfl rfl rfl rfl ?_
        | refine wo_buildSlice rfl rfl rfl ?_
        | refine wo_build rfl rfl rfl ?_
        | refine wo_pick rfl rfl rfl ?_
        | refine wo_strEq rfl rfl rfl ?_
        | refine wo_strNe rfl rfl rfl ?_
        | refine wo_on rfl ?_
        | refine wo_off rfl rfl ?_
        | refine wo_offn rfl ?_)
      refine wo_indexAddr i rfl rfl rfl rfl rfl hi ?_
      repeat (first
        | refine wg_seq ?_
        | refine wg_skip ?_
        | refine wg_block ?_
        | refine wg_scope ?_
        | refine wg_inBlock ?_
        | refine wg_inScope ?_
        | refine wg_region ?_
        | refine wo_nil ?_
        | refine wo_move rfl rfl ?_
        | refine wo_assign rfl rfl ?_
        | refine wo_fieldAddr rfl rfl rfl ?_
        | refine wo_nilCheck rfl rfl ?_
        | refine wo_extract rfl rfl rfl ?_
        | refine wo_load rfl rfl rfl rfl (by assumption) rfl ?_
        | refine wo_eql rfl rfl rfl ?_
        | refine wo_neq rfl rfl rfl ?_
        | refine wo_lss rfl rfl rfl ?_
        | refine wo_gtr rfl rfl rfl ?_
        | refine wo_leq rfl rfl rfl ?_
        | refine wo_geq rfl rfl rfl ?_
        | refine wo_not rfl rfl ?_
        | refine wo_lenStr rfl rfl rfl ?_
        | refine wo_len rfl rfl rfl rfl ?_
        | refine wo_buildSlice rfl rfl rfl ?_
        | refine wo_build rfl rfl rfl ?_
        | refine wo_pick rfl rfl rfl ?_
        | refine wo_strEq rfl rfl rfl ?_
        | refine wo_strNe rfl rfl rfl ?_
        | refine wo_on rfl ?_
        | refine wo_off rfl rfl ?_
        | refine wo_offn rfl ?_)
      refine wo_load rfl rfl rfl rfl hh2 hM ?_
      refine wo_call rfl rfl orc_cons rfl (ref_text st.only.wf (hmk st) (by omega) xok.m1 xok.m2) ?_
      rintro r A3 ⟨rfl, vm', sm⟩
      have hbl := hdl (rdT x.most bs1).2.2
      generalize (rdT x.most bs1).2.1 = e
      generalize (rdT x.most bs1).1 = n
      generalize bs1.drop (rdT x.most bs1).2.2 = bs2 at st sm hbl
      repeat (first
        | refine wg_seq ?_
        | refine wg_skip ?_
        | refine wg_block ?_
        | refine wg_scope ?_
        | refine wg_inBlock ?_
        | refine wg_inScope ?_
        | refine wg_region ?_
        | refine wo_nil ?_
        | refine wo_move rfl rfl ?_
        | refine wo_assign rfl rfl ?_
        | refine wo_fieldAddr rfl rfl rfl ?_
        | refine wo_nilCheck rfl rfl ?_
        | refine wo_extract rfl rfl rfl ?_
        | refine wo_load rfl rfl rfl rfl (by assumption) rfl ?_
        | refine wo_eql rfl rfl rfl ?_
        | refine wo_neq rfl rfl rfl ?_
        | refine wo_lss rfl rfl rfl ?_
        | refine wo_gtr rfl rfl rfl ?_
        | refine wo_leq rfl rfl rfl ?_
        | refine wo_geq rfl rfl rfl ?_
        | refine wo_not rfl rfl ?_
        | refine wo_lenStr rfl rfl rfl ?_
        | refine wo_len rfl rfl rfl rfl ?_
        | refine wo_buildSlice rfl rfl rfl ?_
        | refine wo_build rfl rfl rfl ?_
        | refine wo_pick rfl rfl rfl ?_
        | refine wo_strEq rfl rfl rfl ?_
        | refine wo_strNe rfl rfl rfl ?_
        | refine wo_on rfl ?_
        | refine wo_off rfl rfl ?_
        | refine wo_offn rfl ?_)
      repeat (first
        | refine wo_nil ?_
        | refine wo_move rfl rfl ?_
        | refine wo_assign rfl rfl ?_
        | refine wo_fieldAddr rfl rfl rfl ?_
        | refine wo_nilCheck rfl rfl ?_
        | refine wo_extract rfl rfl rfl ?_
        | refine wo_load rfl rfl rfl rfl (by assumption) rfl ?_
        | refine wo_eql rfl rfl rfl ?_
        | refine wo_neq rfl rfl rfl ?_
        | refine wo_lss rfl rfl rfl ?_
        | refine wo_gtr rfl rfl rfl ?_
        | refine wo_leq rfl rfl rfl ?_
        | refine wo_geq rfl rfl rfl ?_
        | refine wo_not rfl rfl ?_
        | refine wo_lenStr rfl rfl rfl ?_
        | refine wo_len rfl rfl rfl rfl ?_
        | refine wo_buildSlice rfl rfl rfl ?_
        | refine wo_build rfl rfl rfl ?_
        | refine wo_pick rfl rfl rfl ?_
        | refine wo_strEq rfl rfl rfl ?_
        | refine wo_strNe rfl rfl rfl ?_
        | refine wo_on rfl ?_
        | refine wo_off rfl rfl ?_
        | refine wo_offn rfl ?_)
      repeat (first
        | refine wg_seq ?_
        | refine wg_skip ?_
        | refine wg_block ?_
        | refine wg_scope ?_
        | refine wg_inBlock ?_
        | refine wg_inScope ?_)
      have hok : some (AV.bool (decide (n = n))) = some (AV.bool true) := congrArg (fun x => some (AV.bool x)) (decide_eq_true rfl)
      have st3 : Rd A3 fr vr' bs2 := st.rd.keep sm.only fun g hg e => by
        have e : g = fm := e
        rcases hg with hg | hg
        · have hg : g = fr := hg
          exact inv.ne (hg.symm.trans e)
        · exact inv.rm g (st.sub g hg) e
      have oA3 : Only A A3 none' := Only.own hw (Only.own hw inv.only st.only fun g hg => by
        have hg : g = fr := hg
        have := inv.or
        omega) sm.only fun g hg => by
        have hg : g = fm := hg
        have := inv.om
        omega
      have hcm := sm.rd.cell
      refine wg_le (.put 1 (.slice f t o items.length c ex) (.put 5 (.ptr fr 0 0) (.put 6 (.ptr fm 0 0) (.put 7 (.int .i64 (i : Int)) (.put 8 (.int .i64 (e : Int)) (.put 9 (.int .i64 (e : Int)) (.put 10 (.bool true) .nil))))))) ?_ ⟨rfl, rfl, rfl, rfl, rfl, rfl, hok, trivial⟩
      refine wg_draw rfl ?_
      repeat (first
        | (refine wd_pure rfl rfl rfl rfl rfl ?_
           repeat (first
             | refine wo_nil ?_
             | refine wo_move rfl rfl ?_
             | refine wo_assign rfl rfl ?_
             | refine wo_fieldAddr rfl rfl rfl ?_
             | refine wo_nilCheck rfl rfl ?_
             | refine wo_extract rfl rfl rfl ?_
             | refine wo_load rfl rfl rfl rfl (by assumption) rfl ?_
             | refine wo_eql rfl rfl rfl ?_
             | refine wo_neq rfl rfl rfl ?_
             | refine wo_lss rfl rfl rfl ?_
             | refine wo_gtr rfl rfl rfl ?_
             | refine wo_leq rfl rfl rfl ?_
             | refine wo_geq rfl rfl rfl ?_
             | refine wo_not rfl rfl ?_
             | refine wo_lenStr rfl rfl rfl ?_
             | refine wo_len rfl rfl rfl rfl ?_
             | refine wo_buildSlice rfl rfl rfl ?_
             | refine wo_build rfl rfl rfl ?_
             | refine wo_pick rfl rfl rfl ?_
             | refine wo_strEq rfl rfl rfl ?_
             | refine wo_strNe rfl rfl rfl ?_
             | refine wo_on rfl ?_
             | refine wo_off rfl rfl ?_
             | refine wo_offn rfl ?_)
           refine ⟨rfl, ?_⟩)
        | (refine wd_read rfl rfl rfl rfl rfl rfl rfl ?_
           repeat (first
             | refine wo_nil ?_
             | refine wo_move rfl rfl ?_
             | refine wo_assign rfl rfl ?_
             | refine wo_fieldAddr rfl rfl rfl ?_
             | refine wo_nilCheck rfl rfl ?_
             | refine wo_extract rfl rfl rfl ?_
             | refine wo_load rfl rfl rfl rfl (by assumption) rfl ?_
             | refine wo_eql rfl rfl rfl ?_
             | refine wo_neq rfl rfl rfl ?_
             | refine wo_lss rfl rfl rfl ?_
             | refine wo_gtr rfl rfl rfl ?_
             | refine wo_leq rfl rfl rfl ?_
             | refine wo_geq rfl rfl rfl ?_
             | refine wo_not rfl rfl ?_
             | refine wo_lenStr rfl rfl rfl ?_
             | refine wo_len rfl rfl rfl rfl ?_
             | refine wo_buildSlice rfl rfl rfl ?_
             | refine wo_build rfl rfl rfl ?_
             | refine wo_pick rfl rfl rfl ?_
             | refine wo_strEq rfl rfl rfl ?_
             | refine wo_strNe rfl rfl rfl ?_
             | refine wo_on rfl ?_
             | refine wo_off rfl rfl ?_
             | refine wo_offn rfl ?_)
           refine ⟨rfl, _, rfl, ?_⟩))
      refine wd_is 193 false rfl (decide_eq_false fun h => h rfl) ?_
      repeat (first
        | (refine wd_pure rfl rfl rfl rfl rfl ?_
           repeat (first
             | refine wo_nil ?_
             | refine wo_move rfl rfl ?_
             | refine wo_assign rfl rfl ?_
             | refine wo_fieldAddr rfl rfl rfl ?_
             | refine wo_nilCheck rfl rfl ?_
             | refine wo_extract rfl rfl rfl ?_
             | refine wo_load rfl rfl rfl rfl (by assumption) rfl ?_
             | refine wo_eql rfl rfl rfl ?_
             | refine wo_neq rfl rfl rfl ?_
             | refine wo_lss rfl rfl rfl ?_
             | refine wo_gtr rfl rfl rfl ?_
             | refine wo_leq rfl rfl rfl ?_
             | refine wo_geq rfl rfl rfl ?_
             | refine wo_not rfl rfl ?_
             | refine wo_lenStr rfl rfl rfl ?_
             | refine wo_len rfl rfl rfl rfl ?_
             | refine wo_buildSlice rfl rfl rfl ?_
             | refine wo_build rfl rfl rfl ?_
             | refine wo_pick rfl rfl rfl ?_
             | refine wo_strEq rfl rfl rfl ?_
             | refine wo_strNe rfl rfl rfl ?_
             | refine wo_on rfl ?_
             | refine wo_off rfl rfl ?_
             | refine wo_offn rfl ?_)
           refine ⟨rfl, ?_⟩)
        | (refine wd_read rfl rfl rfl rfl rfl rfl rfl ?_
           repeat (first
             | refine wo_nil ?_
             | refine wo_move rfl rfl ?_
             | refine wo_assign rfl rfl ?_
             | refine wo_fieldAddr rfl rfl rfl ?_
             | refine wo_nilCheck rfl rfl ?_
             | refine wo_extract rfl rfl rfl ?_
             | refine wo_load rfl rfl rfl rfl (by assumption) rfl ?_
             | refine wo_eql rfl rfl rfl ?_
             | refine wo_neq rfl rfl rfl ?_
             | refine wo_lss rfl rfl rfl ?_
             | refine wo_gtr rfl rfl rfl ?_
             | refine wo_leq rfl rfl rfl ?_
             | refine wo_geq rfl rfl rfl ?_
             | refine wo_not rfl rfl ?_
             | refine wo_lenStr rfl rfl rfl ?_
             | refine wo_len rfl rfl rfl rfl ?_
             | refine wo_buildSlice rfl rfl rfl ?_
             | refine wo_build rfl rfl rfl ?_
             | refine wo_pick rfl rfl rfl ?_
             | refine wo_strEq rfl rfl rfl ?_
             | refine wo_strNe rfl rfl rfl ?_
             | refine wo_on rfl ?_
             | refine wo_off rfl rfl ?_
             | refine wo_offn rfl ?_)
           refine ⟨rfl, _, rfl, ?_⟩))
      refine wd_read rfl rfl rfl rfl rfl rfl rfl ?_
      refine wo_on rfl ?_
      refine wo_len rfl rfl rfl sm.rd.full.row.lenV ?_
      repeat (first
        | refine wo_nil ?_
        | refine wo_move rfl rfl ?_
        | refine wo_assign rfl rfl ?_
        | refine wo_fieldAddr rfl rfl rfl ?_
        | refine wo_nilCheck rfl rfl ?_
        | refine wo_extract rfl rfl rfl ?_
        | refine wo_load rfl rfl rfl rfl (by assumption) rfl ?_
        | refine wo_eql rfl rfl rfl ?_
        | refine wo_neq rfl rfl rfl ?_
        | refine wo_lss rfl rfl rfl ?_
        | refine wo_gtr rfl rfl rfl ?_
        | refine wo_leq rfl rfl rfl ?_
        | refine wo_geq rfl rfl rfl ?_
        | refine wo_not rfl rfl ?_
        | refine wo_lenStr rfl rfl rfl ?_
        | refine wo_len rfl rfl rfl rfl ?_
        | refine wo_buildSlice rfl rfl rfl ?_
        | refine wo_build rfl rfl rfl ?_
        | refine wo_pick rfl rfl rfl ?_
        | refine wo_strEq rfl rfl rfl ?_
        | refine wo_strNe rfl rfl rfl ?_
        | refine wo_on rfl ?_
        | refine wo_off rfl rfl ?_
        | refine wo_offn rfl ?_)
      refine ⟨rfl, _, rfl, ?_⟩
      refine wd_act rfl rfl rfl ?_
      refine wo_on rfl ?_
      refine wo_call rfl rfl orc_cons rfl (left_spec st3) ?_
      rintro r A4 ⟨rfl, rfl⟩
      repeat (first
        | refine wo_nil ?_
        | refine wo_move rfl rfl ?_
        | refine wo_assign rfl rfl ?_
        | refine wo_fieldAddr rfl rfl rfl ?_
        | refine wo_nilCheck rfl rfl ?_
        | refine wo_extract rfl rfl rfl ?_
        | refine wo_load rfl rfl rfl rfl (by assumption) rfl ?_
        | refine wo_eql rfl rfl rfl ?_
        | refine wo_neq rfl rfl rfl ?_
        | refine wo_lss rfl rfl rfl ?_
        | refine wo_gtr rfl rfl rfl ?_
        | refine wo_leq rfl rfl rfl ?_
        | refine wo_geq rfl rfl rfl ?_
        | refine wo_not rfl rfl ?_
        | refine wo_lenStr rfl rfl rfl ?_
        | refine wo_len rfl rfl rfl rfl ?_
        | refine wo_buildSlice rfl rfl rfl ?_
        | refine wo_build rfl rfl rfl ?_
        | refine wo_pick rfl rfl rfl ?_
        | refine wo_strEq rfl rfl rfl ?_
        | refine wo_strNe rfl rfl rfl ?_
        | refine wo_on rfl ?_
        | refine wo_off rfl rfl ?_
        | refine wo_offn rfl ?_)
      refine ⟨⟨.inr ⟨fun F hF => ?_, stillInt⟩, .inr ⟨fun F hF => ?_, sm.rd.full.still⟩, trivial⟩, ?_⟩
      · show liftR (lenA (ES 13) 27 (ev F (.tmp 199)) A4) = _
        rw [hF.ev (x := .tmp 199) (v := vm') rfl, lenA_eq rfl sm.rd.full.row.lenV]
        rfl
      · show liftR (loadA (ES 13) 27 (ev F (.tmp 198)) A4) = _
        rw [hF.ev (x := .tmp 198) (v := .ptr fm 0 0) rfl, loadA_eq rfl rfl hcm rfl]
        rfl
      refine wd_pure rfl rfl rfl rfl rfl ?_
      repeat (first
        | refine wo_nil ?_
        | refine wo_move rfl rfl ?_
        | refine wo_assign rfl rfl ?_
        | refine wo_fieldAddr rfl rfl rfl ?_
        | refine wo_nilCheck rfl rfl ?_
        | refine wo_extract rfl rfl rfl ?_
        | refine wo_load rfl rfl rfl rfl (by assumption) rfl ?_
        | refine wo_eql rfl rfl rfl ?_
        | refine wo_neq rfl rfl rfl ?_
        | refine wo_lss rfl rfl rfl ?_
        | refine wo_gtr rfl rfl rfl ?_
        | refine wo_leq rfl rfl rfl ?_
        | refine wo_geq rfl rfl rfl ?_
        | refine wo_not rfl rfl ?_
        | refine wo_lenStr rfl rfl rfl ?_
        | refine wo_len rfl rfl rfl rfl ?_
        | refine wo_buildSlice rfl rfl rfl ?_
        | refine wo_build rfl rfl rfl ?_
        | refine wo_pick rfl rfl rfl ?_
        | refine wo_strEq rfl rfl rfl ?_
        | refine wo_strNe rfl rfl rfl ?_
        | refine wo_on rfl ?_
        | refine wo_off rfl rfl ?_
        | refine wo_offn rfl ?_)
      refine ⟨rfl, ?_⟩
      repeat (first
        | (refine wd_pure rfl rfl rfl rfl rfl ?_
           repeat (first
             | refine wo_nil ?_
             | refine wo_move rfl rfl ?_
             | refine wo_assign rfl rfl ?_
             | refine wo_fieldAddr rfl rfl rfl ?_
             | refine wo_nilCheck rfl rfl ?_
             | refine wo_extract rfl rfl rfl ?_
             | refine wo_load rfl rfl rfl rfl (by assumption) rfl ?_
             | refine wo_eql rfl rfl rfl ?_
             | refine wo_neq rfl rfl rfl ?_
             | refine wo_lss rfl rfl rfl ?_
             | refine wo_gtr rfl rfl rfl ?_
             | refine wo_leq rfl rfl rfl ?_
             | refine wo_geq rfl rfl rfl ?_
             | refine wo_not rfl rfl ?_
             | refine wo_lenStr rfl rfl rfl ?_
             | refine wo_len rfl rfl rfl rfl ?_
             | refine wo_buildSlice rfl rfl rfl ?_
             | refine wo_build rfl rfl rfl ?_
             | refine wo_pick rfl rfl rfl ?_
             | refine wo_strEq rfl rfl rfl ?_
             | refine wo_strNe rfl rfl rfl ?_
             | refine wo_on rfl ?_
             | refine wo_off rfl rfl ?_
             | refine wo_offn rfl ?_)
           refine ⟨rfl, ?_⟩)
        | (refine wd_read rfl rfl rfl rfl rfl rfl rfl ?_
           repeat (first
             | refine wo_nil ?_
             | refine wo_move rfl rfl ?_
             | refine wo_assign rfl rfl ?_
             | refine wo_fieldAddr rfl rfl rfl ?_
             | refine wo_nilCheck rfl rfl ?_
             | refine wo_extract rfl rfl rfl ?_
             | refine wo_load rfl rfl rfl rfl (by assumption) rfl ?_
             | refine wo_eql rfl rfl rfl ?_
             | refine wo_neq rfl rfl rfl ?_
             | refine wo_lss rfl rfl rfl ?_
             | refine wo_gtr rfl rfl rfl ?_
             | refine wo_leq rfl rfl rfl ?_
             | refine wo_geq rfl rfl rfl ?_
             | refine wo_not rfl rfl ?_
             | refine wo_lenStr rfl rfl rfl ?_
             | refine wo_len rfl rfl rfl rfl ?_
             | refine wo_buildSlice rfl rfl rfl ?_
             | refine wo_build rfl rfl rfl ?_
             | refine wo_pick rfl rfl rfl ?_
             | refine wo_strEq rfl rfl rfl ?_
             | refine wo_strNe rfl rfl rfl ?_
             | refine wo_on rfl ?_
             | refine wo_off rfl rfl ?_
             | refine wo_offn rfl ?_)
           refine ⟨rfl, _, rfl, ?_⟩))
      refine wd_nil ?_
      refine wg_dec rfl (fun h => absurd rfl h) fun _ => ?_
      repeat (first
        | refine wg_seq ?_
        | refine wg_skip ?_
        | refine wg_block ?_
        | refine wg_scope ?_
        | refine wg_inBlock ?_
        | refine wg_inScope ?_
        | refine wg_region ?_
        | refine wo_nil ?_
        | refine wo_move rfl rfl ?_
        | refine wo_assign rfl rfl ?_
        | refine wo_fieldAddr rfl rfl rfl ?_
        | refine wo_nilCheck rfl rfl ?_
        | refine wo_extract rfl rfl rfl ?_
        | refine wo_load rfl rfl rfl rfl (by assumption) rfl ?_
        | refine wo_eql rfl rfl rfl ?_
        | refine wo_neq rfl rfl rfl ?_
        | refine wo_lss rfl rfl rfl ?_
        | refine wo_gtr rfl rfl rfl ?_
        | refine wo_leq rfl rfl rfl ?_
        | refine wo_geq rfl rfl rfl ?_
        | refine wo_not rfl rfl ?_
        | refine wo_lenStr rfl rfl rfl ?_
        | refine wo_len rfl rfl rfl rfl ?_
        | refine wo_buildSlice rfl rfl rfl ?_
        | refine wo_build rfl rfl rfl ?_
        | refine wo_pick rfl rfl rfl ?_
        | refine wo_strEq rfl rfl rfl ?_
        | refine wo_strNe rfl rfl rfl ?_
        | refine wo_on rfl ?_
        | refine wo_off rfl rfl ?_
        | refine wo_offn rfl ?_)
      refine wo_add rfl rfl rfl (by omega) (by omega) ?_
      repeat (first
        | refine wg_seq ?_
        | refine wg_skip ?_
        | refine wg_block ?_
        | refine wg_scope ?_
        | refine wg_inBlock ?_
        | refine wg_inScope ?_
        | refine wg_region ?_
        | refine wo_nil ?_
        | refine wo_move rfl rfl ?_
        | refine wo_assign rfl rfl ?_
        | refine wo_fieldAddr rfl rfl rfl ?_
        | refine wo_nilCheck rfl rfl ?_
        | refine wo_extract rfl rfl rfl ?_
        | refine wo_load rfl rfl rfl rfl (by assumption) rfl ?_
        | refine wo_eql rfl rfl rfl ?_
        | refine wo_neq rfl rfl rfl ?_
        | refine wo_lss rfl rfl rfl ?_
        | refine wo_gtr rfl rfl rfl ?_
        | refine wo_leq rfl rfl rfl ?_
        | refine wo_geq rfl rfl rfl ?_
        | refine wo_not rfl rfl ?_
        | refine wo_lenStr rfl rfl rfl ?_
        | refine wo_len rfl rfl rfl rfl ?_
        | refine wo_buildSlice rfl rfl rfl ?_
        | refine wo_build rfl rfl rfl ?_
        | refine wo_pick rfl rfl rfl ?_
        | refine wo_strEq rfl rfl rfl ?_
        | refine wo_strNe rfl rfl rfl ?_
        | refine wo_on rfl ?_
        | refine wo_off rfl rfl ?_
        | refine wo_offn rfl ?_)
      refine wg_inLoop ?_
      refine wg_le (.put 1 (.slice f t o items.length c ex) (.put 5 (.ptr fr 0 0) (.put 6 (.ptr fm 0 0) (.put 7 (.int .i64 ((i + 1 : Nat) : Int)) .nil)))) ?_ ⟨rfl, rfl, rfl, rfl, trivial⟩
      exact ih (i + 1, vr', vm', bs2) A4 (by simp only; omega) ⟨hi, sm.only.wf, st3, sm.rd, inv.ne, fun g hg => inv.rm g (st.sub g hg), fun g hg => inv.mr g (sm.sub g hg), oA3, inv.or, inv.om, hbl⟩
    repeat (first
      | refine wg_seq ?_
      | refine wg_skip ?_
      | refine wg_block ?_
      | refine wg_scope ?_
      | refine wg_inBlock ?_
      | refine wg_inScope ?_
      | refine wg_region ?_
      | refine wo_nil ?_
      | refine wo_move rfl rfl ?_
      | refine wo_assign rfl rfl ?_
      | refine wo_fieldAddr rfl rfl rfl ?_
      | refine wo_nilCheck rfl rfl ?_
      | refine wo_extract rfl rfl rfl ?_
      | refine wo_load rfl rfl rfl rfl (by assumption) rfl ?_
      | refine wo_eql rfl rfl rfl ?_
      | refine wo_neq rfl rfl rfl ?_
      | refine wo_lss rfl rfl rfl ?_
      | refine wo_gtr rfl rfl rfl ?_
      | refine wo_leq rfl rfl rfl ?_
      | refine wo_geq rfl rfl rfl ?_
      | refine wo_not rfl rfl ?_
      | refine wo_lenStr rfl rfl rfl ?_
      | refine wo_len rfl rfl rfl rfl ?_
      | refine wo_buildSlice rfl rfl rfl ?_
      | refine wo_build rfl rfl rfl ?_
      | refine wo_pick rfl rfl rfl ?_
      | refine wo_strEq rfl rfl rfl ?_
      | refine wo_strNe rfl rfl rfl ?_
      | refine wo_on rfl ?_
      | refine wo_off rfl rfl ?_
      | refine wo_offn rfl ?_)
    refine wg_dec rfl (fun w3 => ?_) fun w3 => ?_
    · repeat (first
        | refine wg_seq ?_
        | refine wg_skip ?_
        | refine wg_block ?_
        | refine wg_scope ?_
        | refine wg_inBlock ?_
        | refine wg_inScope ?_
        | refine wg_region ?_
        | refine wo_nil ?_
        | refine wo_move rfl rfl ?_
        | refine wo_assign rfl rfl ?_
        | refine wo_fieldAddr rfl rfl rfl ?_
        | refine wo_nilCheck rfl rfl ?_
        | refine wo_extract rfl rfl rfl ?_
        | refine wo_load rfl rfl rfl rfl (by assumption) rfl ?_
        | refine wo_eql rfl rfl rfl ?_
        | refine wo_neq rfl rfl rfl ?_
        | refine wo_lss rfl rfl rfl ?_
        | refine wo_gtr rfl rfl rfl ?_
        | refine wo_leq rfl rfl rfl ?_
        | refine wo_geq rfl rfl rfl ?_
        | refine wo_not rfl rfl ?_
        | refine wo_lenStr rfl rfl rfl ?_
        | refine wo_len rfl rfl rfl rfl ?_
        | refine wo_buildSlice rfl rfl rfl ?_
        | refine wo_build rfl rfl rfl ?_
        | refine wo_pick rfl rfl rfl ?_
        | refine wo_strEq rfl rfl rfl ?_
        | refine wo_strNe rfl rfl rfl ?_
        | refine wo_on rfl ?_
        | refine wo_off rfl rfl ?_
        | refine wo_offn rfl ?_)
      refine wo_call rfl rfl orc_cons rfl (rcplx_spec inv.wf inv.r) ?_
      rintro r A2 ⟨rfl, vr', st⟩
      repeat (first
        | refine wg_seq ?_
        | refine wg_skip ?_
        | refine wg_block ?_
        | refine wg_scope ?_
        | refine wg_inBlock ?_
        | refine wg_inScope ?_
        | refine wg_region ?_
        | refine wo_nil ?_
        | refine wo_move rfl rfl ?_
        | refine wo_assign rfl rfl ?_
        | refine wo_fieldAddr rfl rfl rfl ?_
        | refine wo_nilCheck rfl rfl ?_
        | refine wo_extract rfl rfl rfl ?_
        | refine wo_load rfl rfl rfl rfl (by assumption) rfl ?_
        | refine wo_eql rfl rfl rfl ?_
        | refine wo_neq rfl rfl rfl ?_
        | refine wo_lss rfl rfl rfl ?_
        | refine wo_gtr rfl rfl rfl ?_
        | refine wo_leq rfl rfl rfl ?_
        | refine wo_geq rfl rfl rfl ?_
        | refine wo_not rfl rfl ?_
        | refine wo_lenStr rfl rfl rfl ?_
        | refine wo_len rfl rfl rfl rfl ?_
        | refine wo_buildSlice rfl rfl rfl ?_
        | refine wo_build rfl rfl rfl ?_
        | refine wo_pick rfl rfl rfl ?_
        | refine wo_strEq rfl rfl rfl ?_
        | refine wo_strNe rfl rfl rfl ?_
        | refine wo_on rfl ?_
        | refine wo_off rfl rfl ?_
        | refine wo_offn rfl ?_)
      refine wo_call rfl rfl orc_cons rfl (ref_cplx st.only.wf (hmk st)) ?_
      rintro r A3 ⟨rfl, vm', sm⟩
      have hbl := hdl (rdX bs1).2.2
      generalize (rdX bs1).2.1 = e
      generalize (rdX bs1).1.1 = n1
      generalize (rdX bs1).1.2 = n2
      generalize bs1.drop (rdX bs1).2.2 = bs2 at st sm hbl
      repeat (first
        | refine wg_seq ?_
        | refine wg_skip ?_
        | refine wg_block ?_
        | refine wg_scope ?_
        | refine wg_inBlock ?_
        | refine wg_inScope ?_
        | refine wg_region ?_
        | refine wo_nil ?_
        | refine wo_move rfl rfl ?_
        | refine wo_assign rfl rfl ?_
        | refine wo_fieldAddr rfl rfl rfl ?_
        | refine wo_nilCheck rfl rfl ?_
        | refine wo_extract rfl rfl rfl ?_
        | refine wo_load rfl rfl rfl rfl (by assumption) rfl ?_
        | refine wo_eql rfl rfl rfl ?_
        | refine wo_neq rfl rfl rfl ?_
        | refine wo_lss rfl rfl rfl ?_
        | refine wo_gtr rfl rfl rfl ?_
        | refine wo_leq rfl rfl rfl ?_
        | refine wo_geq rfl rfl rfl ?_
        | refine wo_not rfl rfl ?_
        | refine wo_lenStr rfl rfl rfl ?_
        | refine wo_len rfl rfl rfl rfl ?_
        | refine wo_buildSlice rfl rfl rfl ?_
        | refine wo_build rfl rfl rfl ?_
        | refine wo_pick rfl rfl rfl ?_
        | refine wo_strEq rfl rfl rfl ?_
        | refine wo_strNe rfl rfl rfl ?_
        | refine wo_on rfl ?_
        | refine wo_off rfl rfl ?_
        | refine wo_offn rfl ?_)
      refine wo_call rfl rfl orc_cons rfl alike_spec ?_
      rintro r A4 ⟨rfl, h4⟩
      obtain rfl : A3 = A4 := h4.symm
      repeat (first
        | refine wo_nil ?_
        | refine wo_move rfl rfl ?_
        | refine wo_assign rfl rfl ?_
        | refine wo_fieldAddr rfl rfl rfl ?_
        | refine wo_nilCheck rfl rfl ?_
        | refine wo_extract rfl rfl rfl ?_
        | refine wo_load rfl rfl rfl rfl (by assumption) rfl ?_
        | refine wo_eql rfl rfl rfl ?_
        | refine wo_neq rfl rfl rfl ?_
        | refine wo_lss rfl rfl rfl ?_
        | refine wo_gtr rfl rfl rfl ?_
        | refine wo_leq rfl rfl rfl ?_
        | refine wo_geq rfl rfl rfl ?_
        | refine wo_not rfl rfl ?_
        | refine wo_lenStr rfl rfl rfl ?_
        | refine wo_len rfl rfl rfl rfl ?_
        | refine wo_buildSlice rfl rfl rfl ?_
        | refine wo_build rfl rfl rfl ?_
        | refine wo_pick rfl rfl rfl ?_
        | refine wo_strEq rfl rfl rfl ?_
        | refine wo_strNe rfl rfl rfl ?_
        | refine wo_on rfl ?_
        | refine wo_off rfl rfl ?_
        | refine wo_offn rfl ?_)
      repeat (first
        | refine wg_seq ?_
        | refine wg_skip ?_
        | refine wg_block ?_
        | refine wg_scope ?_
        | refine wg_inBlock ?_
        | refine wg_inScope ?_)
      have hok : some (AV.bool true) = some (AV.bool true) := rfl
      have st3 : Rd A3 fr vr' bs2 := st.rd.keep sm.only fun g hg e => by
        have e : g = fm := e
        rcases hg with hg | hg
        · have hg : g = fr := hg
          exact inv.ne (hg.symm.trans e)
        · exact inv.rm g (st.sub g hg) e
      have oA3 : Only A A3 none' := Only.own hw (Only.own hw inv.only st.only fun g hg => by
        have hg : g = fr := hg
        have := inv.or
        omega) sm.only fun g hg => by
        have hg : g = fm := hg
        have := inv.om
        omega
      have hcm := sm.rd.cell
      refine wg_le (.put 1 (.slice f t o items.length c ex) (.put 5 (.ptr fr 0 0) (.put 6 (.ptr fm 0 0) (.put 7 (.int .i64 (i : Int)) (.put 8 (.int .i64 (e : Int)) (.put 9 (.int .i64 (e : Int)) (.put 10 (.bool true) .nil))))))) ?_ ⟨rfl, rfl, rfl, rfl, rfl, rfl, hok, trivial⟩
      refine wg_draw rfl ?_
      repeat (first
        | (refine wd_pure rfl rfl rfl rfl rfl ?_
           repeat (first
             | refine wo_nil ?_
             | refine wo_move rfl rfl ?_
             | refine wo_assign rfl rfl ?_
             | refine wo_fieldAddr rfl rfl rfl ?_
             | refine wo_nilCheck rfl rfl ?_
             | refine wo_extract rfl rfl rfl ?_
             | refine wo_load rfl rfl rfl rfl (by assumption) rfl ?_
             | refine wo_eql rfl rfl rfl ?_
             | refine wo_neq rfl rfl rfl ?_
             | refine wo_lss rfl rfl rfl ?_
             | refine wo_gtr rfl rfl rfl ?_
             | refine wo_leq rfl rfl rfl ?_
             | refine wo_geq rfl rfl rfl ?_
             | refine wo_not rfl rfl ?_
             | refine wo_lenStr rfl rfl rfl ?_
             | refine wo_len rfl rfl rfl rfl ?_
             | refine wo_buildSlice rfl rfl rfl ?_
             | refine wo_build rfl rfl rfl ?_
             | refine wo_pick rfl rfl rfl ?_
             | refine wo_strEq rfl rfl rfl ?_
             | refine wo_strNe rfl rfl rfl ?_
             | refine wo_on rfl ?_
             | refine wo_off rfl rfl ?_
             | refine wo_offn rfl ?_)
           refine ⟨rfl, ?_⟩)
        | (refine wd_read rfl rfl rfl rfl rfl rfl rfl ?_
           repeat (first
             | refine wo_nil ?_
             | refine wo_move rfl rfl ?_
             | refine wo_assign rfl rfl ?_
             | refine wo_fieldAddr rfl rfl rfl ?_
             | refine wo_nilCheck rfl rfl ?_
             | refine wo_extract rfl rfl rfl ?_
             | refine wo_load rfl rfl rfl rfl (by assumption) rfl ?_
             | refine wo_eql rfl rfl rfl ?_
             | refine wo_neq rfl rfl rfl ?_
             | refine wo_lss rfl rfl rfl ?_
             | refine wo_gtr rfl rfl rfl ?_
             | refine wo_leq rfl rfl rfl ?_
             | refine wo_geq rfl rfl rfl ?_
             | refine wo_not rfl rfl ?_
             | refine wo_lenStr rfl rfl rfl ?_
             | refine wo_len rfl rfl rfl rfl ?_
             | refine wo_buildSlice rfl rfl rfl ?_
             | refine wo_build rfl rfl rfl ?_
             | refine wo_pick rfl rfl rfl ?_
             | refine wo_strEq rfl rfl rfl ?_
             | refine wo_strNe rfl rfl rfl ?_
             | refine wo_on rfl ?_
             | refine wo_off rfl rfl ?_
             | refine wo_offn rfl ?_)
           refine ⟨rfl, _, rfl, ?_⟩))
      refine wd_is 193 false rfl (decide_eq_false fun h => h rfl) ?_
      repeat (first
        | (refine wd_pure rfl rfl rfl rfl rfl ?_
           repeat (first
             | refine wo_nil ?_
             | refine wo_move rfl rfl ?_
             | refine wo_assign rfl rfl ?_
             | refine wo_fieldAddr rfl rfl rfl ?_
             | refine wo_nilCheck rfl rfl ?_
             | refine wo_extract rfl rfl rfl ?_
             | refine wo_load rfl rfl rfl rfl (by assumption) rfl ?_
             | refine wo_eql rfl rfl rfl ?_
             | refine wo_neq rfl rfl rfl ?_
             | refine wo_lss rfl rfl rfl ?_
             | refine wo_gtr rfl rfl rfl ?_
             | refine wo_leq rfl rfl rfl ?_
             | refine wo_geq rfl rfl rfl ?_
             | refine wo_not rfl rfl ?_
             | refine wo_lenStr rfl rfl rfl ?_
             | refine wo_len rfl rfl rfl rfl ?_
             | refine wo_buildSlice rfl rfl rfl ?_
             | refine wo_build rfl rfl rfl ?_
             | refine wo_pick rfl rfl rfl ?_
             | refine wo_strEq rfl rfl rfl ?_
             | refine wo_strNe rfl rfl rfl ?_
             | refine wo_on rfl ?_
             | refine wo_off rfl rfl ?_
             | refine wo_offn rfl ?_)
           refine ⟨rfl, ?_⟩)
        | (refine wd_read rfl rfl rfl rfl rfl rfl rfl ?_
           repeat (first
             | refine wo_nil ?_
             | refine wo_move rfl rfl ?_
             | refine wo_assign rfl rfl ?_
             | refine wo_fieldAddr rfl rfl rfl ?_
             | refine wo_nilCheck rfl rfl ?_
             | refine wo_extract rfl rfl rfl ?_
             | refine wo_load rfl rfl rfl rfl (by assumption) rfl ?_
             | refine wo_eql rfl rfl rfl ?_
             | refine wo_neq rfl rfl rfl ?_
             | refine wo_lss rfl rfl rfl ?_
             | refine wo_gtr rfl rfl rfl ?_
             | refine wo_leq rfl rfl rfl ?_
             | refine wo_geq rfl rfl rfl ?_
             | refine wo_not rfl rfl ?_
             | refine wo_lenStr rfl rfl rfl ?_
             | refine wo_len rfl rfl rfl rfl ?_
             | refine wo_buildSlice rfl rfl rfl ?_
             | refine wo_build rfl rfl rfl ?_
             | refine wo_pick rfl rfl rfl ?_
             | refine wo_strEq rfl rfl rfl ?_
             | refine wo_strNe rfl rfl rfl ?_
             | refine wo_on rfl ?_
             | refine wo_off rfl rfl ?_
             | refine wo_offn rfl ?_)
           refine ⟨rfl, _, rfl, ?_⟩))
      refine wd_read rfl rfl rfl rfl rfl rfl rfl ?_
      refine wo_on rfl ?_
      refine wo_len rfl rfl rfl sm.rd.full.row.lenV ?_
      repeat (first
        | refine wo_nil ?_
        | refine wo_move rfl rfl ?_
        | refine wo_assign rfl rfl ?_
        | refine wo_fieldAddr rfl rfl rfl ?_
        | refine wo_nilCheck rfl rfl ?_
        | refine wo_extract rfl rfl rfl ?_
        | refine wo_load rfl rfl rfl rfl (by assumption) rfl ?_
        | refine wo_eql rfl rfl rfl ?_
        | refine wo_neq rfl rfl rfl ?_
        | refine wo_lss rfl rfl rfl ?_
        | refine wo_gtr rfl rfl rfl ?_
        | refine wo_leq rfl rfl rfl ?_
        | refine wo_geq rfl rfl rfl ?_
        | refine wo_not rfl rfl ?_
        | refine wo_lenStr rfl rfl rfl ?_
        | refine wo_len rfl rfl rfl rfl ?_
        | refine wo_buildSlice rfl rfl rfl ?_
        | refine wo_build rfl rfl rfl ?_
        | refine wo_pick rfl rfl rfl ?_
        | refine wo_strEq rfl rfl rfl ?_
        | refine wo_strNe rfl rfl rfl ?_
        | refine wo_on rfl ?_
        | refine wo_off rfl rfl ?_
        | refine wo_offn rfl ?_)
      refine ⟨rfl, _, rfl, ?_⟩
      refine wd_act rfl rfl rfl ?_
      refine wo_on rfl ?_
      refine wo_call rfl rfl orc_cons rfl (left_spec st3) ?_
      rintro r A4 ⟨rfl, rfl⟩
      repeat (first
        | refine wo_nil ?_
        | refine wo_move rfl rfl ?_
        | refine wo_assign rfl rfl ?_
        | refine wo_fieldAddr rfl rfl rfl ?_
        | refine wo_nilCheck rfl rfl ?_
        | refine wo_extract rfl rfl rfl ?_
        | refine wo_load rfl rfl rfl rfl (by assumption) rfl ?_
        | refine wo_eql rfl rfl rfl ?_
        | refine wo_neq rfl rfl rfl ?_
        | refine wo_lss rfl rfl rfl ?_
        | refine wo_gtr rfl rfl rfl ?_
        | refine wo_leq rfl rfl rfl ?_
        | refine wo_geq rfl rfl rfl ?_
        | refine wo_not rfl rfl ?_
        | refine wo_lenStr rfl rfl rfl ?_
        | refine wo_len rfl rfl rfl rfl ?_
        | refine wo_buildSlice rfl rfl rfl ?_
        | refine wo_build rfl rfl rfl ?_
        | refine wo_pick rfl rfl rfl ?_
        | refine wo_strEq rfl rfl rfl ?_
        | refine wo_strNe rfl rfl rfl ?_
        | refine wo_on rfl ?_
        | refine wo_off rfl rfl ?_
        | refine wo_offn rfl ?_)
      refine ⟨⟨.inr ⟨fun F hF => ?_, stillInt⟩, .inr ⟨fun F hF => ?_, sm.rd.full.still⟩, trivial⟩, ?_⟩
      · show liftR (lenA (ES 13) 27 (ev F (.tmp 199)) A4) = _
        rw [hF.ev (x := .tmp 199) (v := vm') rfl, lenA_eq rfl sm.rd.full.row.lenV]
        rfl
      · show liftR (loadA (ES 13) 27 (ev F (.tmp 198)) A4) = _
        rw [hF.ev (x := .tmp 198) (v := .ptr fm 0 0) rfl, loadA_eq rfl rfl hcm rfl]
        rfl
      refine wd_pure rfl rfl rfl rfl rfl ?_
      repeat (first
        | refine wo_nil ?_
        | refine wo_move rfl rfl ?_
        | refine wo_assign rfl rfl ?_
        | refine wo_fieldAddr rfl rfl rfl ?_
        | refine wo_nilCheck rfl rfl ?_
        | refine wo_extract rfl rfl rfl ?_
        | refine wo_load rfl rfl rfl rfl (by assumption) rfl ?_
        | refine wo_eql rfl rfl rfl ?_
        | refine wo_neq rfl rfl rfl ?_
        | refine wo_lss rfl rfl rfl ?_
        | refine wo_gtr rfl rfl rfl ?_
        | refine wo_leq rfl rfl rfl ?_
        | refine wo_geq rfl rfl rfl ?_
        | refine wo_not rfl rfl ?_
        | refine wo_lenStr rfl rfl rfl ?_
        | refine wo_len rfl rfl rfl rfl ?_
        | refine wo_buildSlice rfl rfl rfl ?_
        | refine wo_build rfl rfl rfl ?_
        | refine wo_pick rfl rfl rfl ?_
        | refine wo_strEq rfl rfl rfl ?_
        | refine wo_strNe rfl rfl rfl ?_
        | refine wo_on rfl ?_
        | refine wo_off rfl rfl ?_
        | refine wo_offn rfl ?_)
      refine ⟨rfl, ?_⟩
      repeat (first
        | (refine wd_pure rfl rfl rfl rfl rfl ?_
           repeat (first
             | refine wo_nil ?_
             | refine wo_move rfl rfl ?_
             | refine wo_assign rfl rfl ?_
             | refine wo_fieldAddr rfl rfl rfl ?_
             | refine wo_nilCheck rfl rfl ?_
             | refine wo_extract rfl rfl rfl ?_
             | refine wo_load rfl rfl rfl rfl (by assumption) rfl ?_
             | refine wo_eql rfl rfl rfl ?_
             | refine wo_neq rfl rfl rfl ?_
             | refine wo_lss rfl rfl rfl ?_
             | refine wo_gtr rfl rfl rfl ?_
             | refine wo_leq rfl rfl rfl ?_
             | refine wo_geq rfl rfl rfl ?_
             | refine wo_not rfl rfl ?_
             | refine wo_lenStr rfl rfl rfl ?_
             | refine wo_len rfl rfl rfl rfl ?_
             | refine wo_buildSlice rfl rfl rfl ?_
             | refine wo_build rfl rfl rfl ?_
             | refine wo_pick rfl rfl rfl ?_
             | refine wo_strEq rfl rfl rfl ?_
             | refine wo_strNe rfl rfl rfl ?_
             | refine wo_on rfl ?_
             | refine wo_off rfl rfl ?_
             | refine wo_offn rfl ?_)
           refine ⟨rfl, ?_⟩)
        | (refine wd_read rfl rfl rfl rfl rfl rfl rfl ?_
           repeat (first
             | refine wo_nil ?_
             | refine wo_move rfl rfl ?_
             | refine wo_assign rfl rfl ?_
             | refine wo_fieldAddr rfl rfl rfl ?_
             | refine wo_nilCheck rfl rfl ?_
             | refine wo_extract rfl rfl rfl ?_
             | refine wo_load rfl rfl rfl rfl (by assumption) rfl ?_
             | refine wo_eql rfl rfl rfl ?_
             | refine wo_neq rfl rfl rfl ?_
             | refine wo_lss rfl rfl rfl ?_
             | refine wo_gtr rfl rfl rfl ?_
             | refine wo_leq rfl rfl rfl ?_
             | refine wo_geq rfl rfl rfl ?_
             | refine wo_not rfl rfl ?_
             | refine wo_lenStr rfl rfl rfl ?_
             | refine wo_len rfl rfl rfl rfl ?_
             | refine wo_buildSlice rfl rfl rfl ?_
             | refine wo_build rfl rfl rfl ?_
             | refine wo_pick rfl rfl rfl ?_
             | refine wo_strEq rfl rfl rfl ?_
             | refine wo_strNe rfl rfl rfl ?_
             | refine wo_on rfl ?_
             | refine wo_off rfl rfl ?_
             | refine wo_offn rfl ?_)
           refine ⟨rfl, _, rfl, ?_⟩))
      refine wd_nil ?_
      refine wg_dec rfl (fun h => absurd rfl h) fun _ => ?_
      repeat (first
        | refine wg_seq ?_
        | refine wg_skip ?_
        | refine wg_block ?_
        | refine wg_scope ?_
        | refine wg_inBlock ?_
        | refine wg_inScope ?_
        | refine wg_region ?_
        | refine wo_nil ?_
        | refine wo_move rfl rfl ?_
        | refine wo_assign rfl rfl ?_
        | refine wo_fieldAddr rfl rfl rfl ?_
        | refine wo_nilCheck rfl rfl ?_
        | refine wo_extract rfl rfl rfl ?_
        | refine wo_load rfl rfl rfl rfl (by assumption) rfl ?_
        | refine wo_eql rfl rfl rfl ?_
        | refine wo_neq rfl rfl rfl ?_
        | refine wo_lss rfl rfl rfl ?_
        | refine wo_gtr rfl rfl rfl ?_
        | refine wo_leq rfl rfl rfl ?_
        | refine wo_geq rfl rfl rfl ?_
        | refine wo_not rfl rfl ?_
        | refine wo_lenStr rfl rfl rfl ?_
        | refine wo_len rfl rfl rfl rfl ?_
        | refine wo_buildSlice rfl rfl rfl ?_
        | refine wo_build rfl rfl rfl ?_
        | refine wo_pick rfl rfl rfl ?_
        | refine wo_strEq rfl rfl rfl ?_
        | refine wo_strNe rfl rfl rfl ?_
        | refine wo_on rfl ?_
        | refine wo_off rfl rfl ?_
        | refine wo_offn rfl ?_)
      refine wo_add rfl rfl rfl (by omega) (by omega) ?_
      repeat (first
        | refine wg_seq ?_
        | refine wg_skip ?_
        | refine wg_block ?_
        | refine wg_scope ?_
        | refine wg_inBlock ?_
        | refine wg_inScope ?_
        | refine wg_region ?_
        | refine wo_nil ?_
        | refine wo_move rfl rfl ?_
        | refine wo_assign rfl rfl ?_
        | refine wo_fieldAddr rfl rfl rfl ?_
        | refine wo_nilCheck rfl rfl ?_
        | refine wo_extract rfl rfl rfl ?_
        | refine wo_load rfl rfl rfl rfl (by assumption) rfl ?_
        | refine wo_eql rfl rfl rfl ?_
        | refine wo_neq rfl rfl rfl ?_
        | refine wo_lss rfl rfl rfl ?_
        | refine wo_gtr rfl rfl rfl ?_
        | refine wo_leq rfl rfl rfl ?_
        | refine wo_geq rfl rfl rfl ?_
        | refine wo_not rfl rfl ?_
        | refine wo_lenStr rfl rfl rfl ?_
        | refine wo_len rfl rfl rfl rfl ?_
        | refine wo_buildSlice rfl rfl rfl ?_
        | refine wo_build rfl rfl rfl ?_
        | refine wo_pick rfl rfl rfl ?_
        | refine wo_strEq rfl rfl rfl ?_
        | refine wo_strNe rfl rfl rfl ?_
        | refine wo_on rfl ?_
        | refine wo_off rfl rfl ?_
        | refine wo_offn rfl ?_)
      refine wg_inLoop ?_
      refine wg_le (.put 1 (.slice f t o items.length c ex) (.put 5 (.ptr fr 0 0) (.put 6 (.ptr fm 0 0) (.put 7 (.int .i64 ((i + 1 : Nat) : Int)) .nil)))) ?_ ⟨rfl, rfl, rfl, rfl, trivial⟩
      exact ih (i + 1, vr', vm', bs2) A4 (by simp only; omega) ⟨hi, sm.only.wf, st3, sm.rd, inv.ne, fun g hg => inv.rm g (st.sub g hg), fun g hg => inv.mr g (sm.sub g hg), oA3, inv.or, inv.om, hbl⟩
    repeat (first
      | refine wg_seq ?_
      | refine wg_skip ?_
      | refine wg_block ?_
      | refine wg_scope ?_
      | refine wg_inBlock ?_
      | refine wg_inScope ?_
      | refine wg_region ?_
      | refine wo_nil ?_
      | refine wo_move rfl rfl ?_
      | refine wo_assign rfl rfl ?_
      | refine wo_fieldAddr rfl rfl rfl ?_
      | refine wo_nilCheck rfl rfl ?_
      | refine wo_extract rfl rfl rfl ?_
      | refine wo_load rfl rfl rfl rfl (by assumption) rfl ?_
      | refine wo_eql rfl rfl rfl ?_
      | refine wo_neq rfl rfl rfl ?_
      | refine wo_lss rfl rfl rfl ?_
      | refine wo_gtr rfl rfl rfl ?_
      | refine wo_leq rfl rfl rfl ?_
      | refine wo_geq rfl rfl rfl ?_
      | refine wo_not rfl rfl ?_
      | refine wo_lenStr rfl rfl rfl ?_
      | refine wo_len rfl rfl rfl rfl ?_
      | refine wo_buildSlice rfl rfl rfl ?_
      | refine wo_build rfl rfl rfl ?_
      | refine wo_pick rfl rfl rfl ?_
      | refine wo_strEq rfl rfl rfl ?_
      | refine wo_strNe rfl rfl rfl ?_
      | refine wo_on rfl ?_
      | refine wo_off rfl rfl ?_
      | refine wo_offn rfl ?_)
    refine wg_dec rfl (fun w4 => ?_) fun w4 => ?_
    · repeat (first
        | refine wg_seq ?_
        | refine wg_skip ?_
        | refine wg_block ?_
        | refine wg_scope ?_
        | refine wg_inBlock ?_
        | refine wg_inScope ?_
        | refine wg_region ?_
        | refine wo_nil ?_
        | refine wo_move rfl rfl ?_
        | refine wo_assign rfl rfl ?_
        | refine wo_fieldAddr rfl rfl rfl ?_
        | refine wo_nilCheck rfl rfl ?_
        | refine wo_extract rfl rfl rfl ?_
        | refine wo_load rfl rfl rfl rfl (by assumption) rfl ?_
        | refine wo_eql rfl rfl rfl ?_
        | refine wo_neq rfl rfl rfl ?_
        | refine wo_lss rfl rfl rfl ?_
        | refine wo_gtr rfl rfl rfl ?_
        | refine wo_leq rfl rfl rfl ?_
        | refine wo_geq rfl rfl rfl ?_
        | refine wo_not rfl rfl ?_
        | refine wo_lenStr rfl rfl rfl ?_
        | refine wo_len rfl rfl rfl rfl ?_
        | refine wo_buildSlice rfl rfl rfl ?_
        | refine wo_build rfl rfl rfl ?_
        | refine wo_pick rfl rfl rfl ?_
        | refine wo_strEq rfl rfl rfl ?_
        | refine wo_strNe rfl rfl rfl ?_
        | refine wo_on rfl ?_
        | refine wo_off rfl rfl ?_
        | refine wo_offn rfl ?_)
      refine wo_call rfl rfl orc_cons rfl (rbyte_spec inv.wf inv.r) ?_
      rintro r A2 ⟨rfl, vr', st⟩
      repeat (first
        | refine wg_seq ?_
        | refine wg_skip ?_
        | refine wg_block ?_
        | refine wg_scope ?_
        | refine wg_inBlock ?_
        | refine wg_inScope ?_
        | refine wg_region ?_
        | refine wo_nil ?_
        | refine wo_move rfl rfl ?_
        | refine wo_assign rfl rfl ?_
        | refine wo_fieldAddr rfl rfl rfl ?_
        | refine wo_nilCheck rfl rfl ?_
        | refine wo_extract rfl rfl rfl ?_
        | refine wo_load rfl rfl rfl rfl (by assumption) rfl ?_
        | refine wo_eql rfl rfl rfl ?_
        | refine wo_neq rfl rfl rfl ?_
        | refine wo_lss rfl rfl rfl ?_
        | refine wo_gtr rfl rfl rfl ?_
        | refine wo_leq rfl rfl rfl ?_
        | refine wo_geq rfl rfl rfl ?_
        | refine wo_not rfl rfl ?_
        | refine wo_lenStr rfl rfl rfl ?_
        | refine wo_len rfl rfl rfl rfl ?_
        | refine wo_buildSlice rfl rfl rfl ?_
        | refine wo_build rfl rfl rfl ?_
        | refine wo_pick rfl rfl rfl ?_
        | refine wo_strEq rfl rfl rfl ?_
        | refine wo_strNe rfl rfl rfl ?_
        | refine wo_on rfl ?_
        | refine wo_off rfl rfl ?_
        | refine wo_offn rfl ?_)
      refine wo_call rfl rfl orc_cons rfl (ref_byte st.only.wf (hmk st)) ?_
      rintro r A3 ⟨rfl, vm', sm⟩
      have hbl := hdl (rdB bs1).2.2
      generalize (rdB bs1).2.1 = e
      generalize (rdB bs1).1 = n
      generalize bs1.drop (rdB bs1).2.2 = bs2 at st sm hbl
      repeat (first
        | refine wg_seq ?_
        | refine wg_skip ?_
        | refine wg_block ?_
        | refine wg_scope ?_
        | refine wg_inBlock ?_
        | refine wg_inScope ?_
        | refine wg_region ?_
        | refine wo_nil ?_
        | refine wo_move rfl rfl ?_
        | refine wo_assign rfl rfl ?_
        | refine wo_fieldAddr rfl rfl rfl ?_
        | refine wo_nilCheck rfl rfl ?_
        | refine wo_extract rfl rfl rfl ?_
        | refine wo_load rfl rfl rfl rfl (by assumption) rfl ?_
        | refine wo_eql rfl rfl rfl ?_
        | refine wo_neq rfl rfl rfl ?_
        | refine wo_lss rfl rfl rfl ?_
        | refine wo_gtr rfl rfl rfl ?_
        | refine wo_leq rfl rfl rfl ?_
        | refine wo_geq rfl rfl rfl ?_
        | refine wo_not rfl rfl ?_
        | refine wo_lenStr rfl rfl rfl ?_
        | refine wo_len rfl rfl rfl rfl ?_
        | refine wo_buildSlice rfl rfl rfl ?_
        | refine wo_build rfl rfl rfl ?_
        | refine wo_pick rfl rfl rfl ?_
        | refine wo_strEq rfl rfl rfl ?_
        | refine wo_strNe rfl rfl rfl ?_
        | refine wo_on rfl ?_
        | refine wo_off rfl rfl ?_
        | refine wo_offn rfl ?_)
      repeat (first
        | refine wo_nil ?_
        | refine wo_move rfl rfl ?_
        | refine wo_assign rfl rfl ?_
        | refine wo_fieldAddr rfl rfl rfl ?_
        | refine wo_nilCheck rfl rfl ?_
        | refine wo_extract rfl rfl rfl ?_
        | refine wo_load rfl rfl rfl rfl (by assumption) rfl ?_
        | refine wo_eql rfl rfl rfl ?_
        | refine wo_neq rfl rfl rfl ?_
        | refine wo_lss rfl rfl rfl ?_
        | refine wo_gtr rfl rfl rfl ?_
        | refine wo_leq rfl rfl rfl ?_
        | refine wo_geq rfl rfl rfl ?_
        | refine wo_not rfl rfl ?_
        | refine wo_lenStr rfl rfl rfl ?_
        | refine wo_len rfl rfl rfl rfl ?_
        | refine wo_buildSlice rfl rfl rfl ?_
        | refine wo_build rfl rfl rfl ?_
        | refine wo_pick rfl rfl rfl ?_
        | refine wo_strEq rfl rfl rfl ?_
        | refine wo_strNe rfl rfl rfl ?_
        | refine wo_on rfl ?_
        | refine wo_off rfl rfl ?_
        | refine wo_offn rfl ?_)
      repeat (first
        | refine wg_seq ?_
        | refine wg_skip ?_
        | refine wg_block ?_
        | refine wg_scope ?_
        | refine wg_inBlock ?_
        | refine wg_inScope ?_)
      have hok : some (AV.bool (decide ((n : Int) = (n : Int)))) = some (AV.bool true) := congrArg (fun x => some (AV.bool x)) (decide_eq_true rfl)
      have st3 : Rd A3 fr vr' bs2 := st.rd.keep sm.only fun g hg e => by
        have e : g = fm := e
        rcases hg with hg | hg
        · have hg : g = fr := hg
          exact inv.ne (hg.symm.trans e)
        · exact inv.rm g (st.sub g hg) e
      have oA3 : Only A A3 none' := Only.own hw (Only.own hw inv.only st.only fun g hg => by
        have hg : g = fr := hg
        have := inv.or
        omega) sm.only fun g hg => by
        have hg : g = fm := hg
        have := inv.om
        omega
      have hcm := sm.rd.cell
      refine wg_le (.put 1 (.slice f t o items.length c ex) (.put 5 (.ptr fr 0 0) (.put 6 (.ptr fm 0 0) (.put 7 (.int .i64 (i : Int)) (.put 8 (.int .i64 (e : Int)) (.put 9 (.int .i64 (e : Int)) (.put 10 (.bool true) .nil))))))) ?_ ⟨rfl, rfl, rfl, rfl, rfl, rfl, hok, trivial⟩
      refine wg_draw rfl ?_
      repeat (first
        | (refine wd_pure rfl rfl rfl rfl rfl ?_
           repeat (first
             | refine wo_nil ?_
             | refine wo_move rfl rfl ?_
             | refine wo_assign rfl rfl ?_
             | refine wo_fieldAddr rfl rfl rfl ?_
             | refine wo_nilCheck rfl rfl ?_
             | refine wo_extract rfl rfl rfl ?_
             | refine wo_load rfl rfl rfl rfl (by assumption) rfl ?_
             | refine wo_eql rfl rfl rfl ?_
             | refine wo_neq rfl rfl rfl ?_
             | refine wo_lss rfl rfl rfl ?_
             | refine wo_gtr rfl rfl rfl ?_
             | refine wo_leq rfl rfl rfl ?_
             | refine wo_geq rfl rfl rfl ?_
             | refine wo_not rfl rfl ?_
             | refine wo_lenStr rfl rfl rfl ?_
             | refine wo_len rfl rfl rfl rfl ?_
             | refine wo_buildSlice rfl rfl rfl ?_
             | refine wo_build rfl rfl rfl ?_
             | refine wo_pick rfl rfl rfl ?_
             | refine wo_strEq rfl rfl rfl ?_
             | refine wo_strNe rfl rfl rfl ?_
             | refine wo_on rfl ?_
             | refine wo_off rfl rfl ?_
             | refine wo_offn rfl ?_)
           refine ⟨rfl, ?_⟩)
        | (refine wd_read rfl rfl rfl rfl rfl rfl rfl ?_
           repeat (first
             | refine wo_nil ?_
             | refine wo_move rfl rfl ?_
             | refine wo_assign rfl rfl ?_
             | refine wo_fieldAddr rfl rfl rfl ?_
             | refine wo_nilCheck rfl rfl ?_
             | refine wo_extract rfl rfl rfl ?_
             | refine wo_load rfl rfl rfl rfl (by assumption) rfl ?_
             | refine wo_eql rfl rfl rfl ?_
             | refine wo_neq rfl rfl rfl ?_
             | refine wo_lss rfl rfl rfl ?_
             | refine wo_gtr rfl rfl rfl ?_
             | refine wo_leq rfl rfl rfl ?_
             | refine wo_geq rfl rfl rfl ?_
             | refine wo_not rfl rfl ?_
             | refine wo_lenStr rfl rfl rfl ?_
             | refine wo_len rfl rfl rfl rfl ?_
             | refine wo_buildSlice rfl rfl rfl ?_
             | refine wo_build rfl rfl rfl ?_
             | refine wo_pick rfl rfl rfl ?_
             | refine wo_strEq rfl rfl rfl ?_
             | refine wo_strNe rfl rfl rfl ?_
             | refine wo_on rfl ?_
             | refine wo_off rfl rfl ?_
             | refine wo_offn rfl ?_)
           refine ⟨rfl, _, rfl, ?_⟩))
      refine wd_is 193 false rfl (decide_eq_false fun h => h rfl) ?_
      repeat (first
        | (refine wd_pure rfl rfl rfl rfl rfl ?_
           repeat (first
             | refine wo_nil ?_
             | refine wo_move rfl rfl ?_
             | refine wo_assign rfl rfl ?_
             | refine wo_fieldAddr rfl rfl rfl ?_
             | refine wo_nilCheck rfl rfl ?_
             | refine wo_extract rfl rfl rfl ?_
             | refine wo_load rfl rfl rfl rfl (by assumption) rfl ?_
             | refine wo_eql rfl rfl rfl ?_
             | refine wo_neq rfl rfl rfl ?_
             | refine wo_lss rfl rfl rfl ?_
             | refine wo_gtr rfl rfl rfl ?_
             | refine wo_leq rfl rfl rfl ?_
             | refine wo_geq rfl rfl rfl ?_
             | refine wo_not rfl rfl ?_
             | refine wo_lenStr rfl rfl rfl ?_
             | refine wo_len rfl rfl rfl rfl ?_
             | refine wo_buildSlice rfl rfl rfl ?_
             | refine wo_build rfl rfl rfl ?_
             | refine wo_pick rfl rfl rfl ?_
             | refine wo_strEq rfl rfl rfl ?_
             | refine wo_strNe rfl rfl rfl ?_
             | refine wo_on rfl ?_
             | refine wo_off rfl rfl ?_
             | refine wo_offn rfl ?_)
           refine ⟨rfl, ?_⟩)
        | (refine wd_read rfl rfl rfl rfl rfl rfl rfl ?_
           repeat (first
             | refine wo_nil ?_
             | refine wo_move rfl rfl ?_
             | refine wo_assign rfl rfl ?_
             | refine wo_fieldAddr rfl rfl rfl ?_
             | refine wo_nilCheck rfl rfl ?_
             | refine wo_extract rfl rfl rfl ?_
             | refine wo_load rfl rfl rfl rfl (by assumption) rfl ?_
             | refine wo_eql rfl rfl rfl ?_
             | refine wo_neq rfl rfl rfl ?_
             | refine wo_lss rfl rfl rfl ?_
             | refine wo_gtr rfl rfl rfl ?_
             | refine wo_leq rfl rfl rfl ?_
             | refine wo_geq rfl rfl rfl ?_
             | refine wo_not rfl rfl ?_
             | refine wo_lenStr rfl rfl rfl ?_
             | refine wo_len rfl rfl rfl rfl ?_
             | refine wo_buildSlice rfl rfl rfl ?_
             | refine wo_build rfl rfl rfl ?_
             | refine wo_pick rfl rfl rfl ?_
             | refine wo_strEq rfl rfl rfl ?_
             | refine wo_strNe rfl rfl rfl ?_
             | refine wo_on rfl ?_
             | refine wo_off rfl rfl ?_
             | refine wo_offn rfl ?_)
           refine ⟨rfl, _, rfl, ?_⟩))
      refine wd_read rfl rfl rfl rfl rfl rfl rfl ?_
      refine wo_on rfl ?_
      refine wo_len rfl rfl rfl sm.rd.full.row.lenV ?_
      repeat (first
        | refine wo_nil ?_
        | refine wo_move rfl rfl ?_
        | refine wo_assign rfl rfl ?_
        | refine wo_fieldAddr rfl rfl rfl ?_
        | refine wo_nilCheck rfl rfl ?_
        | refine wo_extract rfl rfl rfl ?_
        | refine wo_load rfl rfl rfl rfl (by assumption) rfl ?_
        | refine wo_eql rfl rfl rfl ?_
        | refine wo_neq rfl rfl rfl ?_
        | refine wo_lss rfl rfl rfl ?_
        | refine wo_gtr rfl rfl rfl ?_
        | refine wo_leq rfl rfl rfl ?_
        | refine wo_geq rfl rfl rfl ?_
        | refine wo_not rfl rfl ?_
        | refine wo_lenStr rfl rfl rfl ?_
        | refine wo_len rfl rfl rfl rfl ?_
        | refine wo_buildSlice rfl rfl rfl ?_
        | refine wo_build rfl rfl rfl ?_
        | refine wo_pick rfl rfl rfl ?_
        | refine wo_strEq rfl rfl rfl ?_
        | refine wo_strNe rfl rfl rfl ?_
        | refine wo_on rfl ?_
        | refine wo_off rfl rfl ?_
        | refine wo_offn rfl ?_)
      refine ⟨rfl, _, rfl, ?_⟩
      refine wd_act rfl rfl rfl ?_
      refine wo_on rfl ?_
      refine wo_call rfl rfl orc_cons rfl (left_spec st3) ?_
      rintro r A4 ⟨rfl, rfl⟩
      repeat (first
        | refine wo_nil ?_
        | refine wo_move rfl rfl ?_
        | refine wo_assign rfl rfl ?_
        | refine wo_fieldAddr rfl rfl rfl ?_
        | refine wo_nilCheck rfl rfl ?_
        | refine wo_extract rfl rfl rfl ?_
        | refine wo_load rfl rfl rfl rfl (by assumption) rfl ?_
        | refine wo_eql rfl rfl rfl ?_
        | refine wo_neq rfl rfl rfl ?_
        | refine wo_lss rfl rfl rfl ?_
        | refine wo_gtr rfl rfl rfl ?_
        | refine wo_leq rfl rfl rfl ?_
        | refine wo_geq rfl rfl rfl ?_
        | refine wo_not rfl rfl ?_
        | refine wo_lenStr rfl rfl rfl ?_
        | refine wo_len rfl rfl rfl rfl ?_
        | refine wo_buildSlice rfl rfl rfl ?_
        | refine wo_build rfl rfl rfl ?_
        | refine wo_pick rfl rfl rfl ?_
        | refine wo_strEq rfl rfl rfl ?_
        | refine wo_strNe rfl rfl rfl ?_
        | refine wo_on rfl ?_
        | refine wo_off rfl rfl ?_
        | refine wo_offn rfl ?_)
      refine ⟨⟨.inr ⟨fun F hF => ?_, stillInt⟩, .inr ⟨fun F hF => ?_, sm.rd.full.still⟩, trivial⟩, ?_⟩
      · show liftR (lenA (ES 13) 27 (ev F (.tmp 199)) A4) = _
        rw [hF.ev (x := .tmp 199) (v := vm') rfl, lenA_eq rfl sm.rd.full.row.lenV]
        rfl
      · show liftR (loadA (ES 13) 27 (ev F (.tmp 198)) A4) = _
        rw [hF.ev (x := .tmp 198) (v := .ptr fm 0 0) rfl, loadA_eq rfl rfl hcm rfl]
        rfl
      refine wd_pure rfl rfl rfl rfl rfl ?_
      repeat (first
        | refine wo_nil ?_
        | refine wo_move rfl rfl ?_
        | refine wo_assign rfl rfl ?_
        | refine wo_fieldAddr rfl rfl rfl ?_
        | refine wo_nilCheck rfl rfl ?_
        | refine wo_extract rfl rfl rfl ?_
        | refine wo_load rfl rfl rfl rfl (by assumption) rfl ?_
        | refine wo_eql rfl rfl rfl ?_
        | refine wo_neq rfl rfl rfl ?_
        | refine wo_lss rfl rfl rfl ?_
        | refine wo_gtr rfl rfl rfl ?_
        | refine wo_leq rfl rfl rfl ?_
        | refine wo_geq rfl rfl rfl ?_
        | refine wo_not rfl rfl ?_
        | refine wo_lenStr rfl rfl rfl ?_
        | refine wo_len rfl rfl rfl rfl ?_
        | refine wo_buildSlice rfl rfl rfl ?_
        | refine wo_build rfl rfl rfl ?_
        | refine wo_pick rfl rfl rfl ?_
        | refine wo_strEq rfl rfl rfl ?_
        | refine wo_strNe rfl rfl rfl ?_
        | refine wo_on rfl ?_
        | refine wo_off rfl rfl ?_
        | refine wo_offn rfl ?_)
      refine ⟨rfl, ?_⟩
      repeat (first
        | (refine wd_pure rfl rfl rfl rfl rfl ?_
           repeat (first
             | refine wo_nil ?_
             | refine wo_move rfl rfl ?_
             | refine wo_assign rfl rfl ?_
             | refine wo_fieldAddr rfl rfl rfl ?_
             | refine wo_nilCheck rfl rfl ?_
             | refine wo_extract rfl rfl rfl ?_
             | refine wo_load rfl rfl rfl rfl (by assumption) rfl ?_
             | refine wo_eql rfl rfl rfl ?_
             | refine wo_neq rfl rfl rfl ?_
             | refine wo_lss rfl rfl rfl ?_
             | refine wo_gtr rfl rfl rfl ?_
             | refine wo_leq rfl rfl rfl ?_
             | refine wo_geq rfl rfl rfl ?_
             | refine wo_not rfl rfl ?_
             | refine wo_lenStr rfl rfl rfl ?_
             | refine wo_len rfl rfl rfl rfl ?_
             | refine wo_buildSlice rfl rfl rfl ?_
             | refine wo_build rfl rfl rfl ?_
             | refine wo_pick rfl rfl rfl ?_
             | refine wo_strEq rfl rfl rfl ?_
             | refine wo_strNe rfl rfl rfl ?_
             | refine wo_on rfl ?_
             | refine wo_off rfl rfl ?_
             | refine wo_offn rfl ?_)
           refine ⟨rfl, ?_⟩)
        | (refine wd_read rfl rfl rfl rfl rfl rfl rfl ?_
           repeat (first
             | refine wo_nil ?_
             | refine wo_move rfl rfl ?_
             | refine wo_assign rfl rfl ?_
             | refine wo_fieldAddr rfl rfl rfl ?_
             | refine wo_nilCheck rfl rfl ?_
             | refine wo_extract rfl rfl rfl ?_
             | refine wo_load rfl rfl rfl rfl (by assumption) rfl ?_
             | refine wo_eql rfl rfl rfl ?_
             | refine wo_neq rfl rfl rfl ?_
             | refine wo_lss rfl rfl rfl ?_
             | refine wo_gtr rfl rfl rfl ?_
             | refine wo_leq rfl rfl rfl ?_
             | refine wo_geq rfl rfl rfl ?_
             | refine wo_not rfl rfl ?_
             | refine wo_lenStr rfl rfl rfl ?_
             | refine wo_len rfl rfl rfl rfl ?_
             | refine wo_buildSlice rfl rfl rfl ?_
             | refine wo_build rfl rfl rfl ?_
             | refine wo_pick rfl rfl rfl ?_
             | refine wo_strEq rfl rfl rfl ?_
             | refine wo_strNe rfl rfl rfl ?_
             | refine wo_on rfl ?_
             | refine wo_off rfl rfl ?_
             | refine wo_offn rfl ?_)
           refine ⟨rfl, _, rfl, ?_⟩))
      refine wd_nil ?_
      refine wg_dec rfl (fun h => absurd rfl h) fun _ => ?_
      repeat (first
        | refine wg_seq ?_
        | refine wg_skip ?_
        | refine wg_block ?_
        | refine wg_scope ?_
        | refine wg_inBlock ?_
        | refine wg_inScope ?_
        | refine wg_region ?_
        | refine wo_nil ?_
        | refine wo_move rfl rfl ?_
        | refine wo_assign rfl rfl ?_
        | refine wo_fieldAddr rfl rfl rfl ?_
        | refine wo_nilCheck rfl rfl ?_
        | refine wo_extract rfl rfl rfl ?_
        | refine wo_load rfl rfl rfl rfl (by assumption) rfl ?_
        | refine wo_eql rfl rfl rfl ?_
        | refine wo_neq rfl rfl rfl ?_
        | refine wo_lss rfl rfl rfl ?_
        | refine wo_gtr rfl rfl rfl ?_
        | refine wo_leq rfl rfl rfl ?_
        | refine wo_geq rfl rfl rfl ?_
        | refine wo_not rfl rfl ?_
        | refine wo_lenStr rfl rfl rfl ?_
        | refine wo_len rfl rfl rfl rfl ?_
        | refine wo_buildSlice rfl rfl rfl ?_
        | refine wo_build rfl rfl rfl ?_
        | refine wo_pick rfl rfl rfl ?_
        | refine wo_strEq rfl rfl rfl ?_
        | refine wo_strNe rfl rfl rfl ?_
        | refine wo_on rfl ?_
        | refine wo_off rfl rfl ?_
        | refine wo_offn rfl ?_)
      refine wo_add rfl rfl rfl (by omega) (by omega) ?_
      repeat (first
        | refine wg_seq ?_
        | refine wg_skip ?_
        | refine wg_block ?_
        | refine wg_scope ?_
        | refine wg_inBlock ?_
        | refine wg_inScope ?_
        | refine wg_region ?_
        | refine wo_nil ?_
        | refine wo_move rfl rfl ?_
        | refine wo_assign rfl rfl ?_
        | refine wo_fieldAddr rfl rfl rfl ?_
        | refine wo_nilCheck rfl rfl ?_
        | refine wo_extract rfl rfl rfl ?_
        | refine wo_load rfl rfl rfl rfl (by assumption) rfl ?_
        | refine wo_eql rfl rfl rfl ?_
        | refine wo_neq rfl rfl rfl ?_
        | refine wo_lss rfl rfl rfl ?_
        | refine wo_gtr rfl rfl rfl ?_
        | refine wo_leq rfl rfl rfl ?_
        | refine wo_geq rfl rfl rfl ?_
        | refine wo_not rfl rfl ?_
        | refine wo_lenStr rfl rfl rfl ?_
        | refine wo_len rfl rfl rfl rfl ?_
        | refine wo_buildSlice rfl rfl rfl ?_
        | refine wo_build rfl rfl rfl ?_
        | refine wo_pick rfl rfl rfl ?_
        | refine wo_strEq rfl rfl rfl ?_
        | refine wo_strNe rfl rfl rfl ?_
        | refine wo_on rfl ?_
        | refine wo_off rfl rfl ?_
        | refine wo_offn rfl ?_)
      refine wg_inLoop ?_
      refine wg_le (.put 1 (.slice f t o items.length c ex) (.put 5 (.ptr fr 0 0) (.put 6 (.ptr fm 0 0) (.put 7 (.int .i64 ((i + 1 : Nat) : Int)) .nil)))) ?_ ⟨rfl, rfl, rfl, rfl, trivial⟩
      exact ih (i + 1, vr', vm', bs2) A4 (by simp only; omega) ⟨hi, sm.only.wf, st3, sm.rd, inv.ne, fun g hg => inv.rm g (st.sub g hg), fun g hg => inv.mr g (sm.sub g hg), oA3, inv.or, inv.om, hbl⟩
    repeat (first
      | refine wg_seq ?_
      | refine wg_skip ?_
      | refine wg_block ?_
      | refine wg_scope ?_
      | refine wg_inBlock ?_
      | refine wg_inScope ?_
      | refine wg_region ?_
      | refine wo_nil ?_
      | refine wo_move rfl rfl ?_
      | refine wo_assign rfl rfl ?_
      | refine wo_fieldAddr rfl rfl rfl ?_
      | refine wo_nilCheck rfl rfl ?_
      | refine wo_extract rfl rfl rfl ?_
      | refine wo_load rfl rfl rfl rfl (by assumption) rfl ?_
      | refine wo_eql rfl rfl rfl ?_
      | refine wo_neq rfl rfl rfl ?_
      | refine wo_lss rfl rfl rfl ?_
      | refine wo_gtr rfl rfl rfl ?_
      | refine wo_leq rfl rfl rfl ?_
      | refine wo_geq rfl rfl rfl ?_
      | refine wo_not rfl rfl ?_
      | refine wo_lenStr rfl rfl rfl ?_
      | refine wo_len rfl rfl rfl rfl ?_
      | refine wo_buildSlice rfl rfl rfl ?_
      | refine wo_build rfl rfl rfl ?_
      | refine wo_pick rfl rfl rfl ?_
      | refine wo_strEq rfl rfl rfl ?_
      | refine wo_strNe rfl rfl rfl ?_
      | refine wo_on rfl ?_
      | refine wo_off rfl rfl ?_
      | refine wo_offn rfl ?_)
    refine wg_dec rfl (fun w5 => ?_) fun w5 => ?_
    · repeat (first
        | refine wg_seq ?_
        | refine wg_skip ?_
        | refine wg_block ?_
        | refine wg_scope ?_
        | refine wg_inBlock ?_
        | refine wg_inScope ?_
        | refine wg_region ?_
        | refine wo_nil ?_
        | refine wo_move rfl rfl ?_
        | refine wo_assign rfl rfl ?_
        | refine wo_fieldAddr rfl rfl rfl ?_
        | refine wo_nilCheck rfl rfl ?_
        | refine wo_extract rfl rfl rfl ?_
        | refine wo_load rfl rfl rfl rfl (by assumption) rfl ?_
        | refine wo_eql rfl rfl rfl ?_
        | refine wo_neq rfl rfl rfl ?_
        | refine wo_lss rfl rfl rfl ?_
        | refine wo_gtr rfl rfl rfl ?_
        | refine wo_leq rfl rfl rfl ?_
        | refine wo_geq rfl rfl rfl ?_
        | refine wo_not rfl rfl ?_
        | refine wo_lenStr rfl rfl rfl ?_
        | refine wo_len rfl rfl rfl rfl ?_
        | refine wo_buildSlice rfl rfl rfl ?_
        | refine wo_build rfl rfl rfl ?_
        | refine wo_pick rfl rfl rfl ?_
        | refine wo_strEq rfl rfl rfl ?_
        | refine wo_strNe rfl rfl rfl ?_
        | refine wo_on rfl ?_
        | refine wo_off rfl rfl ?_
        | refine wo_offn rfl ?_)
      refine wo_indexAddr i rfl rfl rfl rfl rfl hi ?_
      repeat (first
        | refine wg_seq ?_
        | refine wg_skip ?_
        | refine wg_block ?_
        | refine wg_scope ?_
        | refine wg_inBlock ?_
        | refine wg_inScope ?_
        | refine wg_region ?_
        | refine wo_nil ?_
        | refine wo_move rfl rfl ?_
        | refine wo_assign rfl rfl ?_
        | refine wo_fieldAddr rfl rfl rfl ?_
        | refine wo_nilCheck rfl rfl ?_
        | refine wo_extract rfl rfl rfl ?_
        | refine wo_load rfl rfl rfl rfl (by assumption) rfl ?_
        | refine wo_eql rfl rfl rfl ?_
        | refine wo_neq rfl rfl rfl ?_
        | refine wo_lss rfl rfl rfl ?_
        | refine wo_gtr rfl rfl rfl ?_
        | refine wo_leq rfl rfl rfl ?_
        | refine wo_geq rfl rfl rfl ?_
        | refine wo_not rfl rfl ?_
        | refine wo_lenStr rfl rfl rfl ?_
        | refine wo_len rfl rfl rfl rfl ?_
        | refine wo_buildSlice rfl rfl rfl ?_
        | refine wo_build rfl rfl rfl ?_
        | refine wo_pick rfl rfl rfl ?_
        | refine wo_strEq rfl rfl rfl ?_
        | refine wo_strNe rfl rfl rfl ?_
        | refine wo_on rfl ?_
        | refine wo_off rfl rfl ?_
        | refine wo_offn rfl ?_)
      refine wo_load rfl rfl rfl rfl hh hM ?_
      refine wo_call rfl rfl orc_cons rfl (rCount_spec inv.wf inv.r xok.m1 xok.m2) ?_
      rintro r A2 ⟨rfl, vr', st⟩
      have hh2 := st.only.keep _ _ hh hfr
      repeat (first
        | refine wg_seq ?_
        | refine wg_skip ?_
        | refine wg_block ?_
        | refine wg_scope ?_
        | refine wg_inBlock ?_
        | refine wg_inScope ?_
        | refine wg_region ?_
        | refine wo_nil ?_
        | refine wo_move rfl rfl ?_
        | refine wo_assign rfl rfl ?_
        | refine wo_fieldAddr rfl rfl rfl ?_
        | refine wo_nilCheck rfl rfl ?_
        | refine wo_extract rfl rfl rfl ?_
        | refine wo_load rfl rfl rfl rfl (by assumption) rfl ?_
        | refine wo_eql rfl rfl rfl ?_
        | refine wo_neq rfl rfl rfl ?_
        | refine wo_lss rfl rfl rfl ?_
        | refine wo_gtr rfl rfl rfl ?_
        | refine wo_leq rfl rfl rfl ?_
        | refine wo_geq rfl rfl rfl ?_
        | refine wo_not rfl rfl ?_
        | refine wo_lenStr rfl rfl rfl ?_
        | refine wo_len rfl rfl rfl rfl ?_
        | refine wo_buildSlice rfl rfl rfl ?_
        | refine wo_build rfl rfl rfl ?_
        | refine wo_pick rfl rfl rfl ?_
        | refine wo_strEq rfl rfl rfl ?_
        | refine wo_strNe rfl rfl rfl ?_
        | refine wo_on rfl ?_
        | refine wo_off rfl rfl ?_
        | refine wo_offn rfl ?_)
      refine wo_indexAddr i rfl rfl rfl rfl rfl hi ?_
      repeat (first
        | refine wg_seq ?_
        | refine wg_skip ?_
        | refine wg_block ?_
        | refine wg_scope ?_
        | refine wg_inBlock ?_
        | refine wg_inScope ?_
        | refine wg_region ?_
        | refine wo_nil ?_
        | refine wo_move rfl rfl ?_
        | refine wo_assign rfl rfl ?_
        | refine wo_fieldAddr rfl rfl rfl ?_
        | refine wo_nilCheck rfl rfl ?_
        | refine wo_extract rfl rfl rfl ?_
        | refine wo_load rfl rfl rfl rfl (by assumption) rfl ?_
        | refine wo_eql rfl rfl rfl ?_
        | refine wo_neq rfl rfl rfl ?_
        | refine wo_lss rfl rfl rfl ?_
        | refine wo_gtr rfl rfl rfl ?_
        | refine wo_leq rfl rfl rfl ?_
        | refine wo_geq rfl rfl rfl ?_
        | refine wo_not rfl rfl ?_
        | refine wo_lenStr rfl rfl rfl ?_
        | refine wo_len rfl rfl rfl rfl ?_
        | refine wo_buildSlice rfl rfl rfl ?_
        | refine wo_build rfl rfl rfl ?_
        | refine wo_pick rfl rfl rfl ?_
        | refine wo_strEq rfl rfl rfl ?_
        | refine wo_strNe rfl rfl rfl ?_
        | refine wo_on rfl ?_
        | refine wo_off rfl rfl ?_
        | refine wo_offn rfl ?_)
      refine wo_load rfl rfl rfl rfl hh2 hM ?_
      refine wo_call rfl rfl orc_cons rfl (ref_count st.only.wf (hmk st) (by omega) xok.m1 xok.m2) ?_
      rintro r A3 ⟨rfl, vm', sm⟩
      have hbl := hdl (rdC x.most bs1).2.2
      generalize (rdC x.most bs1).2.1 = e
      generalize (rdC x.most bs1).1 = n
      generalize bs1.drop (rdC x.most bs1).2.2 = bs2 at st sm hbl
      repeat (first
        | refine wg_seq ?_
        | refine wg_skip ?_
        | refine wg_block ?_
        | refine wg_scope ?_
        | refine wg_inBlock ?_
        | refine wg_inScope ?_
        | refine wg_region ?_
        | refine wo_nil ?_
        | refine wo_move rfl rfl ?_
        | refine wo_assign rfl rfl ?_
        | refine wo_fieldAddr rfl rfl rfl ?_
        | refine wo_nilCheck rfl rfl ?_
        | refine wo_extract rfl rfl rfl ?_
        | refine wo_load rfl rfl rfl rfl (by assumption) rfl ?_
        | refine wo_eql rfl rfl rfl ?_
        | refine wo_neq rfl rfl rfl ?_
        | refine wo_lss rfl rfl rfl ?_
        | refine wo_gtr rfl rfl rfl ?_
        | refine wo_leq rfl rfl rfl ?_
        | refine wo_geq rfl rfl rfl ?_
        | refine wo_not rfl rfl ?_
        | refine wo_lenStr rfl rfl rfl ?_
        | refine wo_len rfl rfl rfl rfl ?_
        | refine wo_buildSlice rfl rfl rfl ?_
        | refine wo_build rfl rfl rfl ?_
        | refine wo_pick rfl rfl rfl ?_
        | refine wo_strEq rfl rfl rfl ?_
        | refine wo_strNe rfl rfl rfl ?_
        | refine wo_on rfl ?_
        | refine wo_off rfl rfl ?_
        | refine wo_offn rfl ?_)
      repeat (first
        | refine wo_nil ?_
        | refine wo_move rfl rfl ?_
        | refine wo_assign rfl rfl ?_
        | refine wo_fieldAddr rfl rfl rfl ?_
        | refine wo_nilCheck rfl rfl ?_
        | refine wo_extract rfl rfl rfl ?_
        | refine wo_load rfl rfl rfl rfl (by assumption) rfl ?_
        | refine wo_eql rfl rfl rfl ?_
        | refine wo_neq rfl rfl rfl ?_
        | refine wo_lss rfl rfl rfl ?_
        | refine wo_gtr rfl rfl rfl ?_
        | refine wo_leq rfl rfl rfl ?_
        | refine wo_geq rfl rfl rfl ?_
        | refine wo_not rfl rfl ?_
        | refine wo_lenStr rfl rfl rfl ?_
        | refine wo_len rfl rfl rfl rfl ?_
        | refine wo_buildSlice rfl rfl rfl ?_
        | refine wo_build rfl rfl rfl ?_
        | refine wo_pick rfl rfl rfl ?_
        | refine wo_strEq rfl rfl rfl ?_
        | refine wo_strNe rfl rfl rfl ?_
        | refine wo_on rfl ?_
        | refine wo_off rfl rfl ?_
        | refine wo_offn rfl ?_)
      repeat (first
        | refine wg_seq ?_
        | refine wg_skip ?_
        | refine wg_block ?_
        | refine wg_scope ?_
        | refine wg_inBlock ?_
        | refine wg_inScope ?_)
      have hok : some (AV.bool (decide ((n : Int) = (n : Int)))) = some (AV.bool true) := congrArg (fun x => some (AV.bool x)) (decide_eq_true rfl)
      have st3 : Rd A3 fr vr' bs2 := st.rd.keep sm.only fun g hg e => by
        have e : g = fm := e
        rcases hg with hg | hg
        · have hg : g = fr := hg
          exact inv.ne (hg.symm.trans e)
        · exact inv.rm g (st.sub g hg) e
      have oA3 : Only A A3 none' := Only.own hw (Only.own hw inv.only st.only fun g hg => by
        have hg : g = fr := hg
        have := inv.or
        omega) sm.only fun g hg => by
        have hg : g = fm := hg
        have := inv.om
        omega
      have hcm := sm.rd.cell
      refine wg_le (.put 1 (.slice f t o items.length c ex) (.put 5 (.ptr fr 0 0) (.put 6 (.ptr fm 0 0) (.put 7 (.int .i64 (i : Int)) (.put 8 (.int .i64 (e : Int)) (.put 9 (.int .i64 (e : Int)) (.put 10 (.bool true) .nil))))))) ?_ ⟨rfl, rfl, rfl, rfl, rfl, rfl, hok, trivial⟩
      refine wg_draw rfl ?_
      repeat (first
        | (refine wd_pure rfl rfl rfl rfl rfl ?_
           repeat (first
             | refine wo_nil ?_
             | refine wo_move rfl rfl ?_
             | refine wo_assign rfl rfl ?_
             | refine wo_fieldAddr rfl rfl rfl ?_
             | refine wo_nilCheck rfl rfl ?_
             | refine wo_extract rfl rfl rfl ?_
             | refine wo_load rfl rfl rfl rfl (by assumption) rfl ?_
             | refine wo_eql rfl rfl rfl ?_
             | refine wo_neq rfl rfl rfl ?_
             | refine wo_lss rfl rfl rfl ?_
             | refine wo_gtr rfl rfl rfl ?_
             | refine wo_leq rfl rfl rfl ?_
             | refine wo_geq rfl rfl rfl ?_
             | refine wo_not rfl rfl ?_
             | refine wo_lenStr rfl rfl rfl ?_
             | refine wo_len rfl rfl rfl rfl ?_
             | refine wo_buildSlice rfl rfl rfl ?_
             | refine wo_build rfl rfl rfl ?_
             | refine wo_pick rfl rfl rfl ?_
             | refine wo_strEq rfl rfl rfl ?_
             | refine wo_strNe rfl rfl rfl ?_
             | refine wo_on rfl ?_
             | refine wo_off rfl rfl ?_
             | refine wo_offn rfl ?_)
           refine ⟨rfl, ?_⟩)
        | (refine wd_read rfl rfl rfl rfl rfl rfl rfl ?_
           repeat (first
             | refine wo_nil ?_
             | refine wo_move rfl rfl ?_
             | refine wo_assign rfl rfl ?_
             | refine wo_fieldAddr rfl rfl rfl ?_
             | refine wo_nilCheck rfl rfl ?_
             | refine wo_extract rfl rfl rfl ?_
             | refine wo_load rfl rfl rfl rfl (by assumption) rfl ?_
             | refine wo_eql rfl rfl rfl ?_
             | refine wo_neq rfl rfl rfl ?_
             | refine wo_lss rfl rfl rfl ?_
             | refine wo_gtr rfl rfl rfl ?_
             | refine wo_leq rfl rfl rfl ?_
             | refine wo_geq rfl rfl rfl ?_
             | refine wo_not rfl rfl ?_
             | refine wo_lenStr rfl rfl rfl ?_
             | refine wo_len rfl rfl rfl rfl ?_
             | refine wo_buildSlice rfl rfl rfl ?_
             | refine wo_build rfl rfl rfl ?_
             | refine wo_pick rfl rfl rfl ?_
             | refine wo_strEq rfl rfl rfl ?_
             | refine wo_strNe rfl rfl rfl ?_
             | refine wo_on rfl ?_
             | refine wo_off rfl rfl ?_
             | refine wo_offn rfl ?_)
           refine ⟨rfl, _, rfl, ?_⟩))
      refine wd_is 193 false rfl (decide_eq_false fun h => h rfl) ?_
      repeat (first
        | (refine wd_pure rfl rfl rfl rfl rfl ?_
           repeat (first
             | refine wo_nil ?_
             | refine wo_move rfl rfl ?_
             | refine wo_assign rfl rfl ?_
             | refine wo_fieldAddr rfl rfl rfl ?_
             | refine wo_nilCheck rfl rfl ?_
             | refine wo_extract rfl rfl rfl ?_
             | refine wo_load rfl rfl rfl rfl (by assumption) rfl ?_
             | refine wo_eql rfl rfl rfl ?_
             | refine wo_neq rfl rfl rfl ?_
             | refine wo_lss rfl rfl rfl ?_
             | refine wo_gtr rfl rfl rfl ?_
             | refine wo_leq rfl rfl rfl ?_
             | refine wo_geq rfl rfl rfl ?_
             | refine wo_not rfl rfl ?_
             | refine wo_lenStr rfl rfl rfl ?_
             | refine wo_len rfl rfl rfl rfl ?_
             | refine wo_buildSlice rfl rfl rfl ?_
             | refine wo_build rfl rfl rfl ?_
             | refine wo_pick rfl rfl rfl ?_
             | refine wo_strEq rfl rfl rfl ?_
             | refine wo_strNe rfl rfl rfl ?_
             | refine wo_on rfl ?_
             | refine wo_off rfl rfl ?_
             | refine wo_offn rfl ?_)
           refine ⟨rfl, ?_⟩)
        | (refine wd_read rfl rfl rfl rfl rfl rfl rfl ?_
           repeat (first
             | refine wo_nil ?_
             | refine wo_move rfl rfl ?_
             | refine wo_assign rfl rfl ?_
             | refine wo_fieldAddr rfl rfl rfl ?_
             | refine wo_nilCheck rfl rfl ?_
             | refine wo_extract rfl rfl rfl ?_
             | refine wo_load rfl rfl rfl rfl (by assumption) rfl ?_
             | refine wo_eql rfl rfl rfl ?_
             | refine wo_neq rfl rfl rfl ?_
             | refine wo_lss rfl rfl rfl ?_
             | refine wo_gtr rfl rfl rfl ?_
             | refine wo_leq rfl rfl rfl ?_
             | refine wo_geq rfl rfl rfl ?_
             | refine wo_not rfl rfl ?_
             | refine wo_lenStr rfl rfl rfl ?_
             | refine wo_len rfl rfl rfl rfl ?_
             | refine wo_buildSlice rfl rfl rfl ?_
             | refine wo_build rfl rfl rfl ?_
             | refine wo_pick rfl rfl rfl ?_
             | refine wo_strEq rfl rfl rfl ?_
             | refine wo_strNe rfl rfl rfl ?_
             | refine wo_on rfl ?_
             | refine wo_off rfl rfl ?_
             | refine wo_offn rfl ?_)
           refine ⟨rfl, _, rfl, ?_⟩))
      refine wd_read rfl rfl rfl rfl rfl rfl rfl ?_
      refine wo_on rfl ?_
      refine wo_len rfl rfl rfl sm.rd.full.row.lenV ?_
      repeat (first
        | refine wo_nil ?_
        | refine wo_move rfl rfl ?_
        | refine wo_assign rfl rfl ?_
        | refine wo_fieldAddr rfl rfl rfl ?_
        | refine wo_nilCheck rfl rfl ?_
        | refine wo_extract rfl rfl rfl ?_
        | refine wo_load rfl rfl rfl rfl (by assumption) rfl ?_
        | refine wo_eql rfl rfl rfl ?_
        | refine wo_neq rfl rfl rfl ?_
        | refine wo_lss rfl rfl rfl ?_
        | refine wo_gtr rfl rfl rfl ?_
        | refine wo_leq rfl rfl rfl ?_
        | refine wo_geq rfl rfl rfl ?_
        | refine wo_not rfl rfl ?_
        | refine wo_lenStr rfl rfl rfl ?_
        | refine wo_len rfl rfl rfl rfl ?_
        | refine wo_buildSlice rfl rfl rfl ?_
        | refine wo_build rfl rfl rfl ?_
        | refine wo_pick rfl rfl rfl ?_
        | refine wo_strEq rfl rfl rfl ?_
        | refine wo_strNe rfl rfl rfl ?_
        | refine wo_on rfl ?_
        | refine wo_off rfl rfl ?_
        | refine wo_offn rfl ?_)
      refine ⟨rfl, _, rfl, ?_⟩
      refine wd_act rfl rfl rfl ?_
      refine wo_on rfl ?_
      refine wo_call rfl rfl orc_cons rfl (left_spec st3) ?_
      rintro r A4 ⟨rfl, rfl⟩
      repeat (first
        | refine wo_nil ?_
        | refine wo_move rfl rfl ?_
        | refine wo_assign rfl rfl ?_
        | refine wo_fieldAddr rfl rfl rfl ?_
        | refine wo_nilCheck rfl rfl ?_
        | refine wo_extract rfl rfl rfl ?_
        | refine wo_load rfl rfl rfl rfl (by assumption) rfl ?_
        | refine wo_eql rfl rfl rfl ?_
        | refine wo_neq rfl rfl rfl ?_
        | refine wo_lss rfl rfl rfl ?_
        | refine wo_gtr rfl rfl rfl ?_
        | refine wo_leq rfl rfl rfl ?_
        | refine wo_geq rfl rfl rfl ?_
        | refine wo_not rfl rfl ?_
        | refine wo_lenStr rfl rfl rfl ?_
        | refine wo_len rfl rfl rfl rfl ?_
        | refine wo_buildSlice rfl rfl rfl ?_
        | refine wo_build rfl rfl rfl ?_
        | refine wo_pick rfl rfl rfl ?_
        | refine wo_strEq rfl rfl rfl ?_
        | refine wo_strNe rfl rfl rfl ?_
        | refine wo_on rfl ?_
        | refine wo_off rfl rfl ?_
        | refine wo_offn rfl ?_)
      refine ⟨⟨.inr ⟨fun F hF => ?_, stillInt⟩, .inr ⟨fun F hF => ?_, sm.rd.full.still⟩, trivial⟩, ?_⟩
      · show liftR (lenA (ES 13) 27 (ev F (.tmp 199)) A4) = _
        rw [hF.ev (x := .tmp 199) (v := vm') rfl, lenA_eq rfl sm.rd.full.row.lenV]
        rfl
      · show liftR (loadA (ES 13) 27 (ev F (.tmp 198)) A4) = _
        rw [hF.ev (x := .tmp 198) (v := .ptr fm 0 0) rfl, loadA_eq rfl rfl hcm rfl]
        rfl
      refine wd_pure rfl rfl rfl rfl rfl ?_
      repeat (first
        | refine wo_nil ?_
        | refine wo_move rfl rfl ?_
        | refine wo_assign rfl rfl ?_
        | refine wo_fieldAddr rfl rfl rfl ?_
        | refine wo_nilCheck rfl rfl ?_
        | refine wo_extract rfl rfl rfl ?_
        | refine wo_load rfl rfl rfl rfl (by assumption) rfl ?_
        | refine wo_eql rfl rfl rfl ?_
        | refine wo_neq rfl rfl rfl ?_
        | refine wo_lss rfl rfl rfl ?_
        | refine wo_gtr rfl rfl rfl ?_
        | refine wo_leq rfl rfl rfl ?_
        | refine wo_geq rfl rfl rfl ?_
        | refine wo_not rfl rfl ?_
        | refine wo_lenStr rfl rfl rfl ?_
        | refine wo_len rfl rfl rfl rfl ?_
        | refine wo_buildSlice rfl rfl rfl ?_
        | refine wo_build rfl rfl rfl ?_
        | refine wo_pick rfl rfl rfl ?_
        | refine wo_strEq rfl rfl rfl ?_
        | refine wo_strNe rfl rfl rfl ?_
        | refine wo_on rfl ?_
        | refine wo_off rfl rfl ?_
        | refine wo_offn rfl ?_)
      refine ⟨rfl, ?_⟩
      repeat (first
        | (refine wd_pure rfl rfl rfl rfl rfl ?_
           repeat (first
             | refine wo_nil ?_
             | refine wo_move rfl rfl ?_
             | refine wo_assign rfl rfl ?_
             | refine wo_fieldAddr rfl rfl rfl ?_
             | refine wo_nilCheck rfl rfl ?_
             | refine wo_extract rfl rfl rfl ?_
             | refine wo_load rfl rfl rfl rfl (by assumption) rfl ?_
             | refine wo_eql rfl rfl rfl ?_
             | refine wo_neq rfl rfl rfl ?_
             | refine wo_lss rfl rfl rfl ?_
             | refine wo_gtr rfl rfl rfl ?_
             | refine wo_leq rfl rfl rfl ?_
             | refine wo_geq rfl rfl rfl ?_
             | refine wo_not rfl rfl ?_
             | refine wo_lenStr rfl rfl rfl ?_
             | refine wo_len rfl rfl rfl rfl ?_
             | refine wo_buildSlice rfl rfl rfl ?_
             | refine wo_build rfl rfl rfl ?_
             | refine wo_pick rfl rfl rfl ?_
             | refine wo_strEq rfl rfl rfl ?_
             | refine wo_strNe rfl rfl rfl ?_
             | refine wo_on rfl ?_
             | refine wo_off rfl rfl ?_
             | refine wo_offn rfl ?_)
           refine ⟨rfl, ?_⟩)
        | (refine wd_read rfl rfl rfl rfl rfl rfl rfl ?_
           repeat (first
             | refine wo_nil ?_
             | refine wo_move rfl rfl ?_
             | refine wo_assign rfl rfl ?_
             | refine wo_fieldAddr rfl rfl rfl ?_
             | refine wo_nilCheck rfl rfl ?_
             | refine wo_extract rfl rfl rfl ?_
             | refine wo_load rfl rfl rfl rfl (by assumption) rfl ?_
             | refine wo_eql rfl rfl rfl ?_
             | refine wo_neq rfl rfl rfl ?_
             | refine wo_lss rfl rfl rfl ?_
             | refine wo_gtr rfl rfl rfl ?_
             | refine wo_leq rfl rfl rfl ?_
             | refine wo_geq rfl rfl rfl ?_
             | refine wo_not rfl rfl ?_
             | refine wo_lenStr rfl rfl rfl ?_
             | refine wo_len rfl rfl rfl rfl ?_
             | refine wo_buildSlice rfl rfl rfl ?_
             | refine wo_build rfl rfl rfl ?_
             | refine wo_pick rfl rfl rfl ?_
             | refine wo_strEq rfl rfl rfl ?_
             | refine wo_strNe rfl rfl rfl ?_
             | refine wo_on rfl ?_
             | refine wo_off rfl rfl ?_
             | refine wo_offn rfl ?_)
           refine ⟨rfl, _, rfl, ?_⟩))
      refine wd_nil ?_
      refine wg_dec rfl (fun h => absurd rfl h) fun _ => ?_
      repeat (first
        | refine wg_seq ?_
        | refine wg_skip ?_
        | refine wg_block ?_
        | refine wg_scope ?_
        | refine wg_inBlock ?_
        | refine wg_inScope ?_
        | refine wg_region ?_
        | refine wo_nil ?_
        | refine wo_move rfl rfl ?_
        | refine wo_assign rfl rfl ?_
        | refine wo_fieldAddr rfl rfl rfl ?_
        | refine wo_nilCheck rfl rfl ?_
        | refine wo_extract rfl rfl rfl ?_
        | refine wo_load rfl rfl rfl rfl (by assumption) rfl ?_
        | refine wo_eql rfl rfl rfl ?_
        | refine wo_neq rfl rfl rfl ?_
        | refine wo_lss rfl rfl rfl ?_
        | refine wo_gtr rfl rfl rfl ?_
        | refine wo_leq rfl rfl rfl ?_
        | refine wo_geq rfl rfl rfl ?_
        | refine wo_not rfl rfl ?_
        | refine wo_lenStr rfl rfl rfl ?_
        | refine wo_len rfl rfl rfl rfl ?_
        | refine wo_buildSlice rfl rfl rfl ?_
        | refine wo_build rfl rfl rfl ?_
        | refine wo_pick rfl rfl rfl ?_
        | refine wo_strEq rfl rfl rfl ?_
        | refine wo_strNe rfl rfl rfl ?_
        | refine wo_on rfl ?_
        | refine wo_off rfl rfl ?_
        | refine wo_offn rfl ?_)
      refine wo_add rfl rfl rfl (by omega) (by omega) ?_
      repeat (first
        | refine wg_seq ?_
        | refine wg_skip ?_
        | refine wg_block ?_
        | refine wg_scope ?_
        | refine wg_inBlock ?_
        | refine wg_inScope ?_
        | refine wg_region ?_
        | refine wo_nil ?_
        | refine wo_move rfl rfl ?_
        | refine wo_assign rfl rfl ?_
        | refine wo_fieldAddr rfl rfl rfl ?_
        | refine wo_nilCheck rfl rfl ?_
        | refine wo_extract rfl rfl rfl ?_
        | refine wo_load rfl rfl rfl rfl (by assumption) rfl ?_
        | refine wo_eql rfl rfl rfl ?_
        | refine wo_neq rfl rfl rfl ?_
        | refine wo_lss rfl rfl rfl ?_
        | refine wo_gtr rfl rfl rfl ?_
        | refine wo_leq rfl rfl rfl ?_
        | refine wo_geq rfl rfl rfl ?_
        | refine wo_not rfl rfl ?_
        | refine wo_lenStr rfl rfl rfl ?_
        | refine wo_len rfl rfl rfl rfl ?_
        | refine wo_buildSlice rfl rfl rfl ?_
        | refine wo_build rfl rfl rfl ?_
        | refine wo_pick rfl rfl rfl ?_
        | refine wo_strEq rfl rfl rfl ?_
        | refine wo_strNe rfl rfl rfl ?_
        | refine wo_on rfl ?_
        | refine wo_off rfl rfl ?_
        | refine wo_offn rfl ?_)
      refine wg_inLoop ?_
      refine wg_le (.put 1 (.slice f t o items.length c ex) (.put 5 (.ptr fr 0 0) (.put 6 (.ptr fm 0 0) (.put 7 (.int .i64 ((i + 1 : Nat) : Int)) .nil)))) ?_ ⟨rfl, rfl, rfl, rfl, trivial⟩
      exact ih (i + 1, vr', vm', bs2) A4 (by simp only; omega) ⟨hi, sm.only.wf, st3, sm.rd, inv.ne, fun g hg => inv.rm g (st.sub g hg), fun g hg => inv.mr g (sm.sub g hg), oA3, inv.or, inv.om, hbl⟩
    repeat (first
      | refine wg_seq ?_
      | refine wg_skip ?_
      | refine wg_block ?_
      | refine wg_scope ?_
      | refine wg_inBlock ?_
      | refine wg_inScope ?_
      | refine wg_region ?_
      | refine wo_nil ?_
      | refine wo_move rfl rfl ?_
      | refine wo_assign rfl rfl ?_
      | refine wo_fieldAddr rfl rfl rfl ?_
      | refine wo_nilCheck rfl rfl ?_
      | refine wo_extract rfl rfl rfl ?_
      | refine wo_load rfl rfl rfl rfl (by assumption) rfl ?_
      | refine wo_eql rfl rfl rfl ?_
      | refine wo_neq rfl rfl rfl ?_
      | refine wo_lss rfl rfl rfl ?_
      | refine wo_gtr rfl rfl rfl ?_
      | refine wo_leq rfl rfl rfl ?_
      | refine wo_geq rfl rfl rfl ?_
      | refine wo_not rfl rfl ?_
      | refine wo_lenStr rfl rfl rfl ?_
      | refine wo_len rfl rfl rfl rfl ?_
      | refine wo_buildSlice rfl rfl rfl ?_
      | refine wo_build rfl rfl rfl ?_
      | refine wo_pick rfl rfl rfl ?_
      | refine wo_strEq rfl rfl rfl ?_
      | refine wo_strNe rfl rfl rfl ?_
      | refine wo_on rfl ?_
      | refine wo_off rfl rfl ?_
      | refine wo_offn rfl ?_)
    refine wo_call rfl rfl orc_cons rfl (ruint_spec inv.wf inv.r) ?_
    rintro r A2 ⟨rfl, vr', st⟩
    repeat (first
      | refine wg_seq ?_
      | refine wg_skip ?_
      | refine wg_block ?_
      | refine wg_scope ?_
      | refine wg_inBlock ?_
      | refine wg_inScope ?_
      | refine wg_region ?_
      | refine wo_nil ?_
      | refine wo_move rfl rfl ?_
      | refine wo_assign rfl rfl ?_
      | refine wo_fieldAddr rfl rfl rfl ?_
      | refine wo_nilCheck rfl rfl ?_
      | refine wo_extract rfl rfl rfl ?_
      | refine wo_load rfl rfl rfl rfl (by assumption) rfl ?_
      | refine wo_eql rfl rfl rfl ?_
      | refine wo_neq rfl rfl rfl ?_
      | refine wo_lss rfl rfl rfl ?_
      | refine wo_gtr rfl rfl rfl ?_
      | refine wo_leq rfl rfl rfl ?_
      | refine wo_geq rfl rfl rfl ?_
      | refine wo_not rfl rfl ?_
      | refine wo_lenStr rfl rfl rfl ?_
      | refine wo_len rfl rfl rfl rfl ?_
      | refine wo_buildSlice rfl rfl rfl ?_
      | refine wo_build rfl rfl rfl ?_
      | refine wo_pick rfl rfl rfl ?_
      | refine wo_strEq rfl rfl rfl ?_
      | refine wo_strNe rfl rfl rfl ?_
      | refine wo_on rfl ?_
      | refine wo_off rfl rfl ?_
      | refine wo_offn rfl ?_)
    refine wo_call rfl rfl orc_cons rfl (ref_uint st.only.wf (hmk st) (by omega)) ?_
    rintro r A3 ⟨rfl, vm', sm⟩
    have hbl := hdl (rdG bs1 0 0).2.2
    generalize (rdG bs1 0 0).2.1 = e
    generalize (rdG bs1 0 0).1 = n
    generalize bs1.drop (rdG bs1 0 0).2.2 = bs2 at st sm hbl
    repeat (first
      | refine wg_seq ?_
      | refine wg_skip ?_
      | refine wg_block ?_
      | refine wg_scope ?_
      | refine wg_inBlock ?_
      | refine wg_inScope ?_
      | refine wg_region ?_
      | refine wo_nil ?_
      | refine wo_move rfl rfl ?_
      | refine wo_assign rfl rfl ?_
      | refine wo_fieldAddr rfl rfl rfl ?_
      | refine wo_nilCheck rfl rfl ?_
      | refine wo_extract rfl rfl rfl ?_
      | refine wo_load rfl rfl rfl rfl (by assumption) rfl ?_
      | refine wo_eql rfl rfl rfl ?_
      | refine wo_neq rfl rfl rfl ?_
      | refine wo_lss rfl rfl rfl ?_
      | refine wo_gtr rfl rfl rfl ?_
      | refine wo_leq rfl rfl rfl ?_
      | refine wo_geq rfl rfl rfl ?_
      | refine wo_not rfl rfl ?_
      | refine wo_lenStr rfl rfl rfl ?_
      | refine wo_len rfl rfl rfl rfl ?_
      | refine wo_buildSlice rfl rfl rfl ?_
      | refine wo_build rfl rfl rfl ?_
      | refine wo_pick rfl rfl rfl ?_
      | refine wo_strEq rfl rfl rfl ?_
      | refine wo_strNe rfl rfl rfl ?_
      | refine wo_on rfl ?_
      | refine wo_off rfl rfl ?_
      | refine wo_offn rfl ?_)
    repeat (first
      | refine wo_nil ?_
      | refine wo_move rfl rfl ?_
      | refine wo_assign rfl rfl ?_
      | refine wo_fieldAddr rfl rfl rfl ?_
      | refine wo_nilCheck rfl rfl ?_
      | refine wo_extract rfl rfl rfl ?_
      | refine wo_load rfl rfl rfl rfl (by assumption) rfl ?_
      | refine wo_eql rfl rfl rfl ?_
      | refine wo_neq rfl rfl rfl ?_
      | refine wo_lss rfl rfl rfl ?_
      | refine wo_gtr rfl rfl rfl ?_
      | refine wo_leq rfl rfl rfl ?_
      | refine wo_geq rfl rfl rfl ?_
      | refine wo_not rfl rfl ?_
      | refine wo_lenStr rfl rfl rfl ?_
      | refine wo_len rfl rfl rfl rfl ?_
      | refine wo_buildSlice rfl rfl rfl ?_
      | refine wo_build rfl rfl rfl ?_
      | refine wo_pick rfl rfl rfl ?_
      | refine wo_strEq rfl rfl rfl ?_
      | refine wo_strNe rfl rfl rfl ?_
      | refine wo_on rfl ?_
      | refine wo_off rfl rfl ?_
      | refine wo_offn rfl ?_)
    repeat (first
      | refine wg_seq ?_
      | refine wg_skip ?_
      | refine wg_block ?_
      | refine wg_scope ?_
      | refine wg_inBlock ?_
      | refine wg_inScope ?_)
    have hok : some (AV.bool (decide ((n : Int) = (n : Int)))) = some (AV.bool true) := congrArg (fun x => some (AV.bool x)) (decide_eq_true rfl)
    have st3 : Rd A3 fr vr' bs2 := st.rd.keep sm.only fun g hg e => by
      have e : g = fm := e
      rcases hg with hg | hg
      · have hg : g = fr := hg
        exact inv.ne (hg.symm.trans e)
      · exact inv.rm g (st.sub g hg) e
    have oA3 : Only A A3 none' := Only.own hw (Only.own hw inv.only st.only fun g hg => by
      have hg : g = fr := hg
      have := inv.or
      omega) sm.only fun g hg => by
      have hg : g = fm := hg
      have := inv.om
      omega
    have hcm := sm.rd.cell
    refine wg_le (.put 1 (.slice f t o items.length c ex) (.put 5 (.ptr fr 0 0) (.put 6 (.ptr fm 0 0) (.put 7 (.int .i64 (i : Int)) (.put 8 (.int .i64 (e : Int)) (.put 9 (.int .i64 (e : Int)) (.put 10 (.bool true) .nil))))))) ?_ ⟨rfl, rfl, rfl, rfl, rfl, rfl, hok, trivial⟩
    refine wg_draw rfl ?_
    repeat (first
      | (refine wd_pure rfl rfl rfl rfl rfl ?_
         repeat (first
           | refine wo_nil ?_
           | refine wo_move rfl rfl ?_
           | refine wo_assign rfl rfl ?_
           | refine wo_fieldAddr rfl rfl rfl ?_
           | refine wo_nilCheck rfl rfl ?_
           | refine wo_extract rfl rfl rfl ?_
           | refine wo_load rfl rfl rfl rfl (by assumption) rfl ?_
           | refine wo_eql rfl rfl rfl ?_
           | refine wo_neq rfl rfl rfl ?_
           | refine wo_lss rfl rfl rfl ?_
           | refine wo_gtr rfl rfl rfl ?_
           | refine wo_leq rfl rfl rfl ?_
           | refine wo_geq rfl rfl rfl ?_
           | refine wo_not rfl rfl ?_
           | refine wo_lenStr rfl rfl rfl ?_
           | refine wo_len rfl rfl rfl rfl ?_
           | refine wo_buildSlice rfl rfl rfl ?_
           | refine wo_build rfl rfl rfl ?_
           | refine wo_pick rfl rfl rfl ?_
           | refine wo_strEq rfl rfl rfl ?_
           | refine wo_strNe rfl rfl rfl ?_
           | refine wo_on rfl ?_
           | refine wo_off rfl rfl ?_
           | refine wo_offn rfl ?_)
         refine ⟨rfl, ?_⟩)
      | (refine wd_read rfl rfl rfl rfl rfl rfl rfl ?_
         repeat (first
           | refine wo_nil ?_
           | refine wo_move rfl rfl ?_
           | refine wo_assign rfl rfl ?_
           | refine wo_fieldAddr rfl rfl rfl ?_
           | refine wo_nilCheck rfl rfl ?_
           | refine wo_extract rfl rfl rfl ?_
           | refine wo_load rfl rfl rfl rfl (by assumption) rfl ?_
           | refine wo_eql rfl rfl rfl ?_
           | refine wo_neq rfl rfl rfl ?_
           | refine wo_lss rfl rfl rfl ?_
           | refine wo_gtr rfl rfl rfl ?_
           | refine wo_leq rfl rfl rfl ?_
           | refine wo_geq rfl rfl rfl ?_
           | refine wo_not rfl rfl ?_
           | refine wo_lenStr rfl rfl rfl ?_
           | refine wo_len rfl rfl rfl rfl ?_
           | refine wo_buildSlice rfl rfl rfl ?_
           | refine wo_build rfl rfl rfl ?_
           | refine wo_pick rfl rfl rfl ?_
           | refine wo_strEq rfl rfl rfl ?_
           | refine wo_strNe rfl rfl rfl ?_
           | refine wo_on rfl ?_
           | refine wo_off rfl rfl ?_
           | refine wo_offn rfl ?_)
         refine ⟨rfl, _, rfl, ?_⟩))
    refine wd_is 193 false rfl (decide_eq_false fun h => h rfl) ?_
    repeat (first
      | (refine wd_pure rfl rfl rfl rfl rfl ?_
         repeat (first
           | refine wo_nil ?_
           | refine wo_move rfl rfl ?_
           | refine wo_assign rfl rfl ?_
           | refine wo_fieldAddr rfl rfl rfl ?_
           | refine wo_nilCheck rfl rfl ?_
           | refine wo_extract rfl rfl rfl ?_
           | refine wo_load rfl rfl rfl rfl (by assumption) rfl ?_
           | refine wo_eql rfl rfl rfl ?_
           | refine wo_neq rfl rfl rfl ?_
           | refine wo_lss rfl rfl rfl ?_
           | refine wo_gtr rfl rfl rfl ?_
           | refine wo_leq rfl rfl rfl ?_
           | refine wo_geq rfl rfl rfl ?_
           | refine wo_not rfl rfl ?_
           | refine wo_lenStr rfl rfl rfl ?_
           | refine wo_len rfl rfl rfl rfl ?_
           | refine wo_buildSlice rfl rfl rfl ?_
           | refine wo_build rfl rfl rfl ?_
           | refine wo_pick rfl rfl rfl ?_
           | refine wo_strEq rfl rfl rfl ?_
           | refine wo_strNe rfl rfl rfl ?_
           | refine wo_on rfl ?_
           | refine wo_off rfl rfl ?_
           | refine wo_offn rfl ?_)
         refine ⟨rfl, ?_⟩)
      | (refine wd_read rfl rfl rfl rfl rfl rfl rfl ?_
         repeat (first
           | refine wo_nil ?_
           | refine wo_move rfl rfl ?_
           | refine wo_assign rfl rfl ?_
           | refine wo_fieldAddr rfl rfl rfl ?_
           | refine wo_nilCheck rfl rfl ?_
           | refine wo_extract rfl rfl rfl ?_
           | refine wo_load rfl rfl rfl rfl (by assumption) rfl ?_
           | refine wo_eql rfl rfl rfl ?_
           | refine wo_neq rfl rfl rfl ?_
           | refine wo_lss rfl rfl rfl ?_
           | refine wo_gtr rfl rfl rfl ?_
           | refine wo_leq rfl rfl rfl ?_
           | refine wo_geq rfl rfl rfl ?_
           | refine wo_not rfl rfl ?_
           | refine wo_lenStr rfl rfl rfl ?_
           | refine wo_len rfl rfl rfl rfl ?_
           | refine wo_buildSlice rfl rfl rfl ?_
           | refine wo_build rfl rfl rfl ?_
           | refine wo_pick rfl rfl rfl ?_
           | refine wo_strEq rfl rfl rfl ?_
           | refine wo_strNe rfl rfl rfl ?_
           | refine wo_on rfl ?_
           | refine wo_off rfl rfl ?_
           | refine wo_offn rfl ?_)
         refine ⟨rfl, _, rfl, ?_⟩))
    refine wd_read rfl rfl rfl rfl rfl rfl rfl ?_
    refine wo_on rfl ?_
    refine wo_len rfl rfl rfl sm.rd.full.row.lenV ?_
    repeat (first
      | refine wo_nil ?_
      | refine wo_move rfl rfl ?_
      | refine wo_assign rfl rfl ?_
      | refine wo_fieldAddr rfl rfl rfl ?_
      | refine wo_nilCheck rfl rfl ?_
      | refine wo_extract rfl rfl rfl ?_
      | refine wo_load rfl rfl rfl rfl (by assumption) rfl ?_
      | refine wo_eql rfl rfl rfl ?_
      | refine wo_neq rfl rfl rfl ?_
      | refine wo_lss rfl rfl rfl ?_
      | refine wo_gtr rfl rfl rfl ?_
      | refine wo_leq rfl rfl rfl ?_
      | refine wo_geq rfl rfl rfl ?_
      | refine wo_not rfl rfl ?_
      | refine wo_lenStr rfl rfl rfl ?_
      | refine wo_len rfl rfl rfl rfl ?_
      | refine wo_buildSlice rfl rfl rfl ?_
      | refine wo_build rfl rfl rfl ?_
      | refine wo_pick rfl rfl rfl ?_
      | refine wo_strEq rfl rfl rfl ?_
      | refine wo_strNe rfl rfl rfl ?_
      | refine wo_on rfl ?_
      | refine wo_off rfl rfl ?_
      | refine wo_offn rfl ?_)
    refine ⟨rfl, _, rfl, ?_⟩
    refine wd_act rfl rfl rfl ?_
    refine wo_on rfl ?_
    refine wo_call rfl rfl orc_cons rfl (left_spec st3) ?_
    rintro r A4 ⟨rfl, rfl⟩
    repeat (first
      | refine wo_nil ?_
      | refine wo_move rfl rfl ?_
      | refine wo_assign rfl rfl ?_
      | refine wo_fieldAddr rfl rfl rfl ?_
      | refine wo_nilCheck rfl rfl ?_
      | refine wo_extract rfl rfl rfl ?_
      | refine wo_load rfl rfl rfl rfl (by assumption) rfl ?_
      | refine wo_eql rfl rfl rfl ?_
      | refine wo_neq rfl rfl rfl ?_
      | refine wo_lss rfl rfl rfl ?_
      | refine wo_gtr rfl rfl rfl ?_
      | refine wo_leq rfl rfl rfl ?_
      | refine wo_geq rfl rfl rfl ?_
      | refine wo_not rfl rfl ?_
      | refine wo_lenStr rfl rfl rfl ?_
      | refine wo_len rfl rfl rfl rfl ?_
      | refine wo_buildSlice rfl rfl rfl ?_
      | refine wo_build rfl rfl rfl ?_
      | refine wo_pick rfl rfl rfl ?_
      | refine wo_strEq rfl rfl rfl ?_
      | refine wo_strNe rfl rfl rfl ?_
      | refine wo_on rfl ?_
      | refine wo_off rfl rfl ?_
      | refine wo_offn rfl ?_)
    refine ⟨⟨.inr ⟨fun F hF => ?_, stillInt⟩, .inr ⟨fun F hF => ?_, sm.rd.full.still⟩, trivial⟩, ?_⟩
    · show liftR (lenA (ES 13) 27 (ev F (.tmp 199)) A4) = _
      rw [hF.ev (x := .tmp 199) (v := vm') rfl, lenA_eq rfl sm.rd.full.row.lenV]
      rfl
    · show liftR (loadA (ES 13) 27 (ev F (.tmp 198)) A4) = _
      rw [hF.ev (x := .tmp 198) (v := .ptr fm 0 0) rfl, loadA_eq rfl rfl hcm rfl]
      rfl
    refine wd_pure rfl rfl rfl rfl rfl ?_
    repeat (first
      | refine wo_nil ?_
      | refine wo_move rfl rfl ?_
      | refine wo_assign rfl rfl ?_
      | refine wo_fieldAddr rfl rfl rfl ?_
      | refine wo_nilCheck rfl rfl ?_
      | refine wo_extract rfl rfl rfl ?_
      | refine wo_load rfl rfl rfl rfl (by assumption) rfl ?_
      | refine wo_eql rfl rfl rfl ?_
      | refine wo_neq rfl rfl rfl ?_
      | refine wo_lss rfl rfl rfl ?_
      | refine wo_gtr rfl rfl rfl ?_
      | refine wo_leq rfl rfl rfl ?_
      | refine wo_geq rfl rfl rfl ?_
      | refine wo_not rfl rfl ?_
      | refine wo_lenStr rfl rfl rfl ?_
      | refine wo_len rfl rfl rfl rfl ?_
      | refine wo_buildSlice rfl rfl rfl ?_
      | refine wo_build rfl rfl rfl ?_
      | refine wo_pick rfl rfl rfl ?_
      | refine wo_strEq rfl rfl rfl ?_
      | refine wo_strNe rfl rfl rfl ?_
      | refine wo_on rfl ?_
      | refine wo_off rfl rfl ?_
      | refine wo_offn rfl ?_)
    refine ⟨rfl, ?_⟩
    repeat (first
      | (refine wd_pure rfl rfl rfl rfl rfl ?_
         repeat (first
           | refine wo_nil ?_
           | refine wo_move rfl rfl ?_
           | refine wo_assign rfl rfl ?_
           | refine wo_fieldAddr rfl rfl rfl ?_
           | refine wo_nilCheck rfl rfl ?_
           | refine wo_extract rfl rfl rfl ?_
           | refine wo_load rfl rfl rfl rfl (by assumption) rfl ?_
           | refine wo_eql rfl rfl rfl ?_
           | refine wo_neq rfl rfl rfl ?_
           | refine wo_lss rfl rfl rfl ?_
           | refine wo_gtr rfl rfl rfl ?_
           | refine wo_leq rfl rfl rfl ?_
           | refine wo_geq rfl rfl rfl ?_
           | refine wo_not rfl rfl ?_
           | refine wo_lenStr rfl rfl rfl ?_
           | refine wo_len rfl rfl rfl rfl ?_
           | refine wo_buildSlice rfl rfl rfl ?_
           | refine wo_build rfl rfl rfl ?_
           | refine wo_pick rfl rfl rfl ?_
           | refine wo_strEq rfl rfl rfl ?_
           | refine wo_strNe rfl rfl rfl ?_
           | refine wo_on rfl ?_
           | refine wo_off rfl rfl ?_
           | refine wo_offn rfl ?_)
         refine ⟨rfl, ?_⟩)
      | (refine wd_read rfl rfl rfl rfl rfl rfl rfl ?_
         repeat (first
           | refine wo_nil ?_
           | refine wo_move rfl rfl ?_
           | refine wo_assign rfl rfl ?_
           | refine wo_fieldAddr rfl rfl rfl ?_
           | refine wo_nilCheck rfl rfl ?_
           | refine wo_extract rfl rfl rfl ?_
           | refine wo_load rfl rfl rfl rfl (by assumption) rfl ?_
           | refine wo_eql rfl rfl rfl ?_
           | refine wo_neq rfl rfl rfl ?_
           | refine wo_lss rfl rfl rfl ?_
           | refine wo_gtr rfl rfl rfl ?_
           | refine wo_leq rfl rfl rfl ?_
           | refine wo_geq rfl rfl rfl ?_
           | refine wo_not rfl rfl ?_
           | refine wo_lenStr rfl rfl rfl ?_
           | refine wo_len rfl rfl rfl rfl ?_
           | refine wo_buildSlice rfl rfl rfl ?_
           | refine wo_build rfl rfl rfl ?_
           | refine wo_pick rfl rfl rfl ?_
           | refine wo_strEq rfl rfl rfl ?_
           | refine wo_strNe rfl rfl rfl ?_
           | refine wo_on rfl ?_
           | refine wo_off rfl rfl ?_
           | refine wo_offn rfl ?_)
         refine ⟨rfl, _, rfl, ?_⟩))
    refine wd_nil ?_
    refine wg_dec rfl (fun h => absurd rfl h) fun _ => ?_
    repeat (first
      | refine wg_seq ?_
      | refine wg_skip ?_
      | refine wg_block ?_
      | refine wg_scope ?_
      | refine wg_inBlock ?_
      | refine wg_inScope ?_
      | refine wg_region ?_
      | refine wo_nil ?_
      | refine wo_move rfl rfl ?_
      | refine wo_assign rfl rfl ?_
      | refine wo_fieldAddr rfl rfl rfl ?_
      | refine wo_nilCheck rfl rfl ?_
      | refine wo_extract rfl rfl rfl ?_
      | refine wo_load rfl rfl rfl rfl (by assumption) rfl ?_
      | refine wo_eql rfl rfl rfl ?_
      | refine wo_neq rfl rfl rfl ?_
      | refine wo_lss rfl rfl rfl ?_
      | refine wo_gtr rfl rfl rfl ?_
      | refine wo_leq rfl rfl rfl ?_
      | refine wo_geq rfl rfl rfl ?_
      | refine wo_not rfl rfl ?_
      | refine wo_lenStr rfl rfl rfl ?_
      | refine wo_len rfl rfl rfl rfl ?_
      | refine wo_buildSlice rfl rfl rfl ?_
      | refine wo_build rfl rfl rfl ?_
      | refine wo_pick rfl rfl rfl ?_
      | refine wo_strEq rfl rfl rfl ?_
      | refine wo_strNe rfl rfl rfl ?_
      | refine wo_on rfl ?_
      | refine wo_off rfl rfl ?_
      | refine wo_offn rfl ?_)
    refine wo_add rfl rfl rfl (by omega) (by omega) ?_
    repeat (first
      | refine wg_seq ?_
      | refine wg_skip ?_
      | refine wg_block ?_
      | refine wg_scope ?_
      | refine wg_inBlock ?_
      | refine wg_inScope ?_
      | refine wg_region ?_
      | refine wo_nil ?_
      | refine wo_move rfl rfl ?_
      | refine wo_assign rfl rfl ?_
      | refine wo_fieldAddr rfl rfl rfl ?_
      | refine wo_nilCheck rfl rfl ?_
      | refine wo_extract rfl rfl rfl ?_
      | refine wo_load rfl rfl rfl rfl (by assumption) rfl ?_
      | refine wo_eql rfl rfl rfl ?_
      | refine wo_neq rfl rfl rfl ?_
      | refine wo_lss rfl rfl rfl ?_
      | refine wo_gtr rfl rfl rfl ?_
      | refine wo_leq rfl rfl rfl ?_
      | refine wo_geq rfl rfl rfl ?_
      | refine wo_not rfl rfl ?_
      | refine wo_lenStr rfl rfl rfl ?_
      | refine wo_len rfl rfl rfl rfl ?_
      | refine wo_buildSlice rfl rfl rfl ?_
      | refine wo_build rfl rfl rfl ?_
      | refine wo_pick rfl rfl rfl ?_
      | refine wo_strEq rfl rfl rfl ?_
      | refine wo_strNe rfl rfl rfl ?_
      | refine wo_on rfl ?_
      | refine wo_off rfl rfl ?_
      | refine wo_offn rfl ?_)
    refine wg_inLoop ?_
    refine wg_le (.put 1 (.slice f t o items.length c ex) (.put 5 (.ptr fr 0 0) (.put 6 (.ptr fm 0 0) (.put 7 (.int .i64 ((i + 1 : Nat) : Int)) .nil)))) ?_ ⟨rfl, rfl, rfl, rfl, trivial⟩
    exact ih (i + 1, vr', vm', bs2) A4 (by simp only; omega) ⟨hi, sm.only.wf, st3, sm.rd, inv.ne, fun g hg => inv.rm g (st.sub g hg), fun g hg => inv.mr g (sm.sub g hg), oA3, inv.or, inv.om, hbl⟩
  · refine wg_exit rfl ?_
    repeat (first
      | refine wg_seq ?_
      | refine wg_skip ?_
      | refine wg_block ?_
      | refine wg_scope ?_
      | refine wg_inBlock ?_
      | refine wg_inScope ?_
      | refine wg_region ?_
      | refine wo_nil ?_
      | refine wo_move rfl rfl ?_
      | refine wo_assign rfl rfl ?_
      | refine wo_fieldAddr rfl rfl rfl ?_
      | refine wo_nilCheck rfl rfl ?_
      | refine wo_extract rfl rfl rfl ?_
      | refine wo_load rfl rfl rfl rfl (by assumption) rfl ?_
      | refine wo_eql rfl rfl rfl ?_
      | refine wo_neq rfl rfl rfl ?_
      | refine wo_lss rfl rfl rfl ?_
      | refine wo_gtr rfl rfl rfl ?_
      | refine wo_leq rfl rfl rfl ?_
      | refine wo_geq rfl rfl rfl ?_
      | refine wo_not rfl rfl ?_
      | refine wo_lenStr rfl rfl rfl ?_
      | refine wo_len rfl rfl rfl rfl ?_
      | refine wo_buildSlice rfl rfl rfl ?_
      | refine wo_build rfl rfl rfl ?_
      | refine wo_pick rfl rfl rfl ?_
      | refine wo_strEq rfl rfl rfl ?_
      | refine wo_strNe rfl rfl rfl ?_
      | refine wo_on rfl ?_
      | refine wo_off rfl rfl ?_
      | refine wo_offn rfl ?_)
    exact wg_ret rfl rfl
end Go.Proofs.Ytejmdglmldjliaa.Ae
