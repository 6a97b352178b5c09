/-
  THE DOCUMENT'S PUT, by the rules.
-/
import Derived.Test.YtokieeiohfcgdaaAiSyC2
import Derived.Test.YtokieeiohfcgdaaAiSyW2
namespace Go.Proofs.Ytokieeiohfcgdaa.Ae
open Go.AE
set_option linter.unusedVariables false
set_option maxRecDepth 100000

/-- What holds at the head of the document's loop. -/
structure QInv (A A1 : AW) (vb : AV) (l : List In) (i : Nat) : Prop where
  le : i ≤ l.length
  ok : ∀ x ∈ l.take i, isP x.1 x.2
  buf : Buf A1 1 vb (putB l i).length (bys (putB l i))
  only : Only A A1 none'
  own : ∀ g, vb.isFam g → A.nxt ≤ g
theorem QInv.next {A A1 A2 A3 : AW} {vb vb' : AV} {l : List In} {i : Nat} {x : In} (hw : Wf A) (inv : QInv A A1 vb l i) (hx : l[i]? = some x) (hp : isP x.1 x.2) (ho : Only A1 A2 none')
    (st : BStep A2 A3 vb vb' (putB l i) (encI x)) : QInv A A3 vb' l (i + 1) := by
  have hn := inv.only.nxt
  have hn2 := ho.nxt
  have h2 : Only A A2 none' := inv.only.same ho
  refine ⟨(List.getElem?_eq_some_iff.1 hx).1, ok_next inv.ok hx hp, by rw [putB_next hx]; exact st.buf, Only.fresh hw h2 st.only inv.own, fun g hg => ?_⟩
  rcases st.grow g hg with h | h
  · exact inv.own g h
  · omega
theorem rput_spec {A : AW} {v : AV} {l : List In} (hw : Wf A) (hrow : Row A 2 v l.length (ics l)) (hlen : l.length < 9223372036854775808) :
    CallP (ES 35) 37 [v] A fun r A1 => ∃ vb, r = .tuple [vb, .int .i64 (putL l).2] ∧ Buf A1 1 vb (putL l).1.length (bys (putL l).1) ∧ Only A A1 none' ∧ Grow A none' vb.isFam := by
  refine call_of rfl rfl rfl ?_
  repeat (first | refine wg_seq ?_ | refine wg_skip ?_ | refine wg_block ?_ | refine wg_scope ?_ | refine wg_inBlock ?_ | refine wg_inScope ?_ | refine wg_region ?_ | refine wo_nil ?_ | refine wo_move rfl rfl ?_ | refine wo_assign rfl rfl ?_ | refine wo_fieldAddr rfl rfl rfl ?_ | refine wo_nilCheck rfl rfl ?_ | refine wo_extract rfl rfl rfl ?_ | refine wo_load rfl rfl rfl rfl (by assumption) rfl ?_ | refine wo_eql rfl rfl rfl ?_ | refine wo_neq rfl rfl rfl ?_ | refine wo_lss rfl rfl rfl ?_ | refine wo_gtr rfl rfl rfl ?_ | refine wo_leq rfl rfl rfl ?_ | refine wo_geq rfl rfl rfl ?_ | refine wo_not rfl rfl ?_ | refine wo_lenStr rfl rfl rfl ?_ | refine wo_len rfl rfl rfl rfl ?_ | refine wo_buildSlice rfl rfl rfl ?_ | refine wo_build rfl rfl rfl ?_ | refine wo_pick rfl rfl rfl ?_ | refine wo_strEq rfl rfl rfl ?_ | refine wo_boolEq rfl rfl rfl rfl ?_ | refine wo_boolNe rfl rfl rfl rfl ?_ | refine wo_strNe rfl rfl rfl ?_ | refine wo_on rfl ?_ | refine wo_off rfl rfl ?_ | refine wo_offn rfl ?_)
  refine wo_len rfl rfl rfl hrow.lenV ?_
  repeat (first | refine wg_seq ?_ | refine wg_skip ?_ | refine wg_block ?_ | refine wg_scope ?_ | refine wg_inBlock ?_ | refine wg_inScope ?_ | refine wg_region ?_ | refine wo_nil ?_ | refine wo_move rfl rfl ?_ | refine wo_assign rfl rfl ?_ | refine wo_fieldAddr rfl rfl rfl ?_ | refine wo_nilCheck rfl rfl ?_ | refine wo_extract rfl rfl rfl ?_ | refine wo_load rfl rfl rfl rfl (by assumption) rfl ?_ | refine wo_eql rfl rfl rfl ?_ | refine wo_neq rfl rfl rfl ?_ | refine wo_lss rfl rfl rfl ?_ | refine wo_gtr rfl rfl rfl ?_ | refine wo_leq rfl rfl rfl ?_ | refine wo_geq rfl rfl rfl ?_ | refine wo_not rfl rfl ?_ | refine wo_lenStr rfl rfl rfl ?_ | refine wo_len rfl rfl rfl rfl ?_ | refine wo_buildSlice rfl rfl rfl ?_ | refine wo_build rfl rfl rfl ?_ | refine wo_pick rfl rfl rfl ?_ | refine wo_strEq rfl rfl rfl ?_ | refine wo_boolEq rfl rfl rfl rfl ?_ | refine wo_boolNe rfl rfl rfl rfl ?_ | refine wo_strNe rfl rfl rfl ?_ | refine wo_on rfl ?_ | refine wo_off rfl rfl ?_ | refine wo_offn rfl ?_)
  refine wg_dec rfl (fun h => ?_) fun h => ?_
  · have h : 200 < l.length := by
      have : (200 : Int) < (l.length : Int) := h
      omega
    unfold putL
    rw [if_pos h]
    repeat (first | refine wg_seq ?_ | refine wg_skip ?_ | refine wg_block ?_ | refine wg_scope ?_ | refine wg_inBlock ?_ | refine wg_inScope ?_ | refine wg_region ?_ | refine wo_nil ?_ | refine wo_move rfl rfl ?_ | refine wo_assign rfl rfl ?_ | refine wo_fieldAddr rfl rfl rfl ?_ | refine wo_nilCheck rfl rfl ?_ | refine wo_extract rfl rfl rfl ?_ | refine wo_load rfl rfl rfl rfl (by assumption) rfl ?_ | refine wo_eql rfl rfl rfl ?_ | refine wo_neq rfl rfl rfl ?_ | refine wo_lss rfl rfl rfl ?_ | refine wo_gtr rfl rfl rfl ?_ | refine wo_leq rfl rfl rfl ?_ | refine wo_geq rfl rfl rfl ?_ | refine wo_not rfl rfl ?_ | refine wo_lenStr rfl rfl rfl ?_ | refine wo_len rfl rfl rfl rfl ?_ | refine wo_buildSlice rfl rfl rfl ?_ | refine wo_build rfl rfl rfl ?_ | refine wo_pick rfl rfl rfl ?_ | refine wo_strEq rfl rfl rfl ?_ | refine wo_boolEq rfl rfl rfl rfl ?_ | refine wo_boolNe rfl rfl rfl rfl ?_ | refine wo_strNe rfl rfl rfl ?_ | refine wo_on rfl ?_ | refine wo_off rfl rfl ?_ | refine wo_offn rfl ?_)
    exact wg_ret rfl ⟨.nils, rfl, .inl ⟨rfl, rfl, rfl⟩, Only.refl hw _, fun g hg => .inl hg⟩
  have h200 : l.length ≤ 200 := by
    have : ¬ (200 : Int) < (l.length : Int) := h
    omega
  repeat (first | refine wg_seq ?_ | refine wg_skip ?_ | refine wg_block ?_ | refine wg_scope ?_ | refine wg_inBlock ?_ | refine wg_inScope ?_ | refine wg_region ?_ | refine wo_nil ?_ | refine wo_move rfl rfl ?_ | refine wo_assign rfl rfl ?_ | refine wo_fieldAddr rfl rfl rfl ?_ | refine wo_nilCheck rfl rfl ?_ | refine wo_extract rfl rfl rfl ?_ | refine wo_load rfl rfl rfl rfl (by assumption) rfl ?_ | refine wo_eql rfl rfl rfl ?_ | refine wo_neq rfl rfl rfl ?_ | refine wo_lss rfl rfl rfl ?_ | refine wo_gtr rfl rfl rfl ?_ | refine wo_leq rfl rfl rfl ?_ | refine wo_geq rfl rfl rfl ?_ | refine wo_not rfl rfl ?_ | refine wo_lenStr rfl rfl rfl ?_ | refine wo_len rfl rfl rfl rfl ?_ | refine wo_buildSlice rfl rfl rfl ?_ | refine wo_build rfl rfl rfl ?_ | refine wo_pick rfl rfl rfl ?_ | refine wo_strEq rfl rfl rfl ?_ | refine wo_boolEq rfl rfl rfl rfl ?_ | refine wo_boolNe rfl rfl rfl rfl ?_ | refine wo_strNe rfl rfl rfl ?_ | refine wo_on rfl ?_ | refine wo_off rfl rfl ?_ | refine wo_offn rfl ?_)
  refine wo_len rfl rfl rfl hrow.lenV ?_
  refine wo_conv rfl rfl rfl rfl (l.length : Int) (wrap_u64n (by omega)) ?_
  refine wo_call rfl rfl orc_cons rfl (refUint_spec (bs := []) hw (.inl ⟨rfl, rfl, rfl⟩) (by decide) (by omega)) ?_
  intro vb A2 st
  repeat (first | refine wg_seq ?_ | refine wg_skip ?_ | refine wg_block ?_ | refine wg_scope ?_ | refine wg_inBlock ?_ | refine wg_inScope ?_ | refine wg_region ?_ | refine wo_nil ?_ | refine wo_move rfl rfl ?_ | refine wo_assign rfl rfl ?_ | refine wo_fieldAddr rfl rfl rfl ?_ | refine wo_nilCheck rfl rfl ?_ | refine wo_extract rfl rfl rfl ?_ | refine wo_load rfl rfl rfl rfl (by assumption) rfl ?_ | refine wo_eql rfl rfl rfl ?_ | refine wo_neq rfl rfl rfl ?_ | refine wo_lss rfl rfl rfl ?_ | refine wo_gtr rfl rfl rfl ?_ | refine wo_leq rfl rfl rfl ?_ | refine wo_geq rfl rfl rfl ?_ | refine wo_not rfl rfl ?_ | refine wo_lenStr rfl rfl rfl ?_ | refine wo_len rfl rfl rfl rfl ?_ | refine wo_buildSlice rfl rfl rfl ?_ | refine wo_build rfl rfl rfl ?_ | refine wo_pick rfl rfl rfl ?_ | refine wo_strEq rfl rfl rfl ?_ | refine wo_boolEq rfl rfl rfl rfl ?_ | refine wo_boolNe rfl rfl rfl rfl ?_ | refine wo_strNe rfl rfl rfl ?_ | refine wo_on rfl ?_ | refine wo_off rfl rfl ?_ | refine wo_offn rfl ?_)
  have i0 : QInv A A2 vb l 0 := ⟨Nat.zero_le _, fun x hx => by simp at hx, by
      have := st.buf
      unfold putB
      simpa using this, st.only.mono fun g hg => hg, fun g hg => by
    rcases st.grow g hg with h | h
    · exact h.elim
    · omega⟩
  refine wg_loop ?_
  refine wg_le (.put 0 v (.put 4 vb (.put 5 (.int .i64 ((0 : Nat) : Int)) .nil))) ?_ ⟨rfl, rfl, rfl, trivial⟩
  refine wg_ind (ι := Nat × AV) (fun i => l.length - i.1) (fun i => .put 0 v (.put 4 i.2 (.put 5 (.int .i64 (i.1 : Int)) .nil)))
    (fun i A2 => QInv A A2 i.2 l i.1) ?_ (0, vb) A2 i0
  clear i0 st
  rintro ⟨i, vb⟩ A3 inv ih
  have inv : QInv A A3 vb l i := inv
  have hrow1 := hrow.keep inv.only fun _ _ h => h
  have hbl := putB_len inv.ok h200
  repeat (first | refine wg_seq ?_ | refine wg_skip ?_ | refine wg_block ?_ | refine wg_scope ?_ | refine wg_inBlock ?_ | refine wg_inScope ?_ | refine wg_region ?_ | refine wo_nil ?_ | refine wo_move rfl rfl ?_ | refine wo_assign rfl rfl ?_ | refine wo_fieldAddr rfl rfl rfl ?_ | refine wo_nilCheck rfl rfl ?_ | refine wo_extract rfl rfl rfl ?_ | refine wo_load rfl rfl rfl rfl (by assumption) rfl ?_ | refine wo_eql rfl rfl rfl ?_ | refine wo_neq rfl rfl rfl ?_ | refine wo_lss rfl rfl rfl ?_ | refine wo_gtr rfl rfl rfl ?_ | refine wo_leq rfl rfl rfl ?_ | refine wo_geq rfl rfl rfl ?_ | refine wo_not rfl rfl ?_ | refine wo_lenStr rfl rfl rfl ?_ | refine wo_len rfl rfl rfl rfl ?_ | refine wo_buildSlice rfl rfl rfl ?_ | refine wo_build rfl rfl rfl ?_ | refine wo_pick rfl rfl rfl ?_ | refine wo_strEq rfl rfl rfl ?_ | refine wo_boolEq rfl rfl rfl rfl ?_ | refine wo_boolNe rfl rfl rfl rfl ?_ | refine wo_strNe rfl rfl rfl ?_ | refine wo_on rfl ?_ | refine wo_off rfl rfl ?_ | refine wo_offn rfl ?_)
  refine wo_len rfl rfl rfl hrow1.lenV ?_
  repeat (first | refine wg_seq ?_ | refine wg_skip ?_ | refine wg_block ?_ | refine wg_scope ?_ | refine wg_inBlock ?_ | refine wg_inScope ?_ | refine wg_region ?_ | refine wo_nil ?_ | refine wo_move rfl rfl ?_ | refine wo_assign rfl rfl ?_ | refine wo_fieldAddr rfl rfl rfl ?_ | refine wo_nilCheck rfl rfl ?_ | refine wo_extract rfl rfl rfl ?_ | refine wo_load rfl rfl rfl rfl (by assumption) rfl ?_ | refine wo_eql rfl rfl rfl ?_ | refine wo_neq rfl rfl rfl ?_ | refine wo_lss rfl rfl rfl ?_ | refine wo_gtr rfl rfl rfl ?_ | refine wo_leq rfl rfl rfl ?_ | refine wo_geq rfl rfl rfl ?_ | refine wo_not rfl rfl ?_ | refine wo_lenStr rfl rfl rfl ?_ | refine wo_len rfl rfl rfl rfl ?_ | refine wo_buildSlice rfl rfl rfl ?_ | refine wo_build rfl rfl rfl ?_ | refine wo_pick rfl rfl rfl ?_ | refine wo_strEq rfl rfl rfl ?_ | refine wo_boolEq rfl rfl rfl rfl ?_ | refine wo_boolNe rfl rfl rfl rfl ?_ | refine wo_strNe rfl rfl rfl ?_ | refine wo_on rfl ?_ | refine wo_off rfl rfl ?_ | refine wo_offn rfl ?_)
  refine wg_dec rfl (fun hlt => ?_) fun hge => ?_
  · have hi : i < l.length := Int.ofNat_lt.1 hlt
    obtain ⟨x, hx⟩ : ∃ x, l[i]? = some x := ⟨l[i], List.getElem?_eq_getElem hi⟩
    obtain ⟨op, a⟩ := x
    obtain ⟨f, t, o, c, ex, ro, all, rfl, hh, hat⟩ := hrow1.at hi
    have hf : f < A.nxt := hrow.under hw f rfl
    have hO : nth all (Nat.add (Nat.add o (Nat.mul i 2)) 0) = some (.int .i64 op) := nth_take ((hat 1 0 (by decide)).trans ((take_flat icl_len hx 1 0 (by decide)).trans rfl))
    have hA : nth all (Nat.add (Nat.add o (Nat.mul i 2)) 1) = some (.int .i64 a) := nth_take ((hat 1 1 (by decide)).trans ((take_flat icl_len hx 1 1 (by decide)).trans rfl))
    repeat (first | refine wg_seq ?_ | refine wg_skip ?_ | refine wg_block ?_ | refine wg_scope ?_ | refine wg_inBlock ?_ | refine wg_inScope ?_ | refine wg_region ?_ | refine wo_nil ?_ | refine wo_move rfl rfl ?_ | refine wo_assign rfl rfl ?_ | refine wo_fieldAddr rfl rfl rfl ?_ | refine wo_nilCheck rfl rfl ?_ | refine wo_extract rfl rfl rfl ?_ | refine wo_load rfl rfl rfl rfl (by assumption) rfl ?_ | refine wo_eql rfl rfl rfl ?_ | refine wo_neq rfl rfl rfl ?_ | refine wo_lss rfl rfl rfl ?_ | refine wo_gtr rfl rfl rfl ?_ | refine wo_leq rfl rfl rfl ?_ | refine wo_geq rfl rfl rfl ?_ | refine wo_not rfl rfl ?_ | refine wo_lenStr rfl rfl rfl ?_ | refine wo_len rfl rfl rfl rfl ?_ | refine wo_buildSlice rfl rfl rfl ?_ | refine wo_build rfl rfl rfl ?_ | refine wo_pick rfl rfl rfl ?_ | refine wo_strEq rfl rfl rfl ?_ | refine wo_boolEq rfl rfl rfl rfl ?_ | refine wo_boolNe rfl rfl rfl rfl ?_ | refine wo_strNe rfl rfl rfl ?_ | refine wo_on rfl ?_ | refine wo_off rfl rfl ?_ | refine wo_offn rfl ?_)
    refine wo_indexAddr i rfl rfl rfl rfl rfl hi ?_
    refine wo_loadN (vs := icl (op, a)) rfl rfl rfl rfl hh ?_ ?_
    · refine (hat 2 0 (Nat.le_refl _)).trans ?_
      refine (take_flat icl_len hx 2 0 (Nat.le_refl _)).trans ?_
      rfl
    refine wo_call rfl rfl orc_cons rfl (ris_spec inv.only.wf) ?_
    rintro r A5 ⟨rfl, o5⟩
    have hh5 := o5.keep _ _ hh fun h => h
    repeat (first | refine wg_seq ?_ | refine wg_skip ?_ | refine wg_block ?_ | refine wg_scope ?_ | refine wg_inBlock ?_ | refine wg_inScope ?_ | refine wg_region ?_ | refine wo_nil ?_ | refine wo_move rfl rfl ?_ | refine wo_assign rfl rfl ?_ | refine wo_fieldAddr rfl rfl rfl ?_ | refine wo_nilCheck rfl rfl ?_ | refine wo_extract rfl rfl rfl ?_ | refine wo_load rfl rfl rfl rfl (by assumption) rfl ?_ | refine wo_eql rfl rfl rfl ?_ | refine wo_neq rfl rfl rfl ?_ | refine wo_lss rfl rfl rfl ?_ | refine wo_gtr rfl rfl rfl ?_ | refine wo_leq rfl rfl rfl ?_ | refine wo_geq rfl rfl rfl ?_ | refine wo_not rfl rfl ?_ | refine wo_lenStr rfl rfl rfl ?_ | refine wo_len rfl rfl rfl rfl ?_ | refine wo_buildSlice rfl rfl rfl ?_ | refine wo_build rfl rfl rfl ?_ | refine wo_pick rfl rfl rfl ?_ | refine wo_strEq rfl rfl rfl ?_ | refine wo_boolEq rfl rfl rfl rfl ?_ | refine wo_boolNe rfl rfl rfl rfl ?_ | refine wo_strNe rfl rfl rfl ?_ | refine wo_on rfl ?_ | refine wo_off rfl rfl ?_ | refine wo_offn rfl ?_)
    refine wg_if rfl (fun hb => ?_) fun hb => ?_
    · have hb : ¬ isP op a := by
        intro h
        rw [decide_eq_true h] at hb
        exact absurd hb (by decide)
      rw [putL_bad h200 hx hb]
      repeat (first | refine wg_seq ?_ | refine wg_skip ?_ | refine wg_block ?_ | refine wg_scope ?_ | refine wg_inBlock ?_ | refine wg_inScope ?_ | refine wg_region ?_ | refine wo_nil ?_ | refine wo_move rfl rfl ?_ | refine wo_assign rfl rfl ?_ | refine wo_fieldAddr rfl rfl rfl ?_ | refine wo_nilCheck rfl rfl ?_ | refine wo_extract rfl rfl rfl ?_ | refine wo_load rfl rfl rfl rfl (by assumption) rfl ?_ | refine wo_eql rfl rfl rfl ?_ | refine wo_neq rfl rfl rfl ?_ | refine wo_lss rfl rfl rfl ?_ | refine wo_gtr rfl rfl rfl ?_ | refine wo_leq rfl rfl rfl ?_ | refine wo_geq rfl rfl rfl ?_ | refine wo_not rfl rfl ?_ | refine wo_lenStr rfl rfl rfl ?_ | refine wo_len rfl rfl rfl rfl ?_ | refine wo_buildSlice rfl rfl rfl ?_ | refine wo_build rfl rfl rfl ?_ | refine wo_pick rfl rfl rfl ?_ | refine wo_strEq rfl rfl rfl ?_ | refine wo_boolEq rfl rfl rfl rfl ?_ | refine wo_boolNe rfl rfl rfl rfl ?_ | refine wo_strNe rfl rfl rfl ?_ | refine wo_on rfl ?_ | refine wo_off rfl rfl ?_ | refine wo_offn rfl ?_)
      exact wg_ret rfl ⟨.nils, rfl, .inl ⟨rfl, rfl, rfl⟩, inv.only.same o5, fun g hg => .inl hg⟩
    have hp : isP op a := by
      apply Decidable.byContradiction
      intro h
      rw [decide_eq_false h] at hb
      exact absurd hb (by decide)
    have hr := (opd_range op).2.2 hp.1
    have buf5 := inv.buf.keep o5 fun _ _ h => h
    repeat (first | refine wg_seq ?_ | refine wg_skip ?_ | refine wg_block ?_ | refine wg_scope ?_ | refine wg_inBlock ?_ | refine wg_inScope ?_ | refine wg_region ?_ | refine wo_nil ?_ | refine wo_move rfl rfl ?_ | refine wo_assign rfl rfl ?_ | refine wo_fieldAddr rfl rfl rfl ?_ | refine wo_nilCheck rfl rfl ?_ | refine wo_extract rfl rfl rfl ?_ | refine wo_load rfl rfl rfl rfl (by assumption) rfl ?_ | refine wo_eql rfl rfl rfl ?_ | refine wo_neq rfl rfl rfl ?_ | refine wo_lss rfl rfl rfl ?_ | refine wo_gtr rfl rfl rfl ?_ | refine wo_leq rfl rfl rfl ?_ | refine wo_geq rfl rfl rfl ?_ | refine wo_not rfl rfl ?_ | refine wo_lenStr rfl rfl rfl ?_ | refine wo_len rfl rfl rfl rfl ?_ | refine wo_buildSlice rfl rfl rfl ?_ | refine wo_build rfl rfl rfl ?_ | refine wo_pick rfl rfl rfl ?_ | refine wo_strEq rfl rfl rfl ?_ | refine wo_boolEq rfl rfl rfl rfl ?_ | refine wo_boolNe rfl rfl rfl rfl ?_ | refine wo_strNe rfl rfl rfl ?_ | refine wo_on rfl ?_ | refine wo_off rfl rfl ?_ | refine wo_offn rfl ?_)
    refine wo_indexAddr i rfl rfl rfl rfl rfl hi ?_
    repeat (first | refine wg_seq ?_ | refine wg_skip ?_ | refine wg_block ?_ | refine wg_scope ?_ | refine wg_inBlock ?_ | refine wg_inScope ?_ | refine wg_region ?_ | refine wo_nil ?_ | refine wo_move rfl rfl ?_ | refine wo_assign rfl rfl ?_ | refine wo_fieldAddr rfl rfl rfl ?_ | refine wo_nilCheck rfl rfl ?_ | refine wo_extract rfl rfl rfl ?_ | refine wo_load rfl rfl rfl rfl (by assumption) rfl ?_ | refine wo_eql rfl rfl rfl ?_ | refine wo_neq rfl rfl rfl ?_ | refine wo_lss rfl rfl rfl ?_ | refine wo_gtr rfl rfl rfl ?_ | refine wo_leq rfl rfl rfl ?_ | refine wo_geq rfl rfl rfl ?_ | refine wo_not rfl rfl ?_ | refine wo_lenStr rfl rfl rfl ?_ | refine wo_len rfl rfl rfl rfl ?_ | refine wo_buildSlice rfl rfl rfl ?_ | refine wo_build rfl rfl rfl ?_ | refine wo_pick rfl rfl rfl ?_ | refine wo_strEq rfl rfl rfl ?_ | refine wo_boolEq rfl rfl rfl rfl ?_ | refine wo_boolNe rfl rfl rfl rfl ?_ | refine wo_strNe rfl rfl rfl ?_ | refine wo_on rfl ?_ | refine wo_off rfl rfl ?_ | refine wo_offn rfl ?_)
    refine wo_load rfl rfl rfl rfl hh5 hO ?_
    refine wo_conv rfl rfl rfl rfl ((op.toNat : Nat) : Int) (by rw [wrap_u8]; omega) ?_
    repeat (first | refine wg_seq ?_ | refine wg_skip ?_ | refine wg_block ?_ | refine wg_scope ?_ | refine wg_inBlock ?_ | refine wg_inScope ?_ | refine wg_region ?_ | refine wo_nil ?_ | refine wo_move rfl rfl ?_ | refine wo_assign rfl rfl ?_ | refine wo_fieldAddr rfl rfl rfl ?_ | refine wo_nilCheck rfl rfl ?_ | refine wo_extract rfl rfl rfl ?_ | refine wo_load rfl rfl rfl rfl (by assumption) rfl ?_ | refine wo_eql rfl rfl rfl ?_ | refine wo_neq rfl rfl rfl ?_ | refine wo_lss rfl rfl rfl ?_ | refine wo_gtr rfl rfl rfl ?_ | refine wo_leq rfl rfl rfl ?_ | refine wo_geq rfl rfl rfl ?_ | refine wo_not rfl rfl ?_ | refine wo_lenStr rfl rfl rfl ?_ | refine wo_len rfl rfl rfl rfl ?_ | refine wo_buildSlice rfl rfl rfl ?_ | refine wo_build rfl rfl rfl ?_ | refine wo_pick rfl rfl rfl ?_ | refine wo_strEq rfl rfl rfl ?_ | refine wo_boolEq rfl rfl rfl rfl ?_ | refine wo_boolNe rfl rfl rfl rfl ?_ | refine wo_strNe rfl rfl rfl ?_ | refine wo_on rfl ?_ | refine wo_off rfl rfl ?_ | refine wo_offn rfl ?_)
    refine wo_append rfl rfl rfl rfl rfl (append_one (de := d5) rfl rfl rfl rfl o5.wf buf5 rfl (by decide) (room_of (by omega) (by decide))) ?_
    intro vb1 A6 g
    have st1 : BStep A5 A6 vb vb1 (putB l i) [op.toNat] := BStep.of' g (by simp) (by rw [bys_append]; rfl)
    have hh6 := st1.only.keep _ _ hh5 fun h => by
      have := inv.own f h
      omega
    repeat (first | refine wg_seq ?_ | refine wg_skip ?_ | refine wg_block ?_ | refine wg_scope ?_ | refine wg_inBlock ?_ | refine wg_inScope ?_ | refine wg_region ?_ | refine wo_nil ?_ | refine wo_move rfl rfl ?_ | refine wo_assign rfl rfl ?_ | refine wo_fieldAddr rfl rfl rfl ?_ | refine wo_nilCheck rfl rfl ?_ | refine wo_extract rfl rfl rfl ?_ | refine wo_load rfl rfl rfl rfl (by assumption) rfl ?_ | refine wo_eql rfl rfl rfl ?_ | refine wo_neq rfl rfl rfl ?_ | refine wo_lss rfl rfl rfl ?_ | refine wo_gtr rfl rfl rfl ?_ | refine wo_leq rfl rfl rfl ?_ | refine wo_geq rfl rfl rfl ?_ | refine wo_not rfl rfl ?_ | refine wo_lenStr rfl rfl rfl ?_ | refine wo_len rfl rfl rfl rfl ?_ | refine wo_buildSlice rfl rfl rfl ?_ | refine wo_build rfl rfl rfl ?_ | refine wo_pick rfl rfl rfl ?_ | refine wo_strEq rfl rfl rfl ?_ | refine wo_boolEq rfl rfl rfl rfl ?_ | refine wo_boolNe rfl rfl rfl rfl ?_ | refine wo_strNe rfl rfl rfl ?_ | refine wo_on rfl ?_ | refine wo_off rfl rfl ?_ | refine wo_offn rfl ?_)
    refine wo_indexAddr i rfl rfl rfl rfl rfl hi ?_
    repeat (first | refine wg_seq ?_ | refine wg_skip ?_ | refine wg_block ?_ | refine wg_scope ?_ | refine wg_inBlock ?_ | refine wg_inScope ?_ | refine wg_region ?_ | refine wo_nil ?_ | refine wo_move rfl rfl ?_ | refine wo_assign rfl rfl ?_ | refine wo_fieldAddr rfl rfl rfl ?_ | refine wo_nilCheck rfl rfl ?_ | refine wo_extract rfl rfl rfl ?_ | refine wo_load rfl rfl rfl rfl (by assumption) rfl ?_ | refine wo_eql rfl rfl rfl ?_ | refine wo_neq rfl rfl rfl ?_ | refine wo_lss rfl rfl rfl ?_ | refine wo_gtr rfl rfl rfl ?_ | refine wo_leq rfl rfl rfl ?_ | refine wo_geq rfl rfl rfl ?_ | refine wo_not rfl rfl ?_ | refine wo_lenStr rfl rfl rfl ?_ | refine wo_len rfl rfl rfl rfl ?_ | refine wo_buildSlice rfl rfl rfl ?_ | refine wo_build rfl rfl rfl ?_ | refine wo_pick rfl rfl rfl ?_ | refine wo_strEq rfl rfl rfl ?_ | refine wo_boolEq rfl rfl rfl rfl ?_ | refine wo_boolNe rfl rfl rfl rfl ?_ | refine wo_strNe rfl rfl rfl ?_ | refine wo_on rfl ?_ | refine wo_off rfl rfl ?_ | refine wo_offn rfl ?_)
    refine wo_load rfl rfl rfl rfl hh6 hO ?_
    refine wo_call rfl rfl orc_cons rfl roperand_spec ?_
    rintro r A7 ⟨rfl, e7⟩
    obtain rfl : A6 = A7 := e7.symm
    repeat (first | refine wg_seq ?_ | refine wg_skip ?_ | refine wg_block ?_ | refine wg_scope ?_ | refine wg_inBlock ?_ | refine wg_inScope ?_ | refine wg_region ?_ | refine wo_nil ?_ | refine wo_move rfl rfl ?_ | refine wo_assign rfl rfl ?_ | refine wo_fieldAddr rfl rfl rfl ?_ | refine wo_nilCheck rfl rfl ?_ | refine wo_extract rfl rfl rfl ?_ | refine wo_load rfl rfl rfl rfl (by assumption) rfl ?_ | refine wo_eql rfl rfl rfl ?_ | refine wo_neq rfl rfl rfl ?_ | refine wo_lss rfl rfl rfl ?_ | refine wo_gtr rfl rfl rfl ?_ | refine wo_leq rfl rfl rfl ?_ | refine wo_geq rfl rfl rfl ?_ | refine wo_not rfl rfl ?_ | refine wo_lenStr rfl rfl rfl ?_ | refine wo_len rfl rfl rfl rfl ?_ | refine wo_buildSlice rfl rfl rfl ?_ | refine wo_build rfl rfl rfl ?_ | refine wo_pick rfl rfl rfl ?_ | refine wo_strEq rfl rfl rfl ?_ | refine wo_boolEq rfl rfl rfl rfl ?_ | refine wo_boolNe rfl rfl rfl rfl ?_ | refine wo_strNe rfl rfl rfl ?_ | refine wo_on rfl ?_ | refine wo_off rfl rfl ?_ | refine wo_offn rfl ?_)
    refine wg_dec rfl (fun h0 => ?_) fun h0 => ?_
    · have h0 : 0 < opd op := h0
      have ha := hp.2.2 (by omega)
      repeat (first | refine wg_seq ?_ | refine wg_skip ?_ | refine wg_block ?_ | refine wg_scope ?_ | refine wg_inBlock ?_ | refine wg_inScope ?_ | refine wg_region ?_ | refine wo_nil ?_ | refine wo_move rfl rfl ?_ | refine wo_assign rfl rfl ?_ | refine wo_fieldAddr rfl rfl rfl ?_ | refine wo_nilCheck rfl rfl ?_ | refine wo_extract rfl rfl rfl ?_ | refine wo_load rfl rfl rfl rfl (by assumption) rfl ?_ | refine wo_eql rfl rfl rfl ?_ | refine wo_neq rfl rfl rfl ?_ | refine wo_lss rfl rfl rfl ?_ | refine wo_gtr rfl rfl rfl ?_ | refine wo_leq rfl rfl rfl ?_ | refine wo_geq rfl rfl rfl ?_ | refine wo_not rfl rfl ?_ | refine wo_lenStr rfl rfl rfl ?_ | refine wo_len rfl rfl rfl rfl ?_ | refine wo_buildSlice rfl rfl rfl ?_ | refine wo_build rfl rfl rfl ?_ | refine wo_pick rfl rfl rfl ?_ | refine wo_strEq rfl rfl rfl ?_ | refine wo_boolEq rfl rfl rfl rfl ?_ | refine wo_boolNe rfl rfl rfl rfl ?_ | refine wo_strNe rfl rfl rfl ?_ | refine wo_on rfl ?_ | refine wo_off rfl rfl ?_ | refine wo_offn rfl ?_)
      refine wo_indexAddr i rfl rfl rfl rfl rfl hi ?_
      repeat (first | refine wg_seq ?_ | refine wg_skip ?_ | refine wg_block ?_ | refine wg_scope ?_ | refine wg_inBlock ?_ | refine wg_inScope ?_ | refine wg_region ?_ | refine wo_nil ?_ | refine wo_move rfl rfl ?_ | refine wo_assign rfl rfl ?_ | refine wo_fieldAddr rfl rfl rfl ?_ | refine wo_nilCheck rfl rfl ?_ | refine wo_extract rfl rfl rfl ?_ | refine wo_load rfl rfl rfl rfl (by assumption) rfl ?_ | refine wo_eql rfl rfl rfl ?_ | refine wo_neq rfl rfl rfl ?_ | refine wo_lss rfl rfl rfl ?_ | refine wo_gtr rfl rfl rfl ?_ | refine wo_leq rfl rfl rfl ?_ | refine wo_geq rfl rfl rfl ?_ | refine wo_not rfl rfl ?_ | refine wo_lenStr rfl rfl rfl ?_ | refine wo_len rfl rfl rfl rfl ?_ | refine wo_buildSlice rfl rfl rfl ?_ | refine wo_build rfl rfl rfl ?_ | refine wo_pick rfl rfl rfl ?_ | refine wo_strEq rfl rfl rfl ?_ | refine wo_boolEq rfl rfl rfl rfl ?_ | refine wo_boolNe rfl rfl rfl rfl ?_ | refine wo_strNe rfl rfl rfl ?_ | refine wo_on rfl ?_ | refine wo_off rfl rfl ?_ | refine wo_offn rfl ?_)
      refine wo_load rfl rfl rfl rfl hh6 hA ?_
      refine wo_conv rfl rfl rfl rfl ((a.toNat : Nat) : Int) (by rw [wrap_u64]; omega) ?_
      refine wo_call rfl rfl orc_cons rfl (refUint_spec st1.only.wf st1.buf (by rw [List.length_append, List.length_singleton]; omega) (by omega)) ?_
      intro vb2 A7 st2
      have st3 : BStep A5 A7 vb vb2 (putB l i) (encI (op, a)) := by
        have := st1.trans o5.wf st2
        unfold encI
        rw [if_pos h0]
        exact this
      have i2 := inv.next hw hx hp o5 st3
      repeat (first | refine wg_seq ?_ | refine wg_skip ?_ | refine wg_block ?_ | refine wg_scope ?_ | refine wg_inBlock ?_ | refine wg_inScope ?_ | refine wg_region ?_ | refine wo_nil ?_ | refine wo_move rfl rfl ?_ | refine wo_assign rfl rfl ?_ | refine wo_fieldAddr rfl rfl rfl ?_ | refine wo_nilCheck rfl rfl ?_ | refine wo_extract rfl rfl rfl ?_ | refine wo_load rfl rfl rfl rfl (by assumption) rfl ?_ | refine wo_eql rfl rfl rfl ?_ | refine wo_neq rfl rfl rfl ?_ | refine wo_lss rfl rfl rfl ?_ | refine wo_gtr rfl rfl rfl ?_ | refine wo_leq rfl rfl rfl ?_ | refine wo_geq rfl rfl rfl ?_ | refine wo_not rfl rfl ?_ | refine wo_lenStr rfl rfl rfl ?_ | refine wo_len rfl rfl rfl rfl ?_ | refine wo_buildSlice rfl rfl rfl ?_ | refine wo_build rfl rfl rfl ?_ | refine wo_pick rfl rfl rfl ?_ | refine wo_strEq rfl rfl rfl ?_ | refine wo_boolEq rfl rfl rfl rfl ?_ | refine wo_boolNe rfl rfl rfl rfl ?_ | refine wo_strNe rfl rfl rfl ?_ | refine wo_on rfl ?_ | refine wo_off rfl rfl ?_ | refine wo_offn rfl ?_)
      refine wo_add rfl rfl rfl (by omega) (by omega) ?_
      repeat (first | refine wg_seq ?_ | refine wg_skip ?_ | refine wg_block ?_ | refine wg_scope ?_ | refine wg_inBlock ?_ | refine wg_inScope ?_ | refine wg_region ?_ | refine wo_nil ?_ | refine wo_move rfl rfl ?_ | refine wo_assign rfl rfl ?_ | refine wo_fieldAddr rfl rfl rfl ?_ | refine wo_nilCheck rfl rfl ?_ | refine wo_extract rfl rfl rfl ?_ | refine wo_load rfl rfl rfl rfl (by assumption) rfl ?_ | refine wo_eql rfl rfl rfl ?_ | refine wo_neq rfl rfl rfl ?_ | refine wo_lss rfl rfl rfl ?_ | refine wo_gtr rfl rfl rfl ?_ | refine wo_leq rfl rfl rfl ?_ | refine wo_geq rfl rfl rfl ?_ | refine wo_not rfl rfl ?_ | refine wo_lenStr rfl rfl rfl ?_ | refine wo_len rfl rfl rfl rfl ?_ | refine wo_buildSlice rfl rfl rfl ?_ | refine wo_build rfl rfl rfl ?_ | refine wo_pick rfl rfl rfl ?_ | refine wo_strEq rfl rfl rfl ?_ | refine wo_boolEq rfl rfl rfl rfl ?_ | refine wo_boolNe rfl rfl rfl rfl ?_ | refine wo_strNe rfl rfl rfl ?_ | refine wo_on rfl ?_ | refine wo_off rfl rfl ?_ | refine wo_offn rfl ?_)
      refine wg_inLoop ?_
      refine wg_le (.put 0 (.slice f t o l.length c ex) (.put 4 vb2 (.put 5 (.int .i64 ((i + 1 : Nat) : Int)) .nil))) ?_ ⟨rfl, rfl, rfl, trivial⟩
      exact ih (i + 1, vb2) A7 (by simp only; omega) i2
    · have h0 : ¬ 0 < opd op := h0
      have st3 : BStep A5 A6 vb vb1 (putB l i) (encI (op, a)) := by
        unfold encI
        rw [if_neg h0]
        exact st1
      have i2 := inv.next hw hx hp o5 st3
      repeat (first | refine wg_seq ?_ | refine wg_skip ?_ | refine wg_block ?_ | refine wg_scope ?_ | refine wg_inBlock ?_ | refine wg_inScope ?_ | refine wg_region ?_ | refine wo_nil ?_ | refine wo_move rfl rfl ?_ | refine wo_assign rfl rfl ?_ | refine wo_fieldAddr rfl rfl rfl ?_ | refine wo_nilCheck rfl rfl ?_ | refine wo_extract rfl rfl rfl ?_ | refine wo_load rfl rfl rfl rfl (by assumption) rfl ?_ | refine wo_eql rfl rfl rfl ?_ | refine wo_neq rfl rfl rfl ?_ | refine wo_lss rfl rfl rfl ?_ | refine wo_gtr rfl rfl rfl ?_ | refine wo_leq rfl rfl rfl ?_ | refine wo_geq rfl rfl rfl ?_ | refine wo_not rfl rfl ?_ | refine wo_lenStr rfl rfl rfl ?_ | refine wo_len rfl rfl rfl rfl ?_ | refine wo_buildSlice rfl rfl rfl ?_ | refine wo_build rfl rfl rfl ?_ | refine wo_pick rfl rfl rfl ?_ | refine wo_strEq rfl rfl rfl ?_ | refine wo_boolEq rfl rfl rfl rfl ?_ | refine wo_boolNe rfl rfl rfl rfl ?_ | refine wo_strNe rfl rfl rfl ?_ | refine wo_on rfl ?_ | refine wo_off rfl rfl ?_ | refine wo_offn rfl ?_)
      refine wo_add rfl rfl rfl (by omega) (by omega) ?_
      repeat (first | refine wg_seq ?_ | refine wg_skip ?_ | refine wg_block ?_ | refine wg_scope ?_ | refine wg_inBlock ?_ | refine wg_inScope ?_ | refine wg_region ?_ | refine wo_nil ?_ | refine wo_move rfl rfl ?_ | refine wo_assign rfl rfl ?_ | refine wo_fieldAddr rfl rfl rfl ?_ | refine wo_nilCheck rfl rfl ?_ | refine wo_extract rfl rfl rfl ?_ | refine wo_load rfl rfl rfl rfl (by assumption) rfl ?_ | refine wo_eql rfl rfl rfl ?_ | refine wo_neq rfl rfl rfl ?_ | refine wo_lss rfl rfl rfl ?_ | refine wo_gtr rfl rfl rfl ?_ | refine wo_leq rfl rfl rfl ?_ | refine wo_geq rfl rfl rfl ?_ | refine wo_not rfl rfl ?_ | refine wo_lenStr rfl rfl rfl ?_ | refine wo_len rfl rfl rfl rfl ?_ | refine wo_buildSlice rfl rfl rfl ?_ | refine wo_build rfl rfl rfl ?_ | refine wo_pick rfl rfl rfl ?_ | refine wo_strEq rfl rfl rfl ?_ | refine wo_boolEq rfl rfl rfl rfl ?_ | refine wo_boolNe rfl rfl rfl rfl ?_ | refine wo_strNe rfl rfl rfl ?_ | refine wo_on rfl ?_ | refine wo_off rfl rfl ?_ | refine wo_offn rfl ?_)
      refine wg_inLoop ?_
      refine wg_le (.put 0 (.slice f t o l.length c ex) (.put 4 vb1 (.put 5 (.int .i64 ((i + 1 : Nat) : Int)) .nil))) ?_ ⟨rfl, rfl, rfl, trivial⟩
      exact ih (i + 1, vb1) A6 (by simp only; omega) i2
  · have hge : i = l.length := by
      have h1 : ¬ (i : Int) < (l.length : Int) := hge
      have := inv.le
      omega
    subst hge
    rw [putL_ok h200 inv.ok]
    refine wg_exit rfl ?_
    repeat (first | refine wg_seq ?_ | refine wg_skip ?_ | refine wg_block ?_ | refine wg_scope ?_ | refine wg_inBlock ?_ | refine wg_inScope ?_ | refine wg_region ?_ | refine wo_nil ?_ | refine wo_move rfl rfl ?_ | refine wo_assign rfl rfl ?_ | refine wo_fieldAddr rfl rfl rfl ?_ | refine wo_nilCheck rfl rfl ?_ | refine wo_extract rfl rfl rfl ?_ | refine wo_load rfl rfl rfl rfl (by assumption) rfl ?_ | refine wo_eql rfl rfl rfl ?_ | refine wo_neq rfl rfl rfl ?_ | refine wo_lss rfl rfl rfl ?_ | refine wo_gtr rfl rfl rfl ?_ | refine wo_leq rfl rfl rfl ?_ | refine wo_geq rfl rfl rfl ?_ | refine wo_not rfl rfl ?_ | refine wo_lenStr rfl rfl rfl ?_ | refine wo_len rfl rfl rfl rfl ?_ | refine wo_buildSlice rfl rfl rfl ?_ | refine wo_build rfl rfl rfl ?_ | refine wo_pick rfl rfl rfl ?_ | refine wo_strEq rfl rfl rfl ?_ | refine wo_boolEq rfl rfl rfl rfl ?_ | refine wo_boolNe rfl rfl rfl rfl ?_ | refine wo_strNe rfl rfl rfl ?_ | refine wo_on rfl ?_ | refine wo_off rfl rfl ?_ | refine wo_offn rfl ?_)
    refine wg_ret rfl ⟨vb, rfl, inv.buf, inv.only, fun g hg => .inr (inv.own g hg)⟩
end Go.Proofs.Ytokieeiohfcgdaa.Ae
