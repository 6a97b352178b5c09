/-
  MORE OF THE DOCUMENT'S SCHEDULER, by the rules: End, Ready, Pick, Over; whether two rows are the same.
-/
import Derived.Test.YtejmdglmldjliaaAiSyS8
namespace Go.Proofs.Ytejmdglmldjliaa.Ae
open Go.AE
set_option linter.unusedVariables false
set_option maxRecDepth 100000

theorem at2 (i : Nat) : Nat.add (Nat.add 0 (Nat.mul i 2)) 0 = i * 2 := by show 0 + i * 2 + 0 = _; omega
/-- What holds at the head of End's loop. -/
structure FInv (A A1 : AW) (fr : Nat) (v vo : AV) (id : Int) (ts : List Th) (k : Nat) : Prop where
  le : k ≤ ts.length
  st : RSt A A1 fr v v (mix id ts k)
  buf : Buf A1 1 vo (selK (wakes id) ts k).length (ints (selK (wakes id) ts k))
  own : ∀ g, vo.isFam g → A.nxt ≤ g
theorem rend_spec {K : FuncId} {A : AW} {fr : Nat} {v : AV} {ts : List Th} {id : Int} (hw : Wf A) (h : Rs A fr v ts) (hl : ts.length < 1000000) (h1 : -9223372036854775808 ≤ id) (h2 : id < 9223372036854775808) :
    CallP (ES K) 45 [.ptr fr 0 0, .int .i64 id] A fun r A1 => ∃ vo, r = .tuple [vo, .int .i64 (endT ts id).2.2] ∧ RSt A A1 fr v v (endT ts id).1 ∧
      Buf A1 1 vo (endT ts id).2.1.length (ints (endT ts id).2.1) ∧ ∀ g, vo.isFam g → A.nxt ≤ g := by
  unfold endT
  refine call_of rfl rfl rfl ?_
  have hc := h.cell
  repeat (first
    | refine wg_seq ?_
    | refine wg_skip ?_
    | refine wg_block ?_
    | refine wg_scope ?_
    | refine wg_inBlock ?_
    | refine wg_inScope ?_
    | refine wg_region ?_
    | refine wo_nil ?_
    | refine wo_move rfl rfl ?_
    | refine wo_assign rfl rfl ?_
    | refine wo_fieldAddr rfl rfl rfl ?_
    | refine wo_nilCheck rfl rfl ?_
    | refine wo_extract rfl rfl rfl ?_
    | refine wo_load rfl rfl rfl rfl (by assumption) rfl ?_
    | refine wo_eql rfl rfl rfl ?_
    | refine wo_neq rfl rfl rfl ?_
    | refine wo_lss rfl rfl rfl ?_
    | refine wo_gtr rfl rfl rfl ?_
    | refine wo_leq rfl rfl rfl ?_
    | refine wo_geq rfl rfl rfl ?_
    | refine wo_not rfl rfl ?_
    | refine wo_lenStr rfl rfl rfl ?_
    | refine wo_len rfl rfl rfl rfl ?_
    | refine wo_buildSlice rfl rfl rfl ?_
    | refine wo_build rfl rfl rfl ?_
    | refine wo_pick rfl rfl rfl ?_
    | refine wo_strEq rfl rfl rfl ?_
    | refine wo_boolEq rfl rfl rfl rfl ?_
    | refine wo_boolNe rfl rfl rfl rfl ?_
    | refine wo_strNe rfl rfl rfl ?_
    | refine wo_on rfl ?_
    | refine wo_off rfl rfl ?_
    | refine wo_offn rfl ?_)
  refine wo_call rfl rfl orc_cons rfl (rstate_spec h h1 h2) ?_
  rintro r A1 ⟨rfl, rfl⟩
  repeat (first
    | refine wg_seq ?_
    | refine wg_skip ?_
    | refine wg_block ?_
    | refine wg_scope ?_
    | refine wg_inBlock ?_
    | refine wg_inScope ?_
    | refine wg_region ?_
    | refine wo_nil ?_
    | refine wo_move rfl rfl ?_
    | refine wo_assign rfl rfl ?_
    | refine wo_fieldAddr rfl rfl rfl ?_
    | refine wo_nilCheck rfl rfl ?_
    | refine wo_extract rfl rfl rfl ?_
    | refine wo_load rfl rfl rfl rfl (by assumption) rfl ?_
    | refine wo_eql rfl rfl rfl ?_
    | refine wo_neq rfl rfl rfl ?_
    | refine wo_lss rfl rfl rfl ?_
    | refine wo_gtr rfl rfl rfl ?_
    | refine wo_leq rfl rfl rfl ?_
    | refine wo_geq rfl rfl rfl ?_
    | refine wo_not rfl rfl ?_
    | refine wo_lenStr rfl rfl rfl ?_
    | refine wo_len rfl rfl rfl rfl ?_
    | refine wo_buildSlice rfl rfl rfl ?_
    | refine wo_build rfl rfl rfl ?_
    | refine wo_pick rfl rfl rfl ?_
    | refine wo_strEq rfl rfl rfl ?_
    | refine wo_boolEq rfl rfl rfl rfl ?_
    | refine wo_boolNe rfl rfl rfl rfl ?_
    | refine wo_strNe rfl rfl rfl ?_
    | refine wo_on rfl ?_
    | refine wo_off rfl rfl ?_
    | refine wo_offn rfl ?_)
  refine wg_dec rfl (fun hbad => ?_) fun hok => ?_
  · have hbad : stT ts id ≠ 1 := hbad
    rw [if_pos hbad]
    repeat (first
      | refine wg_seq ?_
      | refine wg_skip ?_
      | refine wg_block ?_
      | refine wg_scope ?_
      | refine wg_inBlock ?_
      | refine wg_inScope ?_
      | refine wg_region ?_
      | refine wo_nil ?_
      | refine wo_move rfl rfl ?_
      | refine wo_assign rfl rfl ?_
      | refine wo_fieldAddr rfl rfl rfl ?_
      | refine wo_nilCheck rfl rfl ?_
      | refine wo_extract rfl rfl rfl ?_
      | refine wo_load rfl rfl rfl rfl (by assumption) rfl ?_
      | refine wo_eql rfl rfl rfl ?_
      | refine wo_neq rfl rfl rfl ?_
      | refine wo_lss rfl rfl rfl ?_
      | refine wo_gtr rfl rfl rfl ?_
      | refine wo_leq rfl rfl rfl ?_
      | refine wo_geq rfl rfl rfl ?_
      | refine wo_not rfl rfl ?_
      | refine wo_lenStr rfl rfl rfl ?_
      | refine wo_len rfl rfl rfl rfl ?_
      | refine wo_buildSlice rfl rfl rfl ?_
      | refine wo_build rfl rfl rfl ?_
      | refine wo_pick rfl rfl rfl ?_
      | refine wo_strEq rfl rfl rfl ?_
      | refine wo_boolEq rfl rfl rfl rfl ?_
      | refine wo_boolNe rfl rfl rfl rfl ?_
      | refine wo_strNe rfl rfl rfl ?_
      | refine wo_on rfl ?_
      | refine wo_off rfl rfl ?_
      | refine wo_offn rfl ?_)
    exact wg_ret rfl ⟨.nils, rfl, RSt.refl hw h, .inl ⟨rfl, rfl, rfl⟩, fun g h => h.elim⟩
  have hok : ¬ stT ts id ≠ 1 := hok
  rw [if_neg hok]
  obtain ⟨i, a, b, rfl, hi⟩ := id_in (ts := ts) (id := id) fun e => hok (by rw [stT_out e]; decide)
  have hil := (List.getElem?_eq_some_iff.1 hi).1
  obtain ⟨f, t, rfl, hf, hl'⟩ := h.buf.slice (by omega)
  have e1 : ((i : Int) + 1).toNat - 1 = i := by omega
  have e2 : (ts.getD i (0, 0)).2 = b := by rw [List.getD_eq_getElem?_getD, hi]; rfl
  rw [e1, e2]
  have st1 := h.put (us := ts.set i (5, b)) rfl hw (by omega) (List.length_set ..)
  have hle : (ts.set i (5, b)).length = ts.length := List.length_set ..
  have hput : putN (i * 2) [AV.int .i64 5] (prs ts) = some (prs (ts.set i (5, b))) := prs_put1 hi
  generalize hts1 : ts.set i (5, b) = ts1 at st1 hle hput
  repeat (first
    | refine wg_seq ?_
    | refine wg_skip ?_
    | refine wg_block ?_
    | refine wg_scope ?_
    | refine wg_inBlock ?_
    | refine wg_inScope ?_
    | refine wg_region ?_
    | refine wo_nil ?_
    | refine wo_move rfl rfl ?_
    | refine wo_assign rfl rfl ?_
    | refine wo_fieldAddr rfl rfl rfl ?_
    | refine wo_nilCheck rfl rfl ?_
    | refine wo_extract rfl rfl rfl ?_
    | refine wo_load rfl rfl rfl rfl (by assumption) rfl ?_
    | refine wo_eql rfl rfl rfl ?_
    | refine wo_neq rfl rfl rfl ?_
    | refine wo_lss rfl rfl rfl ?_
    | refine wo_gtr rfl rfl rfl ?_
    | refine wo_leq rfl rfl rfl ?_
    | refine wo_geq rfl rfl rfl ?_
    | refine wo_not rfl rfl ?_
    | refine wo_lenStr rfl rfl rfl ?_
    | refine wo_len rfl rfl rfl rfl ?_
    | refine wo_buildSlice rfl rfl rfl ?_
    | refine wo_build rfl rfl rfl ?_
    | refine wo_pick rfl rfl rfl ?_
    | refine wo_strEq rfl rfl rfl ?_
    | refine wo_boolEq rfl rfl rfl rfl ?_
    | refine wo_boolNe rfl rfl rfl rfl ?_
    | refine wo_strNe rfl rfl rfl ?_
    | refine wo_on rfl ?_
    | refine wo_off rfl rfl ?_
    | refine wo_offn rfl ?_)
  refine wo_sub rfl rfl rfl (by omega) (by omega) ?_
  refine wo_indexAddr i rfl rfl rfl rfl (by omega) hil ?_
  repeat (first
    | refine wg_seq ?_
    | refine wg_skip ?_
    | refine wg_block ?_
    | refine wg_scope ?_
    | refine wg_inBlock ?_
    | refine wg_inScope ?_
    | refine wg_region ?_
    | refine wo_nil ?_
    | refine wo_move rfl rfl ?_
    | refine wo_assign rfl rfl ?_
    | refine wo_fieldAddr rfl rfl rfl ?_
    | refine wo_nilCheck rfl rfl ?_
    | refine wo_extract rfl rfl rfl ?_
    | refine wo_load rfl rfl rfl rfl (by assumption) rfl ?_
    | refine wo_eql rfl rfl rfl ?_
    | refine wo_neq rfl rfl rfl ?_
    | refine wo_lss rfl rfl rfl ?_
    | refine wo_gtr rfl rfl rfl ?_
    | refine wo_leq rfl rfl rfl ?_
    | refine wo_geq rfl rfl rfl ?_
    | refine wo_not rfl rfl ?_
    | refine wo_lenStr rfl rfl rfl ?_
    | refine wo_len rfl rfl rfl rfl ?_
    | refine wo_buildSlice rfl rfl rfl ?_
    | refine wo_build rfl rfl rfl ?_
    | refine wo_pick rfl rfl rfl ?_
    | refine wo_strEq rfl rfl rfl ?_
    | refine wo_boolEq rfl rfl rfl rfl ?_
    | refine wo_boolNe rfl rfl rfl rfl ?_
    | refine wo_strNe rfl rfl rfl ?_
    | refine wo_on rfl ?_
    | refine wo_off rfl rfl ?_
    | refine wo_offn rfl ?_)
  refine wo_store (cs' := prs ts1) rfl rfl rfl rfl rfl rfl hf ((congrArg (fun k => putN k [AV.int .i64 5] (prs ts)) (at2 i)).trans hput) ?_
  have hc1 := st1.rs.cell
  repeat (first
    | refine wg_seq ?_
    | refine wg_skip ?_
    | refine wg_block ?_
    | refine wg_scope ?_
    | refine wg_inBlock ?_
    | refine wg_inScope ?_
    | refine wg_region ?_
    | refine wo_nil ?_
    | refine wo_move rfl rfl ?_
    | refine wo_assign rfl rfl ?_
    | refine wo_fieldAddr rfl rfl rfl ?_
    | refine wo_nilCheck rfl rfl ?_
    | refine wo_extract rfl rfl rfl ?_
    | refine wo_load rfl rfl rfl rfl (by assumption) rfl ?_
    | refine wo_eql rfl rfl rfl ?_
    | refine wo_neq rfl rfl rfl ?_
    | refine wo_lss rfl rfl rfl ?_
    | refine wo_gtr rfl rfl rfl ?_
    | refine wo_leq rfl rfl rfl ?_
    | refine wo_geq rfl rfl rfl ?_
    | refine wo_not rfl rfl ?_
    | refine wo_lenStr rfl rfl rfl ?_
    | refine wo_len rfl rfl rfl rfl ?_
    | refine wo_buildSlice rfl rfl rfl ?_
    | refine wo_build rfl rfl rfl ?_
    | refine wo_pick rfl rfl rfl ?_
    | refine wo_strEq rfl rfl rfl ?_
    | refine wo_boolEq rfl rfl rfl rfl ?_
    | refine wo_boolNe rfl rfl rfl rfl ?_
    | refine wo_strNe rfl rfl rfl ?_
    | refine wo_on rfl ?_
    | refine wo_off rfl rfl ?_
    | refine wo_offn rfl ?_)
  refine wg_loop ?_
  refine wg_le (.put 0 (.ptr fr 0 0) (.put 1 (.int .i64 ((i : Int) + 1)) (.put 6 .nils (.put 7 (.int .i64 ((0 : Nat) : Int)) .nil)))) ?_ ⟨rfl, rfl, rfl, rfl, trivial⟩
  generalize hid : (i : Int) + 1 = id at h1 h2
  clear hok hi e1 e2 hput
  refine wg_ind (ι := Nat × AV) (fun i => ts.length - i.1) (fun i => .put 0 (.ptr fr 0 0) (.put 1 (.int .i64 id) (.put 6 i.2 (.put 7 (.int .i64 (i.1 : Int)) .nil))))
    (fun i A2 => FInv A1 A2 fr (.slice f t 0 ts.length ts.length false) i.2 id ts1 i.1) ?_ (0, .nils) _ ⟨Nat.zero_le _, by simpa [mix] using st1, .inl ⟨rfl, rfl, rfl⟩, fun g h => h.elim⟩
  clear st1 hc1
  rintro ⟨k, vo⟩ A2 inv ih
  have inv : FInv A1 A2 fr (.slice f t 0 ts.length ts.length false) vo id ts1 k := inv
  have hkl := inv.le
  have hc2 := inv.st.rs.cell
  have hml := mix_len id ts1 k
  have hsl := selK_len (wakes id) ts1 k
  have uA := h.under hw
  have dvo : Disj (both (one fr) (AV.slice f t 0 ts.length ts.length false).isFam) vo.isFam := fun g hg e => by
    have := inv.own g e
    have := uA g hg
    omega
  have bst := inv.st.rs.buf
  rw [hml, hle] at bst
  repeat (first
    | refine wg_seq ?_
    | refine wg_skip ?_
    | refine wg_block ?_
    | refine wg_scope ?_
    | refine wg_inBlock ?_
    | refine wg_inScope ?_
    | refine wg_region ?_
    | refine wo_nil ?_
    | refine wo_move rfl rfl ?_
    | refine wo_assign rfl rfl ?_
    | refine wo_fieldAddr rfl rfl rfl ?_
    | refine wo_nilCheck rfl rfl ?_
    | refine wo_extract rfl rfl rfl ?_
    | refine wo_load rfl rfl rfl rfl (by assumption) rfl ?_
    | refine wo_eql rfl rfl rfl ?_
    | refine wo_neq rfl rfl rfl ?_
    | refine wo_lss rfl rfl rfl ?_
    | refine wo_gtr rfl rfl rfl ?_
    | refine wo_leq rfl rfl rfl ?_
    | refine wo_geq rfl rfl rfl ?_
    | refine wo_not rfl rfl ?_
    | refine wo_lenStr rfl rfl rfl ?_
    | refine wo_len rfl rfl rfl rfl ?_
    | refine wo_buildSlice rfl rfl rfl ?_
    | refine wo_build rfl rfl rfl ?_
    | refine wo_pick rfl rfl rfl ?_
    | refine wo_strEq rfl rfl rfl ?_
    | refine wo_boolEq rfl rfl rfl rfl ?_
    | refine wo_boolNe rfl rfl rfl rfl ?_
    | refine wo_strNe rfl rfl rfl ?_
    | refine wo_on rfl ?_
    | refine wo_off rfl rfl ?_
    | refine wo_offn rfl ?_)
  refine wg_dec rfl (fun hlt => ?_) fun hge => ?_
  · have hlt : k < ts.length := Int.ofNat_lt.1 hlt
    obtain ⟨x, y, hth⟩ : ∃ x y, ts1[k]? = some (x, y) := ⟨ts1[k].1, ts1[k].2, by rw [List.getElem?_eq_getElem (by omega)]⟩
    have hmk := mix_get (id := id) hth
    obtain ⟨f', t', e', hf', _⟩ := bst.slice (by omega)
    cases e'
    repeat (first
      | refine wg_seq ?_
      | refine wg_skip ?_
      | refine wg_block ?_
      | refine wg_scope ?_
      | refine wg_inBlock ?_
      | refine wg_inScope ?_)
    refine wg_regionTo (.put 0 (.ptr fr 0 0) (.put 1 (.int .i64 id) (.put 6 vo (.put 7 (.int .i64 (k : Int)) (.put 49 (.bool (wakes id (x, y))) .nil))))) ?_ ?_
    · repeat (first
        | refine wo_nil ?_
        | refine wo_move rfl rfl ?_
        | refine wo_assign rfl rfl ?_
        | refine wo_fieldAddr rfl rfl rfl ?_
        | refine wo_nilCheck rfl rfl ?_
        | refine wo_extract rfl rfl rfl ?_
        | refine wo_load rfl rfl rfl rfl (by assumption) rfl ?_
        | refine wo_eql rfl rfl rfl ?_
        | refine wo_neq rfl rfl rfl ?_
        | refine wo_lss rfl rfl rfl ?_
        | refine wo_gtr rfl rfl rfl ?_
        | refine wo_leq rfl rfl rfl ?_
        | refine wo_geq rfl rfl rfl ?_
        | refine wo_not rfl rfl ?_
        | refine wo_lenStr rfl rfl rfl ?_
        | refine wo_len rfl rfl rfl rfl ?_
        | refine wo_buildSlice rfl rfl rfl ?_
        | refine wo_build rfl rfl rfl ?_
        | refine wo_pick rfl rfl rfl ?_
        | refine wo_strEq rfl rfl rfl ?_
        | refine wo_boolEq rfl rfl rfl rfl ?_
        | refine wo_boolNe rfl rfl rfl rfl ?_
        | refine wo_strNe rfl rfl rfl ?_
        | refine wo_on rfl ?_
        | refine wo_off rfl rfl ?_
        | refine wo_offn rfl ?_)
      refine wo_indexAddr k rfl rfl rfl rfl rfl hlt ?_
      repeat (first
        | refine wo_nil ?_
        | refine wo_move rfl rfl ?_
        | refine wo_assign rfl rfl ?_
        | refine wo_fieldAddr rfl rfl rfl ?_
        | refine wo_nilCheck rfl rfl ?_
        | refine wo_extract rfl rfl rfl ?_
        | refine wo_load rfl rfl rfl rfl (by assumption) rfl ?_
        | refine wo_eql rfl rfl rfl ?_
        | refine wo_neq rfl rfl rfl ?_
        | refine wo_lss rfl rfl rfl ?_
        | refine wo_gtr rfl rfl rfl ?_
        | refine wo_leq rfl rfl rfl ?_
        | refine wo_geq rfl rfl rfl ?_
        | refine wo_not rfl rfl ?_
        | refine wo_lenStr rfl rfl rfl ?_
        | refine wo_len rfl rfl rfl rfl ?_
        | refine wo_buildSlice rfl rfl rfl ?_
        | refine wo_build rfl rfl rfl ?_
        | refine wo_pick rfl rfl rfl ?_
        | refine wo_strEq rfl rfl rfl ?_
        | refine wo_boolEq rfl rfl rfl rfl ?_
        | refine wo_boolNe rfl rfl rfl rfl ?_
        | refine wo_strNe rfl rfl rfl ?_
        | refine wo_on rfl ?_
        | refine wo_off rfl rfl ?_
        | refine wo_offn rfl ?_)
      refine wo_load (v := .int .i64 x) rfl rfl rfl rfl hf' (prs_st hmk) ?_
      repeat (first
        | refine wo_nil ?_
        | refine wo_move rfl rfl ?_
        | refine wo_assign rfl rfl ?_
        | refine wo_fieldAddr rfl rfl rfl ?_
        | refine wo_nilCheck rfl rfl ?_
        | refine wo_extract rfl rfl rfl ?_
        | refine wo_load rfl rfl rfl rfl (by assumption) rfl ?_
        | refine wo_eql rfl rfl rfl ?_
        | refine wo_neq rfl rfl rfl ?_
        | refine wo_lss rfl rfl rfl ?_
        | refine wo_gtr rfl rfl rfl ?_
        | refine wo_leq rfl rfl rfl ?_
        | refine wo_geq rfl rfl rfl ?_
        | refine wo_not rfl rfl ?_
        | refine wo_lenStr rfl rfl rfl ?_
        | refine wo_len rfl rfl rfl rfl ?_
        | refine wo_buildSlice rfl rfl rfl ?_
        | refine wo_build rfl rfl rfl ?_
        | refine wo_pick rfl rfl rfl ?_
        | refine wo_strEq rfl rfl rfl ?_
        | refine wo_boolEq rfl rfl rfl rfl ?_
        | refine wo_boolNe rfl rfl rfl rfl ?_
        | refine wo_strNe rfl rfl rfl ?_
        | refine wo_on rfl ?_
        | refine wo_off rfl rfl ?_
        | refine wo_offn rfl ?_)
      by_cases h4 : x = 4
      · refine wo_is 38 true rfl (decide_eq_true h4) ?_
        repeat (first
          | refine wo_nil ?_
          | refine wo_move rfl rfl ?_
          | refine wo_assign rfl rfl ?_
          | refine wo_fieldAddr rfl rfl rfl ?_
          | refine wo_nilCheck rfl rfl ?_
          | refine wo_extract rfl rfl rfl ?_
          | refine wo_load rfl rfl rfl rfl (by assumption) rfl ?_
          | refine wo_eql rfl rfl rfl ?_
          | refine wo_neq rfl rfl rfl ?_
          | refine wo_lss rfl rfl rfl ?_
          | refine wo_gtr rfl rfl rfl ?_
          | refine wo_leq rfl rfl rfl ?_
          | refine wo_geq rfl rfl rfl ?_
          | refine wo_not rfl rfl ?_
          | refine wo_lenStr rfl rfl rfl ?_
          | refine wo_len rfl rfl rfl rfl ?_
          | refine wo_buildSlice rfl rfl rfl ?_
          | refine wo_build rfl rfl rfl ?_
          | refine wo_pick rfl rfl rfl ?_
          | refine wo_strEq rfl rfl rfl ?_
          | refine wo_boolEq rfl rfl rfl rfl ?_
          | refine wo_boolNe rfl rfl rfl rfl ?_
          | refine wo_strNe rfl rfl rfl ?_
          | refine wo_on rfl ?_
          | refine wo_off rfl rfl ?_
          | refine wo_offn rfl ?_)
        refine wo_indexAddr k rfl rfl rfl rfl rfl hlt ?_
        repeat (first
          | refine wo_nil ?_
          | refine wo_move rfl rfl ?_
          | refine wo_assign rfl rfl ?_
          | refine wo_fieldAddr rfl rfl rfl ?_
          | refine wo_nilCheck rfl rfl ?_
          | refine wo_extract rfl rfl rfl ?_
          | refine wo_load rfl rfl rfl rfl (by assumption) rfl ?_
          | refine wo_eql rfl rfl rfl ?_
          | refine wo_neq rfl rfl rfl ?_
          | refine wo_lss rfl rfl rfl ?_
          | refine wo_gtr rfl rfl rfl ?_
          | refine wo_leq rfl rfl rfl ?_
          | refine wo_geq rfl rfl rfl ?_
          | refine wo_not rfl rfl ?_
          | refine wo_lenStr rfl rfl rfl ?_
          | refine wo_len rfl rfl rfl rfl ?_
          | refine wo_buildSlice rfl rfl rfl ?_
          | refine wo_build rfl rfl rfl ?_
          | refine wo_pick rfl rfl rfl ?_
          | refine wo_strEq rfl rfl rfl ?_
          | refine wo_boolEq rfl rfl rfl rfl ?_
          | refine wo_boolNe rfl rfl rfl rfl ?_
          | refine wo_strNe rfl rfl rfl ?_
          | refine wo_on rfl ?_
          | refine wo_off rfl rfl ?_
          | refine wo_offn rfl ?_)
        refine wo_load (v := .int .i64 y) rfl rfl rfl rfl hf' (prs_jo hmk) ?_
        repeat (first
          | refine wo_nil ?_
          | refine wo_move rfl rfl ?_
          | refine wo_assign rfl rfl ?_
          | refine wo_fieldAddr rfl rfl rfl ?_
          | refine wo_nilCheck rfl rfl ?_
          | refine wo_extract rfl rfl rfl ?_
          | refine wo_load rfl rfl rfl rfl (by assumption) rfl ?_
          | refine wo_eql rfl rfl rfl ?_
          | refine wo_neq rfl rfl rfl ?_
          | refine wo_lss rfl rfl rfl ?_
          | refine wo_gtr rfl rfl rfl ?_
          | refine wo_leq rfl rfl rfl ?_
          | refine wo_geq rfl rfl rfl ?_
          | refine wo_not rfl rfl ?_
          | refine wo_lenStr rfl rfl rfl ?_
          | refine wo_len rfl rfl rfl rfl ?_
          | refine wo_buildSlice rfl rfl rfl ?_
          | refine wo_build rfl rfl rfl ?_
          | refine wo_pick rfl rfl rfl ?_
          | refine wo_strEq rfl rfl rfl ?_
          | refine wo_boolEq rfl rfl rfl rfl ?_
          | refine wo_boolNe rfl rfl rfl rfl ?_
          | refine wo_strNe rfl rfl rfl ?_
          | refine wo_on rfl ?_
          | refine wo_off rfl rfl ?_
          | refine wo_offn rfl ?_)
        exact ⟨rfl, rfl, rfl, rfl, rfl, congrArg (fun x => some (AV.bool x)) (decide_eq_decide.2 ⟨fun h => ⟨h4, h⟩, fun h => h.2⟩), trivial⟩
      · refine wo_is 38 false rfl (decide_eq_false h4) ?_
        repeat (first
          | refine wo_nil ?_
          | refine wo_move rfl rfl ?_
          | refine wo_assign rfl rfl ?_
          | refine wo_fieldAddr rfl rfl rfl ?_
          | refine wo_nilCheck rfl rfl ?_
          | refine wo_extract rfl rfl rfl ?_
          | refine wo_load rfl rfl rfl rfl (by assumption) rfl ?_
          | refine wo_eql rfl rfl rfl ?_
          | refine wo_neq rfl rfl rfl ?_
          | refine wo_lss rfl rfl rfl ?_
          | refine wo_gtr rfl rfl rfl ?_
          | refine wo_leq rfl rfl rfl ?_
          | refine wo_geq rfl rfl rfl ?_
          | refine wo_not rfl rfl ?_
          | refine wo_lenStr rfl rfl rfl ?_
          | refine wo_len rfl rfl rfl rfl ?_
          | refine wo_buildSlice rfl rfl rfl ?_
          | refine wo_build rfl rfl rfl ?_
          | refine wo_pick rfl rfl rfl ?_
          | refine wo_strEq rfl rfl rfl ?_
          | refine wo_boolEq rfl rfl rfl rfl ?_
          | refine wo_boolNe rfl rfl rfl rfl ?_
          | refine wo_strNe rfl rfl rfl ?_
          | refine wo_on rfl ?_
          | refine wo_off rfl rfl ?_
          | refine wo_offn rfl ?_)
        exact ⟨rfl, rfl, rfl, rfl, rfl, congrArg (fun x => some (AV.bool x)) (decide_eq_false fun h => h4 h.1).symm, trivial⟩
    refine wg_if rfl (fun hwk => ?_) fun hwk => ?_
    · have hws : (mix id ts1 k).set k (1, y) = mix id ts1 (k + 1) := by
        rw [← mix_set hth]
        unfold wake
        rw [if_pos hwk]
      have hput := prs_put1 (x := 1) hmk
      rw [hws] at hput
      have st2 := inv.st.rs.put (us := mix id ts1 (k + 1)) (by rw [hml, hle]) inv.st.only.wf (by omega) (by rw [mix_len, mix_len])
      have st3 := inv.st.trans hw st2
      repeat (first
        | refine wg_seq ?_
        | refine wg_skip ?_
        | refine wg_block ?_
        | refine wg_scope ?_
        | refine wg_inBlock ?_
        | refine wg_inScope ?_
        | refine wg_region ?_
        | refine wo_nil ?_
        | refine wo_move rfl rfl ?_
        | refine wo_assign rfl rfl ?_
        | refine wo_fieldAddr rfl rfl rfl ?_
        | refine wo_nilCheck rfl rfl ?_
        | refine wo_extract rfl rfl rfl ?_
        | refine wo_load rfl rfl rfl rfl (by assumption) rfl ?_
        | refine wo_eql rfl rfl rfl ?_
        | refine wo_neq rfl rfl rfl ?_
        | refine wo_lss rfl rfl rfl ?_
        | refine wo_gtr rfl rfl rfl ?_
        | refine wo_leq rfl rfl rfl ?_
        | refine wo_geq rfl rfl rfl ?_
        | refine wo_not rfl rfl ?_
        | refine wo_lenStr rfl rfl rfl ?_
        | refine wo_len rfl rfl rfl rfl ?_
        | refine wo_buildSlice rfl rfl rfl ?_
        | refine wo_build rfl rfl rfl ?_
        | refine wo_pick rfl rfl rfl ?_
        | refine wo_strEq rfl rfl rfl ?_
        | refine wo_boolEq rfl rfl rfl rfl ?_
        | refine wo_boolNe rfl rfl rfl rfl ?_
        | refine wo_strNe rfl rfl rfl ?_
        | refine wo_on rfl ?_
        | refine wo_off rfl rfl ?_
        | refine wo_offn rfl ?_)
      refine wo_indexAddr k rfl rfl rfl rfl rfl hlt ?_
      repeat (first
        | refine wg_seq ?_
        | refine wg_skip ?_
        | refine wg_block ?_
        | refine wg_scope ?_
        | refine wg_inBlock ?_
        | refine wg_inScope ?_
        | refine wg_region ?_
        | refine wo_nil ?_
        | refine wo_move rfl rfl ?_
        | refine wo_assign rfl rfl ?_
        | refine wo_fieldAddr rfl rfl rfl ?_
        | refine wo_nilCheck rfl rfl ?_
        | refine wo_extract rfl rfl rfl ?_
        | refine wo_load rfl rfl rfl rfl (by assumption) rfl ?_
        | refine wo_eql rfl rfl rfl ?_
        | refine wo_neq rfl rfl rfl ?_
        | refine wo_lss rfl rfl rfl ?_
        | refine wo_gtr rfl rfl rfl ?_
        | refine wo_leq rfl rfl rfl ?_
        | refine wo_geq rfl rfl rfl ?_
        | refine wo_not rfl rfl ?_
        | refine wo_lenStr rfl rfl rfl ?_
        | refine wo_len rfl rfl rfl rfl ?_
        | refine wo_buildSlice rfl rfl rfl ?_
        | refine wo_build rfl rfl rfl ?_
        | refine wo_pick rfl rfl rfl ?_
        | refine wo_strEq rfl rfl rfl ?_
        | refine wo_boolEq rfl rfl rfl rfl ?_
        | refine wo_boolNe rfl rfl rfl rfl ?_
        | refine wo_strNe rfl rfl rfl ?_
        | refine wo_on rfl ?_
        | refine wo_off rfl rfl ?_
        | refine wo_offn rfl ?_)
      refine wo_store (cs' := prs (mix id ts1 (k + 1))) rfl rfl rfl rfl rfl rfl hf' ((congrArg (fun j => putN j [AV.int .i64 1] (prs (mix id ts1 k))) (at2 k)).trans hput) ?_
      have hb3 := inv.buf.keep st2.only dvo.symm
      repeat (first
        | refine wg_seq ?_
        | refine wg_skip ?_
        | refine wg_block ?_
        | refine wg_scope ?_
        | refine wg_inBlock ?_
        | refine wg_inScope ?_
        | refine wg_region ?_
        | refine wo_nil ?_
        | refine wo_move rfl rfl ?_
        | refine wo_assign rfl rfl ?_
        | refine wo_fieldAddr rfl rfl rfl ?_
        | refine wo_nilCheck rfl rfl ?_
        | refine wo_extract rfl rfl rfl ?_
        | refine wo_load rfl rfl rfl rfl (by assumption) rfl ?_
        | refine wo_eql rfl rfl rfl ?_
        | refine wo_neq rfl rfl rfl ?_
        | refine wo_lss rfl rfl rfl ?_
        | refine wo_gtr rfl rfl rfl ?_
        | refine wo_leq rfl rfl rfl ?_
        | refine wo_geq rfl rfl rfl ?_
        | refine wo_not rfl rfl ?_
        | refine wo_lenStr rfl rfl rfl ?_
        | refine wo_len rfl rfl rfl rfl ?_
        | refine wo_buildSlice rfl rfl rfl ?_
        | refine wo_build rfl rfl rfl ?_
        | refine wo_pick rfl rfl rfl ?_
        | refine wo_strEq rfl rfl rfl ?_
        | refine wo_boolEq rfl rfl rfl rfl ?_
        | refine wo_boolNe rfl rfl rfl rfl ?_
        | refine wo_strNe rfl rfl rfl ?_
        | refine wo_on rfl ?_
        | refine wo_off rfl rfl ?_
        | refine wo_offn rfl ?_)
      refine wo_add rfl rfl rfl (by omega) (by omega) ?_
      repeat (first
        | refine wg_seq ?_
        | refine wg_skip ?_
        | refine wg_block ?_
        | refine wg_scope ?_
        | refine wg_inBlock ?_
        | refine wg_inScope ?_
        | refine wg_region ?_
        | refine wo_nil ?_
        | refine wo_move rfl rfl ?_
        | refine wo_assign rfl rfl ?_
        | refine wo_fieldAddr rfl rfl rfl ?_
        | refine wo_nilCheck rfl rfl ?_
        | refine wo_extract rfl rfl rfl ?_
        | refine wo_load rfl rfl rfl rfl (by assumption) rfl ?_
        | refine wo_eql rfl rfl rfl ?_
        | refine wo_neq rfl rfl rfl ?_
        | refine wo_lss rfl rfl rfl ?_
        | refine wo_gtr rfl rfl rfl ?_
        | refine wo_leq rfl rfl rfl ?_
        | refine wo_geq rfl rfl rfl ?_
        | refine wo_not rfl rfl ?_
        | refine wo_lenStr rfl rfl rfl ?_
        | refine wo_len rfl rfl rfl rfl ?_
        | refine wo_buildSlice rfl rfl rfl ?_
        | refine wo_build rfl rfl rfl ?_
        | refine wo_pick rfl rfl rfl ?_
        | refine wo_strEq rfl rfl rfl ?_
        | refine wo_boolEq rfl rfl rfl rfl ?_
        | refine wo_boolNe rfl rfl rfl rfl ?_
        | refine wo_strNe rfl rfl rfl ?_
        | refine wo_on rfl ?_
        | refine wo_off rfl rfl ?_
        | refine wo_offn rfl ?_)
      refine wo_append rfl rfl rfl rfl rfl (append_one (de := d3) rfl rfl rfl rfl st2.only.wf hb3 rfl (by decide) (room_of (by omega) (by decide))) ?_
      intro vo1 A4 g
      have gb : Buf A4 1 vo1 ((selK (wakes id) ts1 k).length + 1) (ints (selK (wakes id) ts1 k) ++ [.int .i64 ((k : Int) + 1)]) := g.buf
      repeat (first
        | refine wg_seq ?_
        | refine wg_skip ?_
        | refine wg_block ?_
        | refine wg_scope ?_
        | refine wg_inBlock ?_
        | refine wg_inScope ?_
        | refine wg_region ?_
        | refine wo_nil ?_
        | refine wo_move rfl rfl ?_
        | refine wo_assign rfl rfl ?_
        | refine wo_fieldAddr rfl rfl rfl ?_
        | refine wo_nilCheck rfl rfl ?_
        | refine wo_extract rfl rfl rfl ?_
        | refine wo_load rfl rfl rfl rfl (by assumption) rfl ?_
        | refine wo_eql rfl rfl rfl ?_
        | refine wo_neq rfl rfl rfl ?_
        | refine wo_lss rfl rfl rfl ?_
        | refine wo_gtr rfl rfl rfl ?_
        | refine wo_leq rfl rfl rfl ?_
        | refine wo_geq rfl rfl rfl ?_
        | refine wo_not rfl rfl ?_
        | refine wo_lenStr rfl rfl rfl ?_
        | refine wo_len rfl rfl rfl rfl ?_
        | refine wo_buildSlice rfl rfl rfl ?_
        | refine wo_build rfl rfl rfl ?_
        | refine wo_pick rfl rfl rfl ?_
        | refine wo_strEq rfl rfl rfl ?_
        | refine wo_boolEq rfl rfl rfl rfl ?_
        | refine wo_boolNe rfl rfl rfl rfl ?_
        | refine wo_strNe rfl rfl rfl ?_
        | refine wo_on rfl ?_
        | refine wo_off rfl rfl ?_
        | refine wo_offn rfl ?_)
      refine wo_add rfl rfl rfl (by omega) (by omega) ?_
      repeat (first
        | refine wg_seq ?_
        | refine wg_skip ?_
        | refine wg_block ?_
        | refine wg_scope ?_
        | refine wg_inBlock ?_
        | refine wg_inScope ?_
        | refine wg_region ?_
        | refine wo_nil ?_
        | refine wo_move rfl rfl ?_
        | refine wo_assign rfl rfl ?_
        | refine wo_fieldAddr rfl rfl rfl ?_
        | refine wo_nilCheck rfl rfl ?_
        | refine wo_extract rfl rfl rfl ?_
        | refine wo_load rfl rfl rfl rfl (by assumption) rfl ?_
        | refine wo_eql rfl rfl rfl ?_
        | refine wo_neq rfl rfl rfl ?_
        | refine wo_lss rfl rfl rfl ?_
        | refine wo_gtr rfl rfl rfl ?_
        | refine wo_leq rfl rfl rfl ?_
        | refine wo_geq rfl rfl rfl ?_
        | refine wo_not rfl rfl ?_
        | refine wo_lenStr rfl rfl rfl ?_
        | refine wo_len rfl rfl rfl rfl ?_
        | refine wo_buildSlice rfl rfl rfl ?_
        | refine wo_build rfl rfl rfl ?_
        | refine wo_pick rfl rfl rfl ?_
        | refine wo_strEq rfl rfl rfl ?_
        | refine wo_boolEq rfl rfl rfl rfl ?_
        | refine wo_boolNe rfl rfl rfl rfl ?_
        | refine wo_strNe rfl rfl rfl ?_
        | refine wo_on rfl ?_
        | refine wo_off rfl rfl ?_
        | refine wo_offn rfl ?_)
      refine wg_inLoop ?_
      refine wg_le (.put 0 (.ptr fr 0 0) (.put 1 (.int .i64 id) (.put 6 vo1 (.put 7 (.int .i64 ((k + 1 : Nat) : Int)) .nil)))) ?_ ⟨rfl, rfl, rfl, rfl, trivial⟩
      refine ih (k + 1, vo1) A4 (by simp only; omega) ⟨by simp only; omega, ⟨st3.rs.keep g.only dvo, ⟨g.only.wf, Nat.le_trans st3.only.nxt g.only.nxt, fun q F hq hn => g.only.keep q F (st3.only.keep q F hq hn) fun e => by
        have := inv.own q e
        have := hw q F hq
        omega⟩, Grow.refl _ _⟩, ?_, fun q hq => ?_⟩
      · simp only [selK_yes hth hwk]
        rw [ints_snoc] at gb
        simpa using gb
      · rcases g.grow q hq with h' | h'
        · exact inv.own q h'
        · exact Nat.le_trans st3.only.nxt h'
    · have hws : mix id ts1 (k + 1) = mix id ts1 k := by
        rw [← mix_set hth]
        unfold wake
        rw [if_neg (by rw [hwk]; decide)]
        exact set_same hmk
      repeat (first
        | refine wg_seq ?_
        | refine wg_skip ?_
        | refine wg_block ?_
        | refine wg_scope ?_
        | refine wg_inBlock ?_
        | refine wg_inScope ?_
        | refine wg_region ?_
        | refine wo_nil ?_
        | refine wo_move rfl rfl ?_
        | refine wo_assign rfl rfl ?_
        | refine wo_fieldAddr rfl rfl rfl ?_
        | refine wo_nilCheck rfl rfl ?_
        | refine wo_extract rfl rfl rfl ?_
        | refine wo_load rfl rfl rfl rfl (by assumption) rfl ?_
        | refine wo_eql rfl rfl rfl ?_
        | refine wo_neq rfl rfl rfl ?_
        | refine wo_lss rfl rfl rfl ?_
        | refine wo_gtr rfl rfl rfl ?_
        | refine wo_leq rfl rfl rfl ?_
        | refine wo_geq rfl rfl rfl ?_
        | refine wo_not rfl rfl ?_
        | refine wo_lenStr rfl rfl rfl ?_
        | refine wo_len rfl rfl rfl rfl ?_
        | refine wo_buildSlice rfl rfl rfl ?_
        | refine wo_build rfl rfl rfl ?_
        | refine wo_pick rfl rfl rfl ?_
        | refine wo_strEq rfl rfl rfl ?_
        | refine wo_boolEq rfl rfl rfl rfl ?_
        | refine wo_boolNe rfl rfl rfl rfl ?_
        | refine wo_strNe rfl rfl rfl ?_
        | refine wo_on rfl ?_
        | refine wo_off rfl rfl ?_
        | refine wo_offn rfl ?_)
      refine wo_add rfl rfl rfl (by omega) (by omega) ?_
      repeat (first
        | refine wg_seq ?_
        | refine wg_skip ?_
        | refine wg_block ?_
        | refine wg_scope ?_
        | refine wg_inBlock ?_
        | refine wg_inScope ?_
        | refine wg_region ?_
        | refine wo_nil ?_
        | refine wo_move rfl rfl ?_
        | refine wo_assign rfl rfl ?_
        | refine wo_fieldAddr rfl rfl rfl ?_
        | refine wo_nilCheck rfl rfl ?_
        | refine wo_extract rfl rfl rfl ?_
        | refine wo_load rfl rfl rfl rfl (by assumption) rfl ?_
        | refine wo_eql rfl rfl rfl ?_
        | refine wo_neq rfl rfl rfl ?_
        | refine wo_lss rfl rfl rfl ?_
        | refine wo_gtr rfl rfl rfl ?_
        | refine wo_leq rfl rfl rfl ?_
        | refine wo_geq rfl rfl rfl ?_
        | refine wo_not rfl rfl ?_
        | refine wo_lenStr rfl rfl rfl ?_
        | refine wo_len rfl rfl rfl rfl ?_
        | refine wo_buildSlice rfl rfl rfl ?_
        | refine wo_build rfl rfl rfl ?_
        | refine wo_pick rfl rfl rfl ?_
        | refine wo_strEq rfl rfl rfl ?_
        | refine wo_boolEq rfl rfl rfl rfl ?_
        | refine wo_boolNe rfl rfl rfl rfl ?_
        | refine wo_strNe rfl rfl rfl ?_
        | refine wo_on rfl ?_
        | refine wo_off rfl rfl ?_
        | refine wo_offn rfl ?_)
      refine wg_inLoop ?_
      refine wg_le (.put 0 (.ptr fr 0 0) (.put 1 (.int .i64 id) (.put 6 vo (.put 7 (.int .i64 ((k + 1 : Nat) : Int)) .nil)))) ?_ ⟨rfl, rfl, rfl, rfl, trivial⟩
      refine ih (k + 1, vo) A2 (by simp only; omega) ⟨by simp only; omega, ?_, ?_, inv.own⟩
      · simp only [hws]
        exact inv.st
      · simp only [selK_no hth hwk]
        exact inv.buf
  · have hge : k = ts1.length := by
      have : ¬ (k : Int) < (ts.length : Int) := hge
      omega
    have st := inv.st
    have hb := inv.buf
    rw [hge] at st hb
    rw [mix_all] at st
    refine wg_exit rfl ?_
    repeat (first
      | refine wg_seq ?_
      | refine wg_skip ?_
      | refine wg_block ?_
      | refine wg_scope ?_
      | refine wg_inBlock ?_
      | refine wg_inScope ?_
      | refine wg_region ?_
      | refine wo_nil ?_
      | refine wo_move rfl rfl ?_
      | refine wo_assign rfl rfl ?_
      | refine wo_fieldAddr rfl rfl rfl ?_
      | refine wo_nilCheck rfl rfl ?_
      | refine wo_extract rfl rfl rfl ?_
      | refine wo_load rfl rfl rfl rfl (by assumption) rfl ?_
      | refine wo_eql rfl rfl rfl ?_
      | refine wo_neq rfl rfl rfl ?_
      | refine wo_lss rfl rfl rfl ?_
      | refine wo_gtr rfl rfl rfl ?_
      | refine wo_leq rfl rfl rfl ?_
      | refine wo_geq rfl rfl rfl ?_
      | refine wo_not rfl rfl ?_
      | refine wo_lenStr rfl rfl rfl ?_
      | refine wo_len rfl rfl rfl rfl ?_
      | refine wo_buildSlice rfl rfl rfl ?_
      | refine wo_build rfl rfl rfl ?_
      | refine wo_pick rfl rfl rfl ?_
      | refine wo_strEq rfl rfl rfl ?_
      | refine wo_boolEq rfl rfl rfl rfl ?_
      | refine wo_boolNe rfl rfl rfl rfl ?_
      | refine wo_strNe rfl rfl rfl ?_
      | refine wo_on rfl ?_
      | refine wo_off rfl rfl ?_
      | refine wo_offn rfl ?_)
    exact wg_ret rfl ⟨vo, rfl, st, hb, inv.own⟩

theorem rready_spec {K : FuncId} {A : AW} {fr : Nat} {v : AV} {ts : List Th} (hw : Wf A) (h : Rs A fr v ts) (hl : ts.length < 1000000) :
    CallP (ES K) 50 [.ptr fr 0 0] A fun r A1 => Buf A1 1 r (readyT ts).length (ints (readyT ts)) ∧ Only A A1 none' ∧ Grow A none' r.isFam := by
  refine call_of rfl rfl rfl ?_
  repeat (first
    | refine wg_seq ?_
    | refine wg_skip ?_
    | refine wg_block ?_
    | refine wg_scope ?_
    | refine wg_inBlock ?_
    | refine wg_inScope ?_
    | refine wg_region ?_
    | refine wo_nil ?_
    | refine wo_move rfl rfl ?_
    | refine wo_assign rfl rfl ?_
    | refine wo_fieldAddr rfl rfl rfl ?_
    | refine wo_nilCheck rfl rfl ?_
    | refine wo_extract rfl rfl rfl ?_
    | refine wo_load rfl rfl rfl rfl (by assumption) rfl ?_
    | refine wo_eql rfl rfl rfl ?_
    | refine wo_neq rfl rfl rfl ?_
    | refine wo_lss rfl rfl rfl ?_
    | refine wo_gtr rfl rfl rfl ?_
    | refine wo_leq rfl rfl rfl ?_
    | refine wo_geq rfl rfl rfl ?_
    | refine wo_not rfl rfl ?_
    | refine wo_lenStr rfl rfl rfl ?_
    | refine wo_len rfl rfl rfl rfl ?_
    | refine wo_buildSlice rfl rfl rfl ?_
    | refine wo_build rfl rfl rfl ?_
    | refine wo_pick rfl rfl rfl ?_
    | refine wo_strEq rfl rfl rfl ?_
    | refine wo_boolEq rfl rfl rfl rfl ?_
    | refine wo_boolNe rfl rfl rfl rfl ?_
    | refine wo_strNe rfl rfl rfl ?_
    | refine wo_on rfl ?_
    | refine wo_off rfl rfl ?_
    | refine wo_offn rfl ?_)
  refine wg_loop ?_
  refine wg_le (.put 0 (.ptr fr 0 0) (.put 3 .nils (.put 4 (.int .i64 ((0 : Nat) : Int)) .nil))) ?_ ⟨rfl, rfl, rfl, trivial⟩
  refine wg_ind (ι := Nat × AV) (fun i => ts.length - i.1) (fun i => .put 0 (.ptr fr 0 0) (.put 3 i.2 (.put 4 (.int .i64 (i.1 : Int)) .nil)))
    (fun i A1 => i.1 ≤ ts.length ∧ Buf A1 1 i.2 (selK isReady ts i.1).length (ints (selK isReady ts i.1)) ∧ Only A A1 none' ∧ Grow A none' i.2.isFam) ?_ (0, .nils) A ⟨Nat.zero_le _, .inl ⟨rfl, rfl, rfl⟩, Only.refl hw _, fun g h => h.elim⟩
  rintro ⟨i, vo⟩ A1 ⟨hi, hb, ho, hg⟩ ih
  have hi : i ≤ ts.length := hi
  have hb : Buf A1 1 vo (selK isReady ts i).length (ints (selK isReady ts i)) := hb
  have hg : Grow A none' vo.isFam := hg
  have hs1 := h.keep ho fun _ _ h => h
  have hsl := selK_len isReady ts i
  have hc1 := hs1.cell
  repeat (first
    | refine wg_seq ?_
    | refine wg_skip ?_
    | refine wg_block ?_
    | refine wg_scope ?_
    | refine wg_inBlock ?_
    | refine wg_inScope ?_
    | refine wg_region ?_
    | refine wo_nil ?_
    | refine wo_move rfl rfl ?_
    | refine wo_assign rfl rfl ?_
    | refine wo_fieldAddr rfl rfl rfl ?_
    | refine wo_nilCheck rfl rfl ?_
    | refine wo_extract rfl rfl rfl ?_
    | refine wo_load rfl rfl rfl rfl (by assumption) rfl ?_
    | refine wo_eql rfl rfl rfl ?_
    | refine wo_neq rfl rfl rfl ?_
    | refine wo_lss rfl rfl rfl ?_
    | refine wo_gtr rfl rfl rfl ?_
    | refine wo_leq rfl rfl rfl ?_
    | refine wo_geq rfl rfl rfl ?_
    | refine wo_not rfl rfl ?_
    | refine wo_lenStr rfl rfl rfl ?_
    | refine wo_len rfl rfl rfl rfl ?_
    | refine wo_buildSlice rfl rfl rfl ?_
    | refine wo_build rfl rfl rfl ?_
    | refine wo_pick rfl rfl rfl ?_
    | refine wo_strEq rfl rfl rfl ?_
    | refine wo_boolEq rfl rfl rfl rfl ?_
    | refine wo_boolNe rfl rfl rfl rfl ?_
    | refine wo_strNe rfl rfl rfl ?_
    | refine wo_on rfl ?_
    | refine wo_off rfl rfl ?_
    | refine wo_offn rfl ?_)
  refine wo_len rfl rfl rfl hs1.buf.lenV ?_
  repeat (first
    | refine wg_seq ?_
    | refine wg_skip ?_
    | refine wg_block ?_
    | refine wg_scope ?_
    | refine wg_inBlock ?_
    | refine wg_inScope ?_
    | refine wg_region ?_
    | refine wo_nil ?_
    | refine wo_move rfl rfl ?_
    | refine wo_assign rfl rfl ?_
    | refine wo_fieldAddr rfl rfl rfl ?_
    | refine wo_nilCheck rfl rfl ?_
    | refine wo_extract rfl rfl rfl ?_
    | refine wo_load rfl rfl rfl rfl (by assumption) rfl ?_
    | refine wo_eql rfl rfl rfl ?_
    | refine wo_neq rfl rfl rfl ?_
    | refine wo_lss rfl rfl rfl ?_
    | refine wo_gtr rfl rfl rfl ?_
    | refine wo_leq rfl rfl rfl ?_
    | refine wo_geq rfl rfl rfl ?_
    | refine wo_not rfl rfl ?_
    | refine wo_lenStr rfl rfl rfl ?_
    | refine wo_len rfl rfl rfl rfl ?_
    | refine wo_buildSlice rfl rfl rfl ?_
    | refine wo_build rfl rfl rfl ?_
    | refine wo_pick rfl rfl rfl ?_
    | refine wo_strEq rfl rfl rfl ?_
    | refine wo_boolEq rfl rfl rfl rfl ?_
    | refine wo_boolNe rfl rfl rfl rfl ?_
    | refine wo_strNe rfl rfl rfl ?_
    | refine wo_on rfl ?_
    | refine wo_off rfl rfl ?_
    | refine wo_offn rfl ?_)
  refine wg_dec rfl (fun hlt => ?_) fun hge => ?_
  · have hlt : i < ts.length := Int.ofNat_lt.1 hlt
    obtain ⟨a, b, hth⟩ : ∃ a b, ts[i]? = some (a, b) := ⟨ts[i].1, ts[i].2, by rw [List.getElem?_eq_getElem hlt]⟩
    obtain ⟨f, t, rfl, hf, _⟩ := hs1.buf.slice (by omega)
    repeat (first
      | refine wg_seq ?_
      | refine wg_skip ?_
      | refine wg_block ?_
      | refine wg_scope ?_
      | refine wg_inBlock ?_
      | refine wg_inScope ?_
      | refine wg_region ?_
      | refine wo_nil ?_
      | refine wo_move rfl rfl ?_
      | refine wo_assign rfl rfl ?_
      | refine wo_fieldAddr rfl rfl rfl ?_
      | refine wo_nilCheck rfl rfl ?_
      | refine wo_extract rfl rfl rfl ?_
      | refine wo_load rfl rfl rfl rfl (by assumption) rfl ?_
      | refine wo_eql rfl rfl rfl ?_
      | refine wo_neq rfl rfl rfl ?_
      | refine wo_lss rfl rfl rfl ?_
      | refine wo_gtr rfl rfl rfl ?_
      | refine wo_leq rfl rfl rfl ?_
      | refine wo_geq rfl rfl rfl ?_
      | refine wo_not rfl rfl ?_
      | refine wo_lenStr rfl rfl rfl ?_
      | refine wo_len rfl rfl rfl rfl ?_
      | refine wo_buildSlice rfl rfl rfl ?_
      | refine wo_build rfl rfl rfl ?_
      | refine wo_pick rfl rfl rfl ?_
      | refine wo_strEq rfl rfl rfl ?_
      | refine wo_boolEq rfl rfl rfl rfl ?_
      | refine wo_boolNe rfl rfl rfl rfl ?_
      | refine wo_strNe rfl rfl rfl ?_
      | refine wo_on rfl ?_
      | refine wo_off rfl rfl ?_
      | refine wo_offn rfl ?_)
    refine wo_indexAddr i rfl rfl rfl rfl rfl hlt ?_
    repeat (first
      | refine wg_seq ?_
      | refine wg_skip ?_
      | refine wg_block ?_
      | refine wg_scope ?_
      | refine wg_inBlock ?_
      | refine wg_inScope ?_
      | refine wg_region ?_
      | refine wo_nil ?_
      | refine wo_move rfl rfl ?_
      | refine wo_assign rfl rfl ?_
      | refine wo_fieldAddr rfl rfl rfl ?_
      | refine wo_nilCheck rfl rfl ?_
      | refine wo_extract rfl rfl rfl ?_
      | refine wo_load rfl rfl rfl rfl (by assumption) rfl ?_
      | refine wo_eql rfl rfl rfl ?_
      | refine wo_neq rfl rfl rfl ?_
      | refine wo_lss rfl rfl rfl ?_
      | refine wo_gtr rfl rfl rfl ?_
      | refine wo_leq rfl rfl rfl ?_
      | refine wo_geq rfl rfl rfl ?_
      | refine wo_not rfl rfl ?_
      | refine wo_lenStr rfl rfl rfl ?_
      | refine wo_len rfl rfl rfl rfl ?_
      | refine wo_buildSlice rfl rfl rfl ?_
      | refine wo_build rfl rfl rfl ?_
      | refine wo_pick rfl rfl rfl ?_
      | refine wo_strEq rfl rfl rfl ?_
      | refine wo_boolEq rfl rfl rfl rfl ?_
      | refine wo_boolNe rfl rfl rfl rfl ?_
      | refine wo_strNe rfl rfl rfl ?_
      | refine wo_on rfl ?_
      | refine wo_off rfl rfl ?_
      | refine wo_offn rfl ?_)
    refine wo_load (v := .int .i64 a) rfl rfl rfl rfl hf (prs_st hth) ?_
    repeat (first
      | refine wg_seq ?_
      | refine wg_skip ?_
      | refine wg_block ?_
      | refine wg_scope ?_
      | refine wg_inBlock ?_
      | refine wg_inScope ?_
      | refine wg_region ?_
      | refine wo_nil ?_
      | refine wo_move rfl rfl ?_
      | refine wo_assign rfl rfl ?_
      | refine wo_fieldAddr rfl rfl rfl ?_
      | refine wo_nilCheck rfl rfl ?_
      | refine wo_extract rfl rfl rfl ?_
      | refine wo_load rfl rfl rfl rfl (by assumption) rfl ?_
      | refine wo_eql rfl rfl rfl ?_
      | refine wo_neq rfl rfl rfl ?_
      | refine wo_lss rfl rfl rfl ?_
      | refine wo_gtr rfl rfl rfl ?_
      | refine wo_leq rfl rfl rfl ?_
      | refine wo_geq rfl rfl rfl ?_
      | refine wo_not rfl rfl ?_
      | refine wo_lenStr rfl rfl rfl ?_
      | refine wo_len rfl rfl rfl rfl ?_
      | refine wo_buildSlice rfl rfl rfl ?_
      | refine wo_build rfl rfl rfl ?_
      | refine wo_pick rfl rfl rfl ?_
      | refine wo_strEq rfl rfl rfl ?_
      | refine wo_boolEq rfl rfl rfl rfl ?_
      | refine wo_boolNe rfl rfl rfl rfl ?_
      | refine wo_strNe rfl rfl rfl ?_
      | refine wo_on rfl ?_
      | refine wo_off rfl rfl ?_
      | refine wo_offn rfl ?_)
    refine wg_dec rfl (fun h1 => ?_) fun h1 => ?_
    · have hp : isReady (a, b) = true := decide_eq_true h1
      repeat (first
        | refine wg_seq ?_
        | refine wg_skip ?_
        | refine wg_block ?_
        | refine wg_scope ?_
        | refine wg_inBlock ?_
        | refine wg_inScope ?_
        | refine wg_region ?_
        | refine wo_nil ?_
        | refine wo_move rfl rfl ?_
        | refine wo_assign rfl rfl ?_
        | refine wo_fieldAddr rfl rfl rfl ?_
        | refine wo_nilCheck rfl rfl ?_
        | refine wo_extract rfl rfl rfl ?_
        | refine wo_load rfl rfl rfl rfl (by assumption) rfl ?_
        | refine wo_eql rfl rfl rfl ?_
        | refine wo_neq rfl rfl rfl ?_
        | refine wo_lss rfl rfl rfl ?_
        | refine wo_gtr rfl rfl rfl ?_
        | refine wo_leq rfl rfl rfl ?_
        | refine wo_geq rfl rfl rfl ?_
        | refine wo_not rfl rfl ?_
        | refine wo_lenStr rfl rfl rfl ?_
        | refine wo_len rfl rfl rfl rfl ?_
        | refine wo_buildSlice rfl rfl rfl ?_
        | refine wo_build rfl rfl rfl ?_
        | refine wo_pick rfl rfl rfl ?_
        | refine wo_strEq rfl rfl rfl ?_
        | refine wo_boolEq rfl rfl rfl rfl ?_
        | refine wo_boolNe rfl rfl rfl rfl ?_
        | refine wo_strNe rfl rfl rfl ?_
        | refine wo_on rfl ?_
        | refine wo_off rfl rfl ?_
        | refine wo_offn rfl ?_)
      refine wo_add rfl rfl rfl (by omega) (by omega) ?_
      repeat (first
        | refine wg_seq ?_
        | refine wg_skip ?_
        | refine wg_block ?_
        | refine wg_scope ?_
        | refine wg_inBlock ?_
        | refine wg_inScope ?_
        | refine wg_region ?_
        | refine wo_nil ?_
        | refine wo_move rfl rfl ?_
        | refine wo_assign rfl rfl ?_
        | refine wo_fieldAddr rfl rfl rfl ?_
        | refine wo_nilCheck rfl rfl ?_
        | refine wo_extract rfl rfl rfl ?_
        | refine wo_load rfl rfl rfl rfl (by assumption) rfl ?_
        | refine wo_eql rfl rfl rfl ?_
        | refine wo_neq rfl rfl rfl ?_
        | refine wo_lss rfl rfl rfl ?_
        | refine wo_gtr rfl rfl rfl ?_
        | refine wo_leq rfl rfl rfl ?_
        | refine wo_geq rfl rfl rfl ?_
        | refine wo_not rfl rfl ?_
        | refine wo_lenStr rfl rfl rfl ?_
        | refine wo_len rfl rfl rfl rfl ?_
        | refine wo_buildSlice rfl rfl rfl ?_
        | refine wo_build rfl rfl rfl ?_
        | refine wo_pick rfl rfl rfl ?_
        | refine wo_strEq rfl rfl rfl ?_
        | refine wo_boolEq rfl rfl rfl rfl ?_
        | refine wo_boolNe rfl rfl rfl rfl ?_
        | refine wo_strNe rfl rfl rfl ?_
        | refine wo_on rfl ?_
        | refine wo_off rfl rfl ?_
        | refine wo_offn rfl ?_)
      refine wo_append rfl rfl rfl rfl rfl (append_one (de := d3) rfl rfl rfl rfl ho.wf hb rfl (by decide) (room_of (by omega) (by decide))) ?_
      intro vo1 A2 g
      have gb : Buf A2 1 vo1 ((selK isReady ts i).length + 1) (ints (selK isReady ts i) ++ [.int .i64 ((i : Int) + 1)]) := g.buf
      repeat (first
        | refine wg_seq ?_
        | refine wg_skip ?_
        | refine wg_block ?_
        | refine wg_scope ?_
        | refine wg_inBlock ?_
        | refine wg_inScope ?_
        | refine wg_region ?_
        | refine wo_nil ?_
        | refine wo_move rfl rfl ?_
        | refine wo_assign rfl rfl ?_
        | refine wo_fieldAddr rfl rfl rfl ?_
        | refine wo_nilCheck rfl rfl ?_
        | refine wo_extract rfl rfl rfl ?_
        | refine wo_load rfl rfl rfl rfl (by assumption) rfl ?_
        | refine wo_eql rfl rfl rfl ?_
        | refine wo_neq rfl rfl rfl ?_
        | refine wo_lss rfl rfl rfl ?_
        | refine wo_gtr rfl rfl rfl ?_
        | refine wo_leq rfl rfl rfl ?_
        | refine wo_geq rfl rfl rfl ?_
        | refine wo_not rfl rfl ?_
        | refine wo_lenStr rfl rfl rfl ?_
        | refine wo_len rfl rfl rfl rfl ?_
        | refine wo_buildSlice rfl rfl rfl ?_
        | refine wo_build rfl rfl rfl ?_
        | refine wo_pick rfl rfl rfl ?_
        | refine wo_strEq rfl rfl rfl ?_
        | refine wo_boolEq rfl rfl rfl rfl ?_
        | refine wo_boolNe rfl rfl rfl rfl ?_
        | refine wo_strNe rfl rfl rfl ?_
        | refine wo_on rfl ?_
        | refine wo_off rfl rfl ?_
        | refine wo_offn rfl ?_)
      refine wo_add rfl rfl rfl (by omega) (by omega) ?_
      repeat (first
        | refine wg_seq ?_
        | refine wg_skip ?_
        | refine wg_block ?_
        | refine wg_scope ?_
        | refine wg_inBlock ?_
        | refine wg_inScope ?_
        | refine wg_region ?_
        | refine wo_nil ?_
        | refine wo_move rfl rfl ?_
        | refine wo_assign rfl rfl ?_
        | refine wo_fieldAddr rfl rfl rfl ?_
        | refine wo_nilCheck rfl rfl ?_
        | refine wo_extract rfl rfl rfl ?_
        | refine wo_load rfl rfl rfl rfl (by assumption) rfl ?_
        | refine wo_eql rfl rfl rfl ?_
        | refine wo_neq rfl rfl rfl ?_
        | refine wo_lss rfl rfl rfl ?_
        | refine wo_gtr rfl rfl rfl ?_
        | refine wo_leq rfl rfl rfl ?_
        | refine wo_geq rfl rfl rfl ?_
        | refine wo_not rfl rfl ?_
        | refine wo_lenStr rfl rfl rfl ?_
        | refine wo_len rfl rfl rfl rfl ?_
        | refine wo_buildSlice rfl rfl rfl ?_
        | refine wo_build rfl rfl rfl ?_
        | refine wo_pick rfl rfl rfl ?_
        | refine wo_strEq rfl rfl rfl ?_
        | refine wo_boolEq rfl rfl rfl rfl ?_
        | refine wo_boolNe rfl rfl rfl rfl ?_
        | refine wo_strNe rfl rfl rfl ?_
        | refine wo_on rfl ?_
        | refine wo_off rfl rfl ?_
        | refine wo_offn rfl ?_)
      refine wg_inLoop ?_
      refine wg_le (.put 0 (.ptr fr 0 0) (.put 3 vo1 (.put 4 (.int .i64 ((i + 1 : Nat) : Int)) .nil))) ?_ ⟨rfl, rfl, rfl, trivial⟩
      have own : ∀ g, vo.isFam g → A.nxt ≤ g := fun g e => (hg g e).resolve_left fun h => h
      refine ih (i + 1, vo1) A2 (by simp only; omega) ⟨hlt, ?_, ⟨g.only.wf, Nat.le_trans ho.nxt g.only.nxt, fun k F hk hn => g.only.keep k F (ho.keep k F hk hn) fun e => by
        have := own k e
        have := hw k F hk
        omega⟩, fun k hk => ?_⟩
      · simp only [selK_yes hth hp]
        rw [ints_snoc] at gb
        simpa using gb
      · rcases g.grow k hk with h' | h'
        · exact .inr (own k h')
        · exact .inr (Nat.le_trans ho.nxt h')
    · have hp : isReady (a, b) = false := decide_eq_false h1
      repeat (first
        | refine wg_seq ?_
        | refine wg_skip ?_
        | refine wg_block ?_
        | refine wg_scope ?_
        | refine wg_inBlock ?_
        | refine wg_inScope ?_
        | refine wg_region ?_
        | refine wo_nil ?_
        | refine wo_move rfl rfl ?_
        | refine wo_assign rfl rfl ?_
        | refine wo_fieldAddr rfl rfl rfl ?_
        | refine wo_nilCheck rfl rfl ?_
        | refine wo_extract rfl rfl rfl ?_
        | refine wo_load rfl rfl rfl rfl (by assumption) rfl ?_
        | refine wo_eql rfl rfl rfl ?_
        | refine wo_neq rfl rfl rfl ?_
        | refine wo_lss rfl rfl rfl ?_
        | refine wo_gtr rfl rfl rfl ?_
        | refine wo_leq rfl rfl rfl ?_
        | refine wo_geq rfl rfl rfl ?_
        | refine wo_not rfl rfl ?_
        | refine wo_lenStr rfl rfl rfl ?_
        | refine wo_len rfl rfl rfl rfl ?_
        | refine wo_buildSlice rfl rfl rfl ?_
        | refine wo_build rfl rfl rfl ?_
        | refine wo_pick rfl rfl rfl ?_
        | refine wo_strEq rfl rfl rfl ?_
        | refine wo_boolEq rfl rfl rfl rfl ?_
        | refine wo_boolNe rfl rfl rfl rfl ?_
        | refine wo_strNe rfl rfl rfl ?_
        | refine wo_on rfl ?_
        | refine wo_off rfl rfl ?_
        | refine wo_offn rfl ?_)
      refine wo_add rfl rfl rfl (by omega) (by omega) ?_
      repeat (first
        | refine wg_seq ?_
        | refine wg_skip ?_
        | refine wg_block ?_
        | refine wg_scope ?_
        | refine wg_inBlock ?_
        | refine wg_inScope ?_
        | refine wg_region ?_
        | refine wo_nil ?_
        | refine wo_move rfl rfl ?_
        | refine wo_assign rfl rfl ?_
        | refine wo_fieldAddr rfl rfl rfl ?_
        | refine wo_nilCheck rfl rfl ?_
        | refine wo_extract rfl rfl rfl ?_
        | refine wo_load rfl rfl rfl rfl (by assumption) rfl ?_
        | refine wo_eql rfl rfl rfl ?_
        | refine wo_neq rfl rfl rfl ?_
        | refine wo_lss rfl rfl rfl ?_
        | refine wo_gtr rfl rfl rfl ?_
        | refine wo_leq rfl rfl rfl ?_
        | refine wo_geq rfl rfl rfl ?_
        | refine wo_not rfl rfl ?_
        | refine wo_lenStr rfl rfl rfl ?_
        | refine wo_len rfl rfl rfl rfl ?_
        | refine wo_buildSlice rfl rfl rfl ?_
        | refine wo_build rfl rfl rfl ?_
        | refine wo_pick rfl rfl rfl ?_
        | refine wo_strEq rfl rfl rfl ?_
        | refine wo_boolEq rfl rfl rfl rfl ?_
        | refine wo_boolNe rfl rfl rfl rfl ?_
        | refine wo_strNe rfl rfl rfl ?_
        | refine wo_on rfl ?_
        | refine wo_off rfl rfl ?_
        | refine wo_offn rfl ?_)
      refine wg_inLoop ?_
      refine wg_le (.put 0 (.ptr fr 0 0) (.put 3 vo (.put 4 (.int .i64 ((i + 1 : Nat) : Int)) .nil))) ?_ ⟨rfl, rfl, rfl, trivial⟩
      exact ih (i + 1, vo) A1 (by simp only; omega) ⟨hlt, by simp only [selK_no hth hp]; exact hb, ho, hg⟩
  · have hge : i = ts.length := by
      have : ¬ (i : Int) < (ts.length : Int) := hge
      omega
    subst hge
    refine wg_exit rfl ?_
    repeat (first
      | refine wg_seq ?_
      | refine wg_skip ?_
      | refine wg_block ?_
      | refine wg_scope ?_
      | refine wg_inBlock ?_
      | refine wg_inScope ?_
      | refine wg_region ?_
      | refine wo_nil ?_
      | refine wo_move rfl rfl ?_
      | refine wo_assign rfl rfl ?_
      | refine wo_fieldAddr rfl rfl rfl ?_
      | refine wo_nilCheck rfl rfl ?_
      | refine wo_extract rfl rfl rfl ?_
      | refine wo_load rfl rfl rfl rfl (by assumption) rfl ?_
      | refine wo_eql rfl rfl rfl ?_
      | refine wo_neq rfl rfl rfl ?_
      | refine wo_lss rfl rfl rfl ?_
      | refine wo_gtr rfl rfl rfl ?_
      | refine wo_leq rfl rfl rfl ?_
      | refine wo_geq rfl rfl rfl ?_
      | refine wo_not rfl rfl ?_
      | refine wo_lenStr rfl rfl rfl ?_
      | refine wo_len rfl rfl rfl rfl ?_
      | refine wo_buildSlice rfl rfl rfl ?_
      | refine wo_build rfl rfl rfl ?_
      | refine wo_pick rfl rfl rfl ?_
      | refine wo_strEq rfl rfl rfl ?_
      | refine wo_boolEq rfl rfl rfl rfl ?_
      | refine wo_boolNe rfl rfl rfl rfl ?_
      | refine wo_strNe rfl rfl rfl ?_
      | refine wo_on rfl ?_
      | refine wo_off rfl rfl ?_
      | refine wo_offn rfl ?_)
    exact wg_ret rfl ⟨hb, ho, hg⟩

theorem rmod_fix {n : Int} {k : Nat} (hk : 0 < k) : (n.tmod (k : Int) + (k : Int)).tmod (k : Int) = n % (k : Int) := by
  have hgt : -(k : Int) < n.tmod (k : Int) := by
    have := Int.lt_tmod_of_pos n (show (0 : Int) < (k : Int) by omega)
    omega
  have h1 := Int.mul_tdiv_add_tmod n (k : Int)
  have e : n % (k : Int) = n.tmod (k : Int) % (k : Int) := by
    conv => lhs; rw [← h1]
    rw [Int.add_comm, Int.add_mul_emod_self_left]
  rw [Int.tmod_eq_emod_of_nonneg (by omega), Int.add_emod_right, ← e]
theorem rpick_spec {K : FuncId} {A : AW} {fr : Nat} {v : AV} {ts : List Th} {n : Int} (hw : Wf A) (h : Rs A fr v ts) (hl : ts.length < 1000000) (h1 : -9223372036854775808 ≤ n) (h2 : n < 9223372036854775808) :
    CallP (ES K) 47 [.ptr fr 0 0, .int .i64 n] A fun r A1 => r = .tuple [.int .i64 (pickT ts n).1, .bool (pickT ts n).2] ∧ Only A A1 none' := by
  unfold pickT
  have hrl : (readyT ts).length ≤ ts.length := selK_len _ _ _
  refine call_of rfl rfl rfl ?_
  repeat (first
    | refine wg_seq ?_
    | refine wg_skip ?_
    | refine wg_block ?_
    | refine wg_scope ?_
    | refine wg_inBlock ?_
    | refine wg_inScope ?_
    | refine wg_region ?_
    | refine wo_nil ?_
    | refine wo_move rfl rfl ?_
    | refine wo_assign rfl rfl ?_
    | refine wo_fieldAddr rfl rfl rfl ?_
    | refine wo_nilCheck rfl rfl ?_
    | refine wo_extract rfl rfl rfl ?_
    | refine wo_load rfl rfl rfl rfl (by assumption) rfl ?_
    | refine wo_eql rfl rfl rfl ?_
    | refine wo_neq rfl rfl rfl ?_
    | refine wo_lss rfl rfl rfl ?_
    | refine wo_gtr rfl rfl rfl ?_
    | refine wo_leq rfl rfl rfl ?_
    | refine wo_geq rfl rfl rfl ?_
    | refine wo_not rfl rfl ?_
    | refine wo_lenStr rfl rfl rfl ?_
    | refine wo_len rfl rfl rfl rfl ?_
    | refine wo_buildSlice rfl rfl rfl ?_
    | refine wo_build rfl rfl rfl ?_
    | refine wo_pick rfl rfl rfl ?_
    | refine wo_strEq rfl rfl rfl ?_
    | refine wo_boolEq rfl rfl rfl rfl ?_
    | refine wo_boolNe rfl rfl rfl rfl ?_
    | refine wo_strNe rfl rfl rfl ?_
    | refine wo_on rfl ?_
    | refine wo_off rfl rfl ?_
    | refine wo_offn rfl ?_)
  refine wo_call rfl rfl orc_cons rfl (rready_spec hw h hl) ?_
  rintro vr A1 ⟨hb, ho, _⟩
  repeat (first
    | refine wg_seq ?_
    | refine wg_skip ?_
    | refine wg_block ?_
    | refine wg_scope ?_
    | refine wg_inBlock ?_
    | refine wg_inScope ?_
    | refine wg_region ?_
    | refine wo_nil ?_
    | refine wo_move rfl rfl ?_
    | refine wo_assign rfl rfl ?_
    | refine wo_fieldAddr rfl rfl rfl ?_
    | refine wo_nilCheck rfl rfl ?_
    | refine wo_extract rfl rfl rfl ?_
    | refine wo_load rfl rfl rfl rfl (by assumption) rfl ?_
    | refine wo_eql rfl rfl rfl ?_
    | refine wo_neq rfl rfl rfl ?_
    | refine wo_lss rfl rfl rfl ?_
    | refine wo_gtr rfl rfl rfl ?_
    | refine wo_leq rfl rfl rfl ?_
    | refine wo_geq rfl rfl rfl ?_
    | refine wo_not rfl rfl ?_
    | refine wo_lenStr rfl rfl rfl ?_
    | refine wo_len rfl rfl rfl rfl ?_
    | refine wo_buildSlice rfl rfl rfl ?_
    | refine wo_build rfl rfl rfl ?_
    | refine wo_pick rfl rfl rfl ?_
    | refine wo_strEq rfl rfl rfl ?_
    | refine wo_boolEq rfl rfl rfl rfl ?_
    | refine wo_boolNe rfl rfl rfl rfl ?_
    | refine wo_strNe rfl rfl rfl ?_
    | refine wo_on rfl ?_
    | refine wo_off rfl rfl ?_
    | refine wo_offn rfl ?_)
  refine wo_len rfl rfl rfl hb.lenV ?_
  repeat (first
    | refine wg_seq ?_
    | refine wg_skip ?_
    | refine wg_block ?_
    | refine wg_scope ?_
    | refine wg_inBlock ?_
    | refine wg_inScope ?_
    | refine wg_region ?_
    | refine wo_nil ?_
    | refine wo_move rfl rfl ?_
    | refine wo_assign rfl rfl ?_
    | refine wo_fieldAddr rfl rfl rfl ?_
    | refine wo_nilCheck rfl rfl ?_
    | refine wo_extract rfl rfl rfl ?_
    | refine wo_load rfl rfl rfl rfl (by assumption) rfl ?_
    | refine wo_eql rfl rfl rfl ?_
    | refine wo_neq rfl rfl rfl ?_
    | refine wo_lss rfl rfl rfl ?_
    | refine wo_gtr rfl rfl rfl ?_
    | refine wo_leq rfl rfl rfl ?_
    | refine wo_geq rfl rfl rfl ?_
    | refine wo_not rfl rfl ?_
    | refine wo_lenStr rfl rfl rfl ?_
    | refine wo_len rfl rfl rfl rfl ?_
    | refine wo_buildSlice rfl rfl rfl ?_
    | refine wo_build rfl rfl rfl ?_
    | refine wo_pick rfl rfl rfl ?_
    | refine wo_strEq rfl rfl rfl ?_
    | refine wo_boolEq rfl rfl rfl rfl ?_
    | refine wo_boolNe rfl rfl rfl rfl ?_
    | refine wo_strNe rfl rfl rfl ?_
    | refine wo_on rfl ?_
    | refine wo_off rfl rfl ?_
    | refine wo_offn rfl ?_)
  refine wg_dec rfl (fun h0 => ?_) fun h0 => ?_
  · have h0 : (readyT ts).length = 0 := Int.ofNat_inj.1 h0
    rw [if_pos h0]
    repeat (first
      | refine wg_seq ?_
      | refine wg_skip ?_
      | refine wg_block ?_
      | refine wg_scope ?_
      | refine wg_inBlock ?_
      | refine wg_inScope ?_
      | refine wg_region ?_
      | refine wo_nil ?_
      | refine wo_move rfl rfl ?_
      | refine wo_assign rfl rfl ?_
      | refine wo_fieldAddr rfl rfl rfl ?_
      | refine wo_nilCheck rfl rfl ?_
      | refine wo_extract rfl rfl rfl ?_
      | refine wo_load rfl rfl rfl rfl (by assumption) rfl ?_
      | refine wo_eql rfl rfl rfl ?_
      | refine wo_neq rfl rfl rfl ?_
      | refine wo_lss rfl rfl rfl ?_
      | refine wo_gtr rfl rfl rfl ?_
      | refine wo_leq rfl rfl rfl ?_
      | refine wo_geq rfl rfl rfl ?_
      | refine wo_not rfl rfl ?_
      | refine wo_lenStr rfl rfl rfl ?_
      | refine wo_len rfl rfl rfl rfl ?_
      | refine wo_buildSlice rfl rfl rfl ?_
      | refine wo_build rfl rfl rfl ?_
      | refine wo_pick rfl rfl rfl ?_
      | refine wo_strEq rfl rfl rfl ?_
      | refine wo_boolEq rfl rfl rfl rfl ?_
      | refine wo_boolNe rfl rfl rfl rfl ?_
      | refine wo_strNe rfl rfl rfl ?_
      | refine wo_on rfl ?_
      | refine wo_off rfl rfl ?_
      | refine wo_offn rfl ?_)
    exact wg_ret rfl ⟨rfl, ho⟩
  have h0 : ¬ (readyT ts).length = 0 := fun e => h0 (by rw [e]; rfl)
  rw [if_neg h0]
  have hp : 0 < (readyT ts).length := by omega
  have fix := rmod_fix (n := n) hp
  have hlt : n.tmod ((readyT ts).length : Int) < ((readyT ts).length : Int) := Int.tmod_lt_of_pos n (by omega)
  have hgt := Int.lt_tmod_of_pos n (show (0 : Int) < ((readyT ts).length : Int) by omega)
  obtain ⟨f, t, rfl, hf, _⟩ := hb.slice hp
  have hm0 := Int.emod_nonneg n (show ((readyT ts).length : Int) ≠ 0 by omega)
  have hm1 := Int.emod_lt_of_pos n (show (0 : Int) < ((readyT ts).length : Int) by omega)
  have hml : (n % ((readyT ts).length : Int)).toNat < (readyT ts).length := by omega
  have hz : nth (ints (readyT ts)) (n % ((readyT ts).length : Int)).toNat = some (.int .i64 ((readyT ts).getD (n % ((readyT ts).length : Int)).toNat 0)) := ints_get (by rw [List.getD_eq_getElem?_getD, List.getElem?_eq_getElem hml]; rfl)
  repeat (first
    | refine wg_seq ?_
    | refine wg_skip ?_
    | refine wg_block ?_
    | refine wg_scope ?_
    | refine wg_inBlock ?_
    | refine wg_inScope ?_
    | refine wg_region ?_
    | refine wo_nil ?_
    | refine wo_move rfl rfl ?_
    | refine wo_assign rfl rfl ?_
    | refine wo_fieldAddr rfl rfl rfl ?_
    | refine wo_nilCheck rfl rfl ?_
    | refine wo_extract rfl rfl rfl ?_
    | refine wo_load rfl rfl rfl rfl (by assumption) rfl ?_
    | refine wo_eql rfl rfl rfl ?_
    | refine wo_neq rfl rfl rfl ?_
    | refine wo_lss rfl rfl rfl ?_
    | refine wo_gtr rfl rfl rfl ?_
    | refine wo_leq rfl rfl rfl ?_
    | refine wo_geq rfl rfl rfl ?_
    | refine wo_not rfl rfl ?_
    | refine wo_lenStr rfl rfl rfl ?_
    | refine wo_len rfl rfl rfl rfl ?_
    | refine wo_buildSlice rfl rfl rfl ?_
    | refine wo_build rfl rfl rfl ?_
    | refine wo_pick rfl rfl rfl ?_
    | refine wo_strEq rfl rfl rfl ?_
    | refine wo_boolEq rfl rfl rfl rfl ?_
    | refine wo_boolNe rfl rfl rfl rfl ?_
    | refine wo_strNe rfl rfl rfl ?_
    | refine wo_on rfl ?_
    | refine wo_off rfl rfl ?_
    | refine wo_offn rfl ?_)
  refine wo_bin rfl rfl rfl (int_rem (by omega)) ?_
  repeat (first
    | refine wg_seq ?_
    | refine wg_skip ?_
    | refine wg_block ?_
    | refine wg_scope ?_
    | refine wg_inBlock ?_
    | refine wg_inScope ?_
    | refine wg_region ?_
    | refine wo_nil ?_
    | refine wo_move rfl rfl ?_
    | refine wo_assign rfl rfl ?_
    | refine wo_fieldAddr rfl rfl rfl ?_
    | refine wo_nilCheck rfl rfl ?_
    | refine wo_extract rfl rfl rfl ?_
    | refine wo_load rfl rfl rfl rfl (by assumption) rfl ?_
    | refine wo_eql rfl rfl rfl ?_
    | refine wo_neq rfl rfl rfl ?_
    | refine wo_lss rfl rfl rfl ?_
    | refine wo_gtr rfl rfl rfl ?_
    | refine wo_leq rfl rfl rfl ?_
    | refine wo_geq rfl rfl rfl ?_
    | refine wo_not rfl rfl ?_
    | refine wo_lenStr rfl rfl rfl ?_
    | refine wo_len rfl rfl rfl rfl ?_
    | refine wo_buildSlice rfl rfl rfl ?_
    | refine wo_build rfl rfl rfl ?_
    | refine wo_pick rfl rfl rfl ?_
    | refine wo_strEq rfl rfl rfl ?_
    | refine wo_boolEq rfl rfl rfl rfl ?_
    | refine wo_boolNe rfl rfl rfl rfl ?_
    | refine wo_strNe rfl rfl rfl ?_
    | refine wo_on rfl ?_
    | refine wo_off rfl rfl ?_
    | refine wo_offn rfl ?_)
  refine wo_add rfl rfl rfl (by omega) (by omega) ?_
  repeat (first
    | refine wg_seq ?_
    | refine wg_skip ?_
    | refine wg_block ?_
    | refine wg_scope ?_
    | refine wg_inBlock ?_
    | refine wg_inScope ?_
    | refine wg_region ?_
    | refine wo_nil ?_
    | refine wo_move rfl rfl ?_
    | refine wo_assign rfl rfl ?_
    | refine wo_fieldAddr rfl rfl rfl ?_
    | refine wo_nilCheck rfl rfl ?_
    | refine wo_extract rfl rfl rfl ?_
    | refine wo_load rfl rfl rfl rfl (by assumption) rfl ?_
    | refine wo_eql rfl rfl rfl ?_
    | refine wo_neq rfl rfl rfl ?_
    | refine wo_lss rfl rfl rfl ?_
    | refine wo_gtr rfl rfl rfl ?_
    | refine wo_leq rfl rfl rfl ?_
    | refine wo_geq rfl rfl rfl ?_
    | refine wo_not rfl rfl ?_
    | refine wo_lenStr rfl rfl rfl ?_
    | refine wo_len rfl rfl rfl rfl ?_
    | refine wo_buildSlice rfl rfl rfl ?_
    | refine wo_build rfl rfl rfl ?_
    | refine wo_pick rfl rfl rfl ?_
    | refine wo_strEq rfl rfl rfl ?_
    | refine wo_boolEq rfl rfl rfl rfl ?_
    | refine wo_boolNe rfl rfl rfl rfl ?_
    | refine wo_strNe rfl rfl rfl ?_
    | refine wo_on rfl ?_
    | refine wo_off rfl rfl ?_
    | refine wo_offn rfl ?_)
  refine wo_bin rfl rfl rfl (int_rem (by omega)) ?_
  refine wo_indexAddr (n % ((readyT ts).length : Int)).toNat rfl rfl rfl rfl (by rw [fix]; omega) hml ?_
  refine wo_load (v := .int .i64 _) rfl rfl rfl rfl hf (by rw [show Nat.add 0 (Nat.mul (n % ((readyT ts).length : Int)).toNat d3.size) = (n % ((readyT ts).length : Int)).toNat from by show 0 + _ * 1 = _; omega]; exact hz) ?_
  repeat (first
    | refine wg_seq ?_
    | refine wg_skip ?_
    | refine wg_block ?_
    | refine wg_scope ?_
    | refine wg_inBlock ?_
    | refine wg_inScope ?_
    | refine wg_region ?_
    | refine wo_nil ?_
    | refine wo_move rfl rfl ?_
    | refine wo_assign rfl rfl ?_
    | refine wo_fieldAddr rfl rfl rfl ?_
    | refine wo_nilCheck rfl rfl ?_
    | refine wo_extract rfl rfl rfl ?_
    | refine wo_load rfl rfl rfl rfl (by assumption) rfl ?_
    | refine wo_eql rfl rfl rfl ?_
    | refine wo_neq rfl rfl rfl ?_
    | refine wo_lss rfl rfl rfl ?_
    | refine wo_gtr rfl rfl rfl ?_
    | refine wo_leq rfl rfl rfl ?_
    | refine wo_geq rfl rfl rfl ?_
    | refine wo_not rfl rfl ?_
    | refine wo_lenStr rfl rfl rfl ?_
    | refine wo_len rfl rfl rfl rfl ?_
    | refine wo_buildSlice rfl rfl rfl ?_
    | refine wo_build rfl rfl rfl ?_
    | refine wo_pick rfl rfl rfl ?_
    | refine wo_strEq rfl rfl rfl ?_
    | refine wo_boolEq rfl rfl rfl rfl ?_
    | refine wo_boolNe rfl rfl rfl rfl ?_
    | refine wo_strNe rfl rfl rfl ?_
    | refine wo_on rfl ?_
    | refine wo_off rfl rfl ?_
    | refine wo_offn rfl ?_)
  exact wg_ret rfl ⟨rfl, ho⟩

theorem rover_spec {K : FuncId} {A : AW} {fr : Nat} {v : AV} {ts : List Th} (h : Rs A fr v ts) (hl : ts.length < 1000000) :
    CallP (ES K) 52 [.ptr fr 0 0] A fun r A1 => r = .bool (decide (∀ th ∈ ts, th.1 = 5)) ∧ A1 = A := by
  refine call_of rfl rfl rfl ?_
  have hc := h.cell
  repeat (first
    | refine wg_seq ?_
    | refine wg_skip ?_
    | refine wg_block ?_
    | refine wg_scope ?_
    | refine wg_inBlock ?_
    | refine wg_inScope ?_
    | refine wg_region ?_
    | refine wo_nil ?_
    | refine wo_move rfl rfl ?_
    | refine wo_assign rfl rfl ?_
    | refine wo_fieldAddr rfl rfl rfl ?_
    | refine wo_nilCheck rfl rfl ?_
    | refine wo_extract rfl rfl rfl ?_
    | refine wo_load rfl rfl rfl rfl (by assumption) rfl ?_
    | refine wo_eql rfl rfl rfl ?_
    | refine wo_neq rfl rfl rfl ?_
    | refine wo_lss rfl rfl rfl ?_
    | refine wo_gtr rfl rfl rfl ?_
    | refine wo_leq rfl rfl rfl ?_
    | refine wo_geq rfl rfl rfl ?_
    | refine wo_not rfl rfl ?_
    | refine wo_lenStr rfl rfl rfl ?_
    | refine wo_len rfl rfl rfl rfl ?_
    | refine wo_buildSlice rfl rfl rfl ?_
    | refine wo_build rfl rfl rfl ?_
    | refine wo_pick rfl rfl rfl ?_
    | refine wo_strEq rfl rfl rfl ?_
    | refine wo_boolEq rfl rfl rfl rfl ?_
    | refine wo_boolNe rfl rfl rfl rfl ?_
    | refine wo_strNe rfl rfl rfl ?_
    | refine wo_on rfl ?_
    | refine wo_off rfl rfl ?_
    | refine wo_offn rfl ?_)
  refine wg_loop ?_
  refine wg_le (.put 0 (.ptr fr 0 0) (.put 3 (.int .i64 ((0 : Nat) : Int)) .nil)) ?_ ⟨rfl, rfl, trivial⟩
  refine wg_ind (ι := Nat) (fun i => ts.length - i) (fun i => .put 0 (.ptr fr 0 0) (.put 3 (.int .i64 (i : Int)) .nil))
    (fun i A1 => i ≤ ts.length ∧ A1 = A ∧ ∀ th ∈ ts.take i, th.1 = 5) ?_ 0 A ⟨Nat.zero_le _, rfl, fun th h => by simp at h⟩
  rintro i A1 ⟨hi, rfl, hall⟩ ih
  repeat (first
    | refine wg_seq ?_
    | refine wg_skip ?_
    | refine wg_block ?_
    | refine wg_scope ?_
    | refine wg_inBlock ?_
    | refine wg_inScope ?_
    | refine wg_region ?_
    | refine wo_nil ?_
    | refine wo_move rfl rfl ?_
    | refine wo_assign rfl rfl ?_
    | refine wo_fieldAddr rfl rfl rfl ?_
    | refine wo_nilCheck rfl rfl ?_
    | refine wo_extract rfl rfl rfl ?_
    | refine wo_load rfl rfl rfl rfl (by assumption) rfl ?_
    | refine wo_eql rfl rfl rfl ?_
    | refine wo_neq rfl rfl rfl ?_
    | refine wo_lss rfl rfl rfl ?_
    | refine wo_gtr rfl rfl rfl ?_
    | refine wo_leq rfl rfl rfl ?_
    | refine wo_geq rfl rfl rfl ?_
    | refine wo_not rfl rfl ?_
    | refine wo_lenStr rfl rfl rfl ?_
    | refine wo_len rfl rfl rfl rfl ?_
    | refine wo_buildSlice rfl rfl rfl ?_
    | refine wo_build rfl rfl rfl ?_
    | refine wo_pick rfl rfl rfl ?_
    | refine wo_strEq rfl rfl rfl ?_
    | refine wo_boolEq rfl rfl rfl rfl ?_
    | refine wo_boolNe rfl rfl rfl rfl ?_
    | refine wo_strNe rfl rfl rfl ?_
    | refine wo_on rfl ?_
    | refine wo_off rfl rfl ?_
    | refine wo_offn rfl ?_)
  refine wo_len rfl rfl rfl h.buf.lenV ?_
  repeat (first
    | refine wg_seq ?_
    | refine wg_skip ?_
    | refine wg_block ?_
    | refine wg_scope ?_
    | refine wg_inBlock ?_
    | refine wg_inScope ?_
    | refine wg_region ?_
    | refine wo_nil ?_
    | refine wo_move rfl rfl ?_
    | refine wo_assign rfl rfl ?_
    | refine wo_fieldAddr rfl rfl rfl ?_
    | refine wo_nilCheck rfl rfl ?_
    | refine wo_extract rfl rfl rfl ?_
    | refine wo_load rfl rfl rfl rfl (by assumption) rfl ?_
    | refine wo_eql rfl rfl rfl ?_
    | refine wo_neq rfl rfl rfl ?_
    | refine wo_lss rfl rfl rfl ?_
    | refine wo_gtr rfl rfl rfl ?_
    | refine wo_leq rfl rfl rfl ?_
    | refine wo_geq rfl rfl rfl ?_
    | refine wo_not rfl rfl ?_
    | refine wo_lenStr rfl rfl rfl ?_
    | refine wo_len rfl rfl rfl rfl ?_
    | refine wo_buildSlice rfl rfl rfl ?_
    | refine wo_build rfl rfl rfl ?_
    | refine wo_pick rfl rfl rfl ?_
    | refine wo_strEq rfl rfl rfl ?_
    | refine wo_boolEq rfl rfl rfl rfl ?_
    | refine wo_boolNe rfl rfl rfl rfl ?_
    | refine wo_strNe rfl rfl rfl ?_
    | refine wo_on rfl ?_
    | refine wo_off rfl rfl ?_
    | refine wo_offn rfl ?_)
  refine wg_dec rfl (fun hlt => ?_) fun hge => ?_
  · have hlt : i < ts.length := Int.ofNat_lt.1 hlt
    obtain ⟨a, b, hth⟩ : ∃ a b, ts[i]? = some (a, b) := ⟨ts[i].1, ts[i].2, by rw [List.getElem?_eq_getElem hlt]⟩
    obtain ⟨f, t, rfl, hf, _⟩ := h.buf.slice (by omega)
    repeat (first
      | refine wg_seq ?_
      | refine wg_skip ?_
      | refine wg_block ?_
      | refine wg_scope ?_
      | refine wg_inBlock ?_
      | refine wg_inScope ?_
      | refine wg_region ?_
      | refine wo_nil ?_
      | refine wo_move rfl rfl ?_
      | refine wo_assign rfl rfl ?_
      | refine wo_fieldAddr rfl rfl rfl ?_
      | refine wo_nilCheck rfl rfl ?_
      | refine wo_extract rfl rfl rfl ?_
      | refine wo_load rfl rfl rfl rfl (by assumption) rfl ?_
      | refine wo_eql rfl rfl rfl ?_
      | refine wo_neq rfl rfl rfl ?_
      | refine wo_lss rfl rfl rfl ?_
      | refine wo_gtr rfl rfl rfl ?_
      | refine wo_leq rfl rfl rfl ?_
      | refine wo_geq rfl rfl rfl ?_
      | refine wo_not rfl rfl ?_
      | refine wo_lenStr rfl rfl rfl ?_
      | refine wo_len rfl rfl rfl rfl ?_
      | refine wo_buildSlice rfl rfl rfl ?_
      | refine wo_build rfl rfl rfl ?_
      | refine wo_pick rfl rfl rfl ?_
      | refine wo_strEq rfl rfl rfl ?_
      | refine wo_boolEq rfl rfl rfl rfl ?_
      | refine wo_boolNe rfl rfl rfl rfl ?_
      | refine wo_strNe rfl rfl rfl ?_
      | refine wo_on rfl ?_
      | refine wo_off rfl rfl ?_
      | refine wo_offn rfl ?_)
    refine wo_indexAddr i rfl rfl rfl rfl rfl hlt ?_
    repeat (first
      | refine wg_seq ?_
      | refine wg_skip ?_
      | refine wg_block ?_
      | refine wg_scope ?_
      | refine wg_inBlock ?_
      | refine wg_inScope ?_
      | refine wg_region ?_
      | refine wo_nil ?_
      | refine wo_move rfl rfl ?_
      | refine wo_assign rfl rfl ?_
      | refine wo_fieldAddr rfl rfl rfl ?_
      | refine wo_nilCheck rfl rfl ?_
      | refine wo_extract rfl rfl rfl ?_
      | refine wo_load rfl rfl rfl rfl (by assumption) rfl ?_
      | refine wo_eql rfl rfl rfl ?_
      | refine wo_neq rfl rfl rfl ?_
      | refine wo_lss rfl rfl rfl ?_
      | refine wo_gtr rfl rfl rfl ?_
      | refine wo_leq rfl rfl rfl ?_
      | refine wo_geq rfl rfl rfl ?_
      | refine wo_not rfl rfl ?_
      | refine wo_lenStr rfl rfl rfl ?_
      | refine wo_len rfl rfl rfl rfl ?_
      | refine wo_buildSlice rfl rfl rfl ?_
      | refine wo_build rfl rfl rfl ?_
      | refine wo_pick rfl rfl rfl ?_
      | refine wo_strEq rfl rfl rfl ?_
      | refine wo_boolEq rfl rfl rfl rfl ?_
      | refine wo_boolNe rfl rfl rfl rfl ?_
      | refine wo_strNe rfl rfl rfl ?_
      | refine wo_on rfl ?_
      | refine wo_off rfl rfl ?_
      | refine wo_offn rfl ?_)
    refine wo_load (v := .int .i64 a) rfl rfl rfl rfl hf (prs_st hth) ?_
    repeat (first
      | refine wg_seq ?_
      | refine wg_skip ?_
      | refine wg_block ?_
      | refine wg_scope ?_
      | refine wg_inBlock ?_
      | refine wg_inScope ?_
      | refine wg_region ?_
      | refine wo_nil ?_
      | refine wo_move rfl rfl ?_
      | refine wo_assign rfl rfl ?_
      | refine wo_fieldAddr rfl rfl rfl ?_
      | refine wo_nilCheck rfl rfl ?_
      | refine wo_extract rfl rfl rfl ?_
      | refine wo_load rfl rfl rfl rfl (by assumption) rfl ?_
      | refine wo_eql rfl rfl rfl ?_
      | refine wo_neq rfl rfl rfl ?_
      | refine wo_lss rfl rfl rfl ?_
      | refine wo_gtr rfl rfl rfl ?_
      | refine wo_leq rfl rfl rfl ?_
      | refine wo_geq rfl rfl rfl ?_
      | refine wo_not rfl rfl ?_
      | refine wo_lenStr rfl rfl rfl ?_
      | refine wo_len rfl rfl rfl rfl ?_
      | refine wo_buildSlice rfl rfl rfl ?_
      | refine wo_build rfl rfl rfl ?_
      | refine wo_pick rfl rfl rfl ?_
      | refine wo_strEq rfl rfl rfl ?_
      | refine wo_boolEq rfl rfl rfl rfl ?_
      | refine wo_boolNe rfl rfl rfl rfl ?_
      | refine wo_strNe rfl rfl rfl ?_
      | refine wo_on rfl ?_
      | refine wo_off rfl rfl ?_
      | refine wo_offn rfl ?_)
    refine wg_dec rfl (fun h5 => ?_) fun h5 => ?_
    · repeat (first
        | refine wg_seq ?_
        | refine wg_skip ?_
        | refine wg_block ?_
        | refine wg_scope ?_
        | refine wg_inBlock ?_
        | refine wg_inScope ?_
        | refine wg_region ?_
        | refine wo_nil ?_
        | refine wo_move rfl rfl ?_
        | refine wo_assign rfl rfl ?_
        | refine wo_fieldAddr rfl rfl rfl ?_
        | refine wo_nilCheck rfl rfl ?_
        | refine wo_extract rfl rfl rfl ?_
        | refine wo_load rfl rfl rfl rfl (by assumption) rfl ?_
        | refine wo_eql rfl rfl rfl ?_
        | refine wo_neq rfl rfl rfl ?_
        | refine wo_lss rfl rfl rfl ?_
        | refine wo_gtr rfl rfl rfl ?_
        | refine wo_leq rfl rfl rfl ?_
        | refine wo_geq rfl rfl rfl ?_
        | refine wo_not rfl rfl ?_
        | refine wo_lenStr rfl rfl rfl ?_
        | refine wo_len rfl rfl rfl rfl ?_
        | refine wo_buildSlice rfl rfl rfl ?_
        | refine wo_build rfl rfl rfl ?_
        | refine wo_pick rfl rfl rfl ?_
        | refine wo_strEq rfl rfl rfl ?_
        | refine wo_boolEq rfl rfl rfl rfl ?_
        | refine wo_boolNe rfl rfl rfl rfl ?_
        | refine wo_strNe rfl rfl rfl ?_
        | refine wo_on rfl ?_
        | refine wo_off rfl rfl ?_
        | refine wo_offn rfl ?_)
      exact wg_ret rfl ⟨congrArg AV.bool (decide_eq_false fun h => h5 (h _ (List.mem_of_getElem? hth))).symm, rfl⟩
    · have h5 : a = 5 := Decidable.not_not.1 h5
      repeat (first
        | refine wg_seq ?_
        | refine wg_skip ?_
        | refine wg_block ?_
        | refine wg_scope ?_
        | refine wg_inBlock ?_
        | refine wg_inScope ?_
        | refine wg_region ?_
        | refine wo_nil ?_
        | refine wo_move rfl rfl ?_
        | refine wo_assign rfl rfl ?_
        | refine wo_fieldAddr rfl rfl rfl ?_
        | refine wo_nilCheck rfl rfl ?_
        | refine wo_extract rfl rfl rfl ?_
        | refine wo_load rfl rfl rfl rfl (by assumption) rfl ?_
        | refine wo_eql rfl rfl rfl ?_
        | refine wo_neq rfl rfl rfl ?_
        | refine wo_lss rfl rfl rfl ?_
        | refine wo_gtr rfl rfl rfl ?_
        | refine wo_leq rfl rfl rfl ?_
        | refine wo_geq rfl rfl rfl ?_
        | refine wo_not rfl rfl ?_
        | refine wo_lenStr rfl rfl rfl ?_
        | refine wo_len rfl rfl rfl rfl ?_
        | refine wo_buildSlice rfl rfl rfl ?_
        | refine wo_build rfl rfl rfl ?_
        | refine wo_pick rfl rfl rfl ?_
        | refine wo_strEq rfl rfl rfl ?_
        | refine wo_boolEq rfl rfl rfl rfl ?_
        | refine wo_boolNe rfl rfl rfl rfl ?_
        | refine wo_strNe rfl rfl rfl ?_
        | refine wo_on rfl ?_
        | refine wo_off rfl rfl ?_
        | refine wo_offn rfl ?_)
      refine wo_add rfl rfl rfl (by omega) (by omega) ?_
      repeat (first
        | refine wg_seq ?_
        | refine wg_skip ?_
        | refine wg_block ?_
        | refine wg_scope ?_
        | refine wg_inBlock ?_
        | refine wg_inScope ?_
        | refine wg_region ?_
        | refine wo_nil ?_
        | refine wo_move rfl rfl ?_
        | refine wo_assign rfl rfl ?_
        | refine wo_fieldAddr rfl rfl rfl ?_
        | refine wo_nilCheck rfl rfl ?_
        | refine wo_extract rfl rfl rfl ?_
        | refine wo_load rfl rfl rfl rfl (by assumption) rfl ?_
        | refine wo_eql rfl rfl rfl ?_
        | refine wo_neq rfl rfl rfl ?_
        | refine wo_lss rfl rfl rfl ?_
        | refine wo_gtr rfl rfl rfl ?_
        | refine wo_leq rfl rfl rfl ?_
        | refine wo_geq rfl rfl rfl ?_
        | refine wo_not rfl rfl ?_
        | refine wo_lenStr rfl rfl rfl ?_
        | refine wo_len rfl rfl rfl rfl ?_
        | refine wo_buildSlice rfl rfl rfl ?_
        | refine wo_build rfl rfl rfl ?_
        | refine wo_pick rfl rfl rfl ?_
        | refine wo_strEq rfl rfl rfl ?_
        | refine wo_boolEq rfl rfl rfl rfl ?_
        | refine wo_boolNe rfl rfl rfl rfl ?_
        | refine wo_strNe rfl rfl rfl ?_
        | refine wo_on rfl ?_
        | refine wo_off rfl rfl ?_
        | refine wo_offn rfl ?_)
      refine wg_inLoop ?_
      refine wg_le (.put 0 (.ptr fr 0 0) (.put 3 (.int .i64 ((i + 1 : Nat) : Int)) .nil)) ?_ ⟨rfl, rfl, trivial⟩
      refine ih (i + 1) A1 (by omega) ⟨hlt, rfl, fun th hm => ?_⟩
      rw [List.take_add_one, hth] at hm
      rcases List.mem_append.1 hm with hm | hm
      · exact hall th hm
      · simp at hm
        rw [hm]
        exact h5
  · have hge : i = ts.length := by
      have : ¬ (i : Int) < (ts.length : Int) := hge
      omega
    rw [hge, List.take_length] at hall
    refine wg_exit rfl ?_
    repeat (first
      | refine wg_seq ?_
      | refine wg_skip ?_
      | refine wg_block ?_
      | refine wg_scope ?_
      | refine wg_inBlock ?_
      | refine wg_inScope ?_
      | refine wg_region ?_
      | refine wo_nil ?_
      | refine wo_move rfl rfl ?_
      | refine wo_assign rfl rfl ?_
      | refine wo_fieldAddr rfl rfl rfl ?_
      | refine wo_nilCheck rfl rfl ?_
      | refine wo_extract rfl rfl rfl ?_
      | refine wo_load rfl rfl rfl rfl (by assumption) rfl ?_
      | refine wo_eql rfl rfl rfl ?_
      | refine wo_neq rfl rfl rfl ?_
      | refine wo_lss rfl rfl rfl ?_
      | refine wo_gtr rfl rfl rfl ?_
      | refine wo_leq rfl rfl rfl ?_
      | refine wo_geq rfl rfl rfl ?_
      | refine wo_not rfl rfl ?_
      | refine wo_lenStr rfl rfl rfl ?_
      | refine wo_len rfl rfl rfl rfl ?_
      | refine wo_buildSlice rfl rfl rfl ?_
      | refine wo_build rfl rfl rfl ?_
      | refine wo_pick rfl rfl rfl ?_
      | refine wo_strEq rfl rfl rfl ?_
      | refine wo_boolEq rfl rfl rfl rfl ?_
      | refine wo_boolNe rfl rfl rfl rfl ?_
      | refine wo_strNe rfl rfl rfl ?_
      | refine wo_on rfl ?_
      | refine wo_off rfl rfl ?_
      | refine wo_offn rfl ?_)
    exact wg_ret rfl ⟨congrArg AV.bool (decide_eq_true hall).symm, rfl⟩

theorem ints_spec {K : FuncId} {A : AW} {va vb : AV} {l : List Int} (ha : Buf A 1 va l.length (ints l)) (hb : Buf A 1 vb l.length (ints l)) (hl : l.length < 1000000) :
    CallP (ES K) 38 [va, vb] A fun r A1 => r = .bool true ∧ A1 = A := by
  refine call_of rfl rfl rfl ?_
  repeat (first
    | refine wg_seq ?_
    | refine wg_skip ?_
    | refine wg_block ?_
    | refine wg_scope ?_
    | refine wg_inBlock ?_
    | refine wg_inScope ?_
    | refine wg_region ?_
    | refine wo_nil ?_
    | refine wo_move rfl rfl ?_
    | refine wo_assign rfl rfl ?_
    | refine wo_fieldAddr rfl rfl rfl ?_
    | refine wo_nilCheck rfl rfl ?_
    | refine wo_extract rfl rfl rfl ?_
    | refine wo_load rfl rfl rfl rfl (by assumption) rfl ?_
    | refine wo_eql rfl rfl rfl ?_
    | refine wo_neq rfl rfl rfl ?_
    | refine wo_lss rfl rfl rfl ?_
    | refine wo_gtr rfl rfl rfl ?_
    | refine wo_leq rfl rfl rfl ?_
    | refine wo_geq rfl rfl rfl ?_
    | refine wo_not rfl rfl ?_
    | refine wo_lenStr rfl rfl rfl ?_
    | refine wo_len rfl rfl rfl rfl ?_
    | refine wo_buildSlice rfl rfl rfl ?_
    | refine wo_build rfl rfl rfl ?_
    | refine wo_pick rfl rfl rfl ?_
    | refine wo_strEq rfl rfl rfl ?_
    | refine wo_boolEq rfl rfl rfl rfl ?_
    | refine wo_boolNe rfl rfl rfl rfl ?_
    | refine wo_strNe rfl rfl rfl ?_
    | refine wo_on rfl ?_
    | refine wo_off rfl rfl ?_
    | refine wo_offn rfl ?_)
  refine wo_len rfl rfl rfl ha.lenV ?_
  repeat (first
    | refine wg_seq ?_
    | refine wg_skip ?_
    | refine wg_block ?_
    | refine wg_scope ?_
    | refine wg_inBlock ?_
    | refine wg_inScope ?_
    | refine wg_region ?_
    | refine wo_nil ?_
    | refine wo_move rfl rfl ?_
    | refine wo_assign rfl rfl ?_
    | refine wo_fieldAddr rfl rfl rfl ?_
    | refine wo_nilCheck rfl rfl ?_
    | refine wo_extract rfl rfl rfl ?_
    | refine wo_load rfl rfl rfl rfl (by assumption) rfl ?_
    | refine wo_eql rfl rfl rfl ?_
    | refine wo_neq rfl rfl rfl ?_
    | refine wo_lss rfl rfl rfl ?_
    | refine wo_gtr rfl rfl rfl ?_
    | refine wo_leq rfl rfl rfl ?_
    | refine wo_geq rfl rfl rfl ?_
    | refine wo_not rfl rfl ?_
    | refine wo_lenStr rfl rfl rfl ?_
    | refine wo_len rfl rfl rfl rfl ?_
    | refine wo_buildSlice rfl rfl rfl ?_
    | refine wo_build rfl rfl rfl ?_
    | refine wo_pick rfl rfl rfl ?_
    | refine wo_strEq rfl rfl rfl ?_
    | refine wo_boolEq rfl rfl rfl rfl ?_
    | refine wo_boolNe rfl rfl rfl rfl ?_
    | refine wo_strNe rfl rfl rfl ?_
    | refine wo_on rfl ?_
    | refine wo_off rfl rfl ?_
    | refine wo_offn rfl ?_)
  refine wo_len rfl rfl rfl hb.lenV ?_
  repeat (first
    | refine wg_seq ?_
    | refine wg_skip ?_
    | refine wg_block ?_
    | refine wg_scope ?_
    | refine wg_inBlock ?_
    | refine wg_inScope ?_
    | refine wg_region ?_
    | refine wo_nil ?_
    | refine wo_move rfl rfl ?_
    | refine wo_assign rfl rfl ?_
    | refine wo_fieldAddr rfl rfl rfl ?_
    | refine wo_nilCheck rfl rfl ?_
    | refine wo_extract rfl rfl rfl ?_
    | refine wo_load rfl rfl rfl rfl (by assumption) rfl ?_
    | refine wo_eql rfl rfl rfl ?_
    | refine wo_neq rfl rfl rfl ?_
    | refine wo_lss rfl rfl rfl ?_
    | refine wo_gtr rfl rfl rfl ?_
    | refine wo_leq rfl rfl rfl ?_
    | refine wo_geq rfl rfl rfl ?_
    | refine wo_not rfl rfl ?_
    | refine wo_lenStr rfl rfl rfl ?_
    | refine wo_len rfl rfl rfl rfl ?_
    | refine wo_buildSlice rfl rfl rfl ?_
    | refine wo_build rfl rfl rfl ?_
    | refine wo_pick rfl rfl rfl ?_
    | refine wo_strEq rfl rfl rfl ?_
    | refine wo_boolEq rfl rfl rfl rfl ?_
    | refine wo_boolNe rfl rfl rfl rfl ?_
    | refine wo_strNe rfl rfl rfl ?_
    | refine wo_on rfl ?_
    | refine wo_off rfl rfl ?_
    | refine wo_offn rfl ?_)
  refine wg_dec rfl (fun h => absurd rfl h) fun _ => ?_
  repeat (first
    | refine wg_seq ?_
    | refine wg_skip ?_
    | refine wg_block ?_
    | refine wg_scope ?_
    | refine wg_inBlock ?_
    | refine wg_inScope ?_
    | refine wg_region ?_
    | refine wo_nil ?_
    | refine wo_move rfl rfl ?_
    | refine wo_assign rfl rfl ?_
    | refine wo_fieldAddr rfl rfl rfl ?_
    | refine wo_nilCheck rfl rfl ?_
    | refine wo_extract rfl rfl rfl ?_
    | refine wo_load rfl rfl rfl rfl (by assumption) rfl ?_
    | refine wo_eql rfl rfl rfl ?_
    | refine wo_neq rfl rfl rfl ?_
    | refine wo_lss rfl rfl rfl ?_
    | refine wo_gtr rfl rfl rfl ?_
    | refine wo_leq rfl rfl rfl ?_
    | refine wo_geq rfl rfl rfl ?_
    | refine wo_not rfl rfl ?_
    | refine wo_lenStr rfl rfl rfl ?_
    | refine wo_len rfl rfl rfl rfl ?_
    | refine wo_buildSlice rfl rfl rfl ?_
    | refine wo_build rfl rfl rfl ?_
    | refine wo_pick rfl rfl rfl ?_
    | refine wo_strEq rfl rfl rfl ?_
    | refine wo_boolEq rfl rfl rfl rfl ?_
    | refine wo_boolNe rfl rfl rfl rfl ?_
    | refine wo_strNe rfl rfl rfl ?_
    | refine wo_on rfl ?_
    | refine wo_off rfl rfl ?_
    | refine wo_offn rfl ?_)
  refine wg_loop ?_
  refine wg_le (.put 0 va (.put 1 vb (.put 5 (.int .i64 ((0 : Nat) : Int)) .nil))) ?_ ⟨rfl, rfl, rfl, trivial⟩
  refine wg_ind (ι := Nat) (fun i => l.length - i) (fun i => .put 0 va (.put 1 vb (.put 5 (.int .i64 (i : Int)) .nil)))
    (fun i A1 => i ≤ l.length ∧ A1 = A) ?_ 0 A ⟨Nat.zero_le _, rfl⟩
  rintro i A1 ⟨hi, rfl⟩ ih
  repeat (first
    | refine wg_seq ?_
    | refine wg_skip ?_
    | refine wg_block ?_
    | refine wg_scope ?_
    | refine wg_inBlock ?_
    | refine wg_inScope ?_
    | refine wg_region ?_
    | refine wo_nil ?_
    | refine wo_move rfl rfl ?_
    | refine wo_assign rfl rfl ?_
    | refine wo_fieldAddr rfl rfl rfl ?_
    | refine wo_nilCheck rfl rfl ?_
    | refine wo_extract rfl rfl rfl ?_
    | refine wo_load rfl rfl rfl rfl (by assumption) rfl ?_
    | refine wo_eql rfl rfl rfl ?_
    | refine wo_neq rfl rfl rfl ?_
    | refine wo_lss rfl rfl rfl ?_
    | refine wo_gtr rfl rfl rfl ?_
    | refine wo_leq rfl rfl rfl ?_
    | refine wo_geq rfl rfl rfl ?_
    | refine wo_not rfl rfl ?_
    | refine wo_lenStr rfl rfl rfl ?_
    | refine wo_len rfl rfl rfl rfl ?_
    | refine wo_buildSlice rfl rfl rfl ?_
    | refine wo_build rfl rfl rfl ?_
    | refine wo_pick rfl rfl rfl ?_
    | refine wo_strEq rfl rfl rfl ?_
    | refine wo_boolEq rfl rfl rfl rfl ?_
    | refine wo_boolNe rfl rfl rfl rfl ?_
    | refine wo_strNe rfl rfl rfl ?_
    | refine wo_on rfl ?_
    | refine wo_off rfl rfl ?_
    | refine wo_offn rfl ?_)
  refine wo_len rfl rfl rfl ha.lenV ?_
  repeat (first
    | refine wg_seq ?_
    | refine wg_skip ?_
    | refine wg_block ?_
    | refine wg_scope ?_
    | refine wg_inBlock ?_
    | refine wg_inScope ?_
    | refine wg_region ?_
    | refine wo_nil ?_
    | refine wo_move rfl rfl ?_
    | refine wo_assign rfl rfl ?_
    | refine wo_fieldAddr rfl rfl rfl ?_
    | refine wo_nilCheck rfl rfl ?_
    | refine wo_extract rfl rfl rfl ?_
    | refine wo_load rfl rfl rfl rfl (by assumption) rfl ?_
    | refine wo_eql rfl rfl rfl ?_
    | refine wo_neq rfl rfl rfl ?_
    | refine wo_lss rfl rfl rfl ?_
    | refine wo_gtr rfl rfl rfl ?_
    | refine wo_leq rfl rfl rfl ?_
    | refine wo_geq rfl rfl rfl ?_
    | refine wo_not rfl rfl ?_
    | refine wo_lenStr rfl rfl rfl ?_
    | refine wo_len rfl rfl rfl rfl ?_
    | refine wo_buildSlice rfl rfl rfl ?_
    | refine wo_build rfl rfl rfl ?_
    | refine wo_pick rfl rfl rfl ?_
    | refine wo_strEq rfl rfl rfl ?_
    | refine wo_boolEq rfl rfl rfl rfl ?_
    | refine wo_boolNe rfl rfl rfl rfl ?_
    | refine wo_strNe rfl rfl rfl ?_
    | refine wo_on rfl ?_
    | refine wo_off rfl rfl ?_
    | refine wo_offn rfl ?_)
  refine wg_dec rfl (fun hlt => ?_) fun hge => ?_
  · have hlt : i < l.length := Int.ofNat_lt.1 hlt
    obtain ⟨z, hz⟩ : ∃ z, l[i]? = some z := ⟨l[i], List.getElem?_eq_getElem hlt⟩
    obtain ⟨f, t, rfl, hf, _⟩ := ha.slice (by omega)
    obtain ⟨f2, t2, rfl, hf2, _⟩ := hb.slice (by omega)
    have hzi : nth (ints l) (Nat.add 0 (Nat.mul i d3.size)) = some (.int .i64 z) := by
      rw [show Nat.add 0 (Nat.mul i d3.size) = i from by show 0 + i * 1 = i; omega]
      exact ints_get hz
    repeat (first
      | refine wg_seq ?_
      | refine wg_skip ?_
      | refine wg_block ?_
      | refine wg_scope ?_
      | refine wg_inBlock ?_
      | refine wg_inScope ?_
      | refine wg_region ?_
      | refine wo_nil ?_
      | refine wo_move rfl rfl ?_
      | refine wo_assign rfl rfl ?_
      | refine wo_fieldAddr rfl rfl rfl ?_
      | refine wo_nilCheck rfl rfl ?_
      | refine wo_extract rfl rfl rfl ?_
      | refine wo_load rfl rfl rfl rfl (by assumption) rfl ?_
      | refine wo_eql rfl rfl rfl ?_
      | refine wo_neq rfl rfl rfl ?_
      | refine wo_lss rfl rfl rfl ?_
      | refine wo_gtr rfl rfl rfl ?_
      | refine wo_leq rfl rfl rfl ?_
      | refine wo_geq rfl rfl rfl ?_
      | refine wo_not rfl rfl ?_
      | refine wo_lenStr rfl rfl rfl ?_
      | refine wo_len rfl rfl rfl rfl ?_
      | refine wo_buildSlice rfl rfl rfl ?_
      | refine wo_build rfl rfl rfl ?_
      | refine wo_pick rfl rfl rfl ?_
      | refine wo_strEq rfl rfl rfl ?_
      | refine wo_boolEq rfl rfl rfl rfl ?_
      | refine wo_boolNe rfl rfl rfl rfl ?_
      | refine wo_strNe rfl rfl rfl ?_
      | refine wo_on rfl ?_
      | refine wo_off rfl rfl ?_
      | refine wo_offn rfl ?_)
    refine wg_draw rfl ?_
    repeat (first
      | (refine wd_pure rfl rfl rfl rfl rfl ?_
         repeat (first
           | refine wo_nil ?_
           | refine wo_move rfl rfl ?_
           | refine wo_assign rfl rfl ?_
           | refine wo_fieldAddr rfl rfl rfl ?_
           | refine wo_nilCheck rfl rfl ?_
           | refine wo_extract rfl rfl rfl ?_
           | refine wo_load rfl rfl rfl rfl (by assumption) rfl ?_
           | refine wo_eql rfl rfl rfl ?_
           | refine wo_neq rfl rfl rfl ?_
           | refine wo_lss rfl rfl rfl ?_
           | refine wo_gtr rfl rfl rfl ?_
           | refine wo_leq rfl rfl rfl ?_
           | refine wo_geq rfl rfl rfl ?_
           | refine wo_not rfl rfl ?_
           | refine wo_lenStr rfl rfl rfl ?_
           | refine wo_len rfl rfl rfl rfl ?_
           | refine wo_buildSlice rfl rfl rfl ?_
           | refine wo_build rfl rfl rfl ?_
           | refine wo_pick rfl rfl rfl ?_
           | refine wo_strEq rfl rfl rfl ?_
           | refine wo_boolEq rfl rfl rfl rfl ?_
           | refine wo_boolNe rfl rfl rfl rfl ?_
           | refine wo_strNe rfl rfl rfl ?_
           | refine wo_on rfl ?_
           | refine wo_off rfl rfl ?_
           | refine wo_offn rfl ?_)
         refine ⟨rfl, ?_⟩)
      | (refine wd_read rfl rfl rfl rfl rfl rfl rfl ?_
         repeat (first
           | refine wo_nil ?_
           | refine wo_move rfl rfl ?_
           | refine wo_assign rfl rfl ?_
           | refine wo_fieldAddr rfl rfl rfl ?_
           | refine wo_nilCheck rfl rfl ?_
           | refine wo_extract rfl rfl rfl ?_
           | refine wo_load rfl rfl rfl rfl (by assumption) rfl ?_
           | refine wo_eql rfl rfl rfl ?_
           | refine wo_neq rfl rfl rfl ?_
           | refine wo_lss rfl rfl rfl ?_
           | refine wo_gtr rfl rfl rfl ?_
           | refine wo_leq rfl rfl rfl ?_
           | refine wo_geq rfl rfl rfl ?_
           | refine wo_not rfl rfl ?_
           | refine wo_lenStr rfl rfl rfl ?_
           | refine wo_len rfl rfl rfl rfl ?_
           | refine wo_buildSlice rfl rfl rfl ?_
           | refine wo_build rfl rfl rfl ?_
           | refine wo_pick rfl rfl rfl ?_
           | refine wo_strEq rfl rfl rfl ?_
           | refine wo_boolEq rfl rfl rfl rfl ?_
           | refine wo_boolNe rfl rfl rfl rfl ?_
           | refine wo_strNe rfl rfl rfl ?_
           | refine wo_on rfl ?_
           | refine wo_off rfl rfl ?_
           | refine wo_offn rfl ?_)
         refine ⟨rfl, _, rfl, ?_⟩))
    refine wd_pure rfl rfl rfl rfl rfl ?_
    refine wo_indexAddr i rfl rfl rfl rfl rfl hlt ?_
    repeat (first
      | refine wo_nil ?_
      | refine wo_move rfl rfl ?_
      | refine wo_assign rfl rfl ?_
      | refine wo_fieldAddr rfl rfl rfl ?_
      | refine wo_nilCheck rfl rfl ?_
      | refine wo_extract rfl rfl rfl ?_
      | refine wo_load rfl rfl rfl rfl (by assumption) rfl ?_
      | refine wo_eql rfl rfl rfl ?_
      | refine wo_neq rfl rfl rfl ?_
      | refine wo_lss rfl rfl rfl ?_
      | refine wo_gtr rfl rfl rfl ?_
      | refine wo_leq rfl rfl rfl ?_
      | refine wo_geq rfl rfl rfl ?_
      | refine wo_not rfl rfl ?_
      | refine wo_lenStr rfl rfl rfl ?_
      | refine wo_len rfl rfl rfl rfl ?_
      | refine wo_buildSlice rfl rfl rfl ?_
      | refine wo_build rfl rfl rfl ?_
      | refine wo_pick rfl rfl rfl ?_
      | refine wo_strEq rfl rfl rfl ?_
      | refine wo_boolEq rfl rfl rfl rfl ?_
      | refine wo_boolNe rfl rfl rfl rfl ?_
      | refine wo_strNe rfl rfl rfl ?_
      | refine wo_on rfl ?_
      | refine wo_off rfl rfl ?_
      | refine wo_offn rfl ?_)
    refine ⟨rfl, ?_⟩
    refine wd_read rfl rfl rfl rfl rfl rfl rfl ?_
    refine wo_load rfl rfl rfl rfl hf hzi ?_
    repeat (first
      | refine wo_nil ?_
      | refine wo_move rfl rfl ?_
      | refine wo_assign rfl rfl ?_
      | refine wo_fieldAddr rfl rfl rfl ?_
      | refine wo_nilCheck rfl rfl ?_
      | refine wo_extract rfl rfl rfl ?_
      | refine wo_load rfl rfl rfl rfl (by assumption) rfl ?_
      | refine wo_eql rfl rfl rfl ?_
      | refine wo_neq rfl rfl rfl ?_
      | refine wo_lss rfl rfl rfl ?_
      | refine wo_gtr rfl rfl rfl ?_
      | refine wo_leq rfl rfl rfl ?_
      | refine wo_geq rfl rfl rfl ?_
      | refine wo_not rfl rfl ?_
      | refine wo_lenStr rfl rfl rfl ?_
      | refine wo_len rfl rfl rfl rfl ?_
      | refine wo_buildSlice rfl rfl rfl ?_
      | refine wo_build rfl rfl rfl ?_
      | refine wo_pick rfl rfl rfl ?_
      | refine wo_strEq rfl rfl rfl ?_
      | refine wo_boolEq rfl rfl rfl rfl ?_
      | refine wo_boolNe rfl rfl rfl rfl ?_
      | refine wo_strNe rfl rfl rfl ?_
      | refine wo_on rfl ?_
      | refine wo_off rfl rfl ?_
      | refine wo_offn rfl ?_)
    refine ⟨rfl, _, rfl, ?_⟩
    repeat (first
      | (refine wd_pure rfl rfl rfl rfl rfl ?_
         repeat (first
           | refine wo_nil ?_
           | refine wo_move rfl rfl ?_
           | refine wo_assign rfl rfl ?_
           | refine wo_fieldAddr rfl rfl rfl ?_
           | refine wo_nilCheck rfl rfl ?_
           | refine wo_extract rfl rfl rfl ?_
           | refine wo_load rfl rfl rfl rfl (by assumption) rfl ?_
           | refine wo_eql rfl rfl rfl ?_
           | refine wo_neq rfl rfl rfl ?_
           | refine wo_lss rfl rfl rfl ?_
           | refine wo_gtr rfl rfl rfl ?_
           | refine wo_leq rfl rfl rfl ?_
           | refine wo_geq rfl rfl rfl ?_
           | refine wo_not rfl rfl ?_
           | refine wo_lenStr rfl rfl rfl ?_
           | refine wo_len rfl rfl rfl rfl ?_
           | refine wo_buildSlice rfl rfl rfl ?_
           | refine wo_build rfl rfl rfl ?_
           | refine wo_pick rfl rfl rfl ?_
           | refine wo_strEq rfl rfl rfl ?_
           | refine wo_boolEq rfl rfl rfl rfl ?_
           | refine wo_boolNe rfl rfl rfl rfl ?_
           | refine wo_strNe rfl rfl rfl ?_
           | refine wo_on rfl ?_
           | refine wo_off rfl rfl ?_
           | refine wo_offn rfl ?_)
         refine ⟨rfl, ?_⟩)
      | (refine wd_read rfl rfl rfl rfl rfl rfl rfl ?_
         repeat (first
           | refine wo_nil ?_
           | refine wo_move rfl rfl ?_
           | refine wo_assign rfl rfl ?_
           | refine wo_fieldAddr rfl rfl rfl ?_
           | refine wo_nilCheck rfl rfl ?_
           | refine wo_extract rfl rfl rfl ?_
           | refine wo_load rfl rfl rfl rfl (by assumption) rfl ?_
           | refine wo_eql rfl rfl rfl ?_
           | refine wo_neq rfl rfl rfl ?_
           | refine wo_lss rfl rfl rfl ?_
           | refine wo_gtr rfl rfl rfl ?_
           | refine wo_leq rfl rfl rfl ?_
           | refine wo_geq rfl rfl rfl ?_
           | refine wo_not rfl rfl ?_
           | refine wo_lenStr rfl rfl rfl ?_
           | refine wo_len rfl rfl rfl rfl ?_
           | refine wo_buildSlice rfl rfl rfl ?_
           | refine wo_build rfl rfl rfl ?_
           | refine wo_pick rfl rfl rfl ?_
           | refine wo_strEq rfl rfl rfl ?_
           | refine wo_boolEq rfl rfl rfl rfl ?_
           | refine wo_boolNe rfl rfl rfl rfl ?_
           | refine wo_strNe rfl rfl rfl ?_
           | refine wo_on rfl ?_
           | refine wo_off rfl rfl ?_
           | refine wo_offn rfl ?_)
         refine ⟨rfl, _, rfl, ?_⟩))
    refine wd_pure rfl rfl rfl rfl rfl ?_
    refine wo_indexAddr i rfl rfl rfl rfl rfl hlt ?_
    repeat (first
      | refine wo_nil ?_
      | refine wo_move rfl rfl ?_
      | refine wo_assign rfl rfl ?_
      | refine wo_fieldAddr rfl rfl rfl ?_
      | refine wo_nilCheck rfl rfl ?_
      | refine wo_extract rfl rfl rfl ?_
      | refine wo_load rfl rfl rfl rfl (by assumption) rfl ?_
      | refine wo_eql rfl rfl rfl ?_
      | refine wo_neq rfl rfl rfl ?_
      | refine wo_lss rfl rfl rfl ?_
      | refine wo_gtr rfl rfl rfl ?_
      | refine wo_leq rfl rfl rfl ?_
      | refine wo_geq rfl rfl rfl ?_
      | refine wo_not rfl rfl ?_
      | refine wo_lenStr rfl rfl rfl ?_
      | refine wo_len rfl rfl rfl rfl ?_
      | refine wo_buildSlice rfl rfl rfl ?_
      | refine wo_build rfl rfl rfl ?_
      | refine wo_pick rfl rfl rfl ?_
      | refine wo_strEq rfl rfl rfl ?_
      | refine wo_boolEq rfl rfl rfl rfl ?_
      | refine wo_boolNe rfl rfl rfl rfl ?_
      | refine wo_strNe rfl rfl rfl ?_
      | refine wo_on rfl ?_
      | refine wo_off rfl rfl ?_
      | refine wo_offn rfl ?_)
    refine ⟨rfl, ?_⟩
    refine wd_read rfl rfl rfl rfl rfl rfl rfl ?_
    refine wo_load rfl rfl rfl rfl hf2 hzi ?_
    repeat (first
      | refine wo_nil ?_
      | refine wo_move rfl rfl ?_
      | refine wo_assign rfl rfl ?_
      | refine wo_fieldAddr rfl rfl rfl ?_
      | refine wo_nilCheck rfl rfl ?_
      | refine wo_extract rfl rfl rfl ?_
      | refine wo_load rfl rfl rfl rfl (by assumption) rfl ?_
      | refine wo_eql rfl rfl rfl ?_
      | refine wo_neq rfl rfl rfl ?_
      | refine wo_lss rfl rfl rfl ?_
      | refine wo_gtr rfl rfl rfl ?_
      | refine wo_leq rfl rfl rfl ?_
      | refine wo_geq rfl rfl rfl ?_
      | refine wo_not rfl rfl ?_
      | refine wo_lenStr rfl rfl rfl ?_
      | refine wo_len rfl rfl rfl rfl ?_
      | refine wo_buildSlice rfl rfl rfl ?_
      | refine wo_build rfl rfl rfl ?_
      | refine wo_pick rfl rfl rfl ?_
      | refine wo_strEq rfl rfl rfl ?_
      | refine wo_boolEq rfl rfl rfl rfl ?_
      | refine wo_boolNe rfl rfl rfl rfl ?_
      | refine wo_strNe rfl rfl rfl ?_
      | refine wo_on rfl ?_
      | refine wo_off rfl rfl ?_
      | refine wo_offn rfl ?_)
    refine ⟨rfl, _, rfl, ?_⟩
    repeat (first
      | (refine wd_pure rfl rfl rfl rfl rfl ?_
         repeat (first
           | refine wo_nil ?_
           | refine wo_move rfl rfl ?_
           | refine wo_assign rfl rfl ?_
           | refine wo_fieldAddr rfl rfl rfl ?_
           | refine wo_nilCheck rfl rfl ?_
           | refine wo_extract rfl rfl rfl ?_
           | refine wo_load rfl rfl rfl rfl (by assumption) rfl ?_
           | refine wo_eql rfl rfl rfl ?_
           | refine wo_neq rfl rfl rfl ?_
           | refine wo_lss rfl rfl rfl ?_
           | refine wo_gtr rfl rfl rfl ?_
           | refine wo_leq rfl rfl rfl ?_
           | refine wo_geq rfl rfl rfl ?_
           | refine wo_not rfl rfl ?_
           | refine wo_lenStr rfl rfl rfl ?_
           | refine wo_len rfl rfl rfl rfl ?_
           | refine wo_buildSlice rfl rfl rfl ?_
           | refine wo_build rfl rfl rfl ?_
           | refine wo_pick rfl rfl rfl ?_
           | refine wo_strEq rfl rfl rfl ?_
           | refine wo_boolEq rfl rfl rfl rfl ?_
           | refine wo_boolNe rfl rfl rfl rfl ?_
           | refine wo_strNe rfl rfl rfl ?_
           | refine wo_on rfl ?_
           | refine wo_off rfl rfl ?_
           | refine wo_offn rfl ?_)
         refine ⟨rfl, ?_⟩)
      | (refine wd_read rfl rfl rfl rfl rfl rfl rfl ?_
         repeat (first
           | refine wo_nil ?_
           | refine wo_move rfl rfl ?_
           | refine wo_assign rfl rfl ?_
           | refine wo_fieldAddr rfl rfl rfl ?_
           | refine wo_nilCheck rfl rfl ?_
           | refine wo_extract rfl rfl rfl ?_
           | refine wo_load rfl rfl rfl rfl (by assumption) rfl ?_
           | refine wo_eql rfl rfl rfl ?_
           | refine wo_neq rfl rfl rfl ?_
           | refine wo_lss rfl rfl rfl ?_
           | refine wo_gtr rfl rfl rfl ?_
           | refine wo_leq rfl rfl rfl ?_
           | refine wo_geq rfl rfl rfl ?_
           | refine wo_not rfl rfl ?_
           | refine wo_lenStr rfl rfl rfl ?_
           | refine wo_len rfl rfl rfl rfl ?_
           | refine wo_buildSlice rfl rfl rfl ?_
           | refine wo_build rfl rfl rfl ?_
           | refine wo_pick rfl rfl rfl ?_
           | refine wo_strEq rfl rfl rfl ?_
           | refine wo_boolEq rfl rfl rfl rfl ?_
           | refine wo_boolNe rfl rfl rfl rfl ?_
           | refine wo_strNe rfl rfl rfl ?_
           | refine wo_on rfl ?_
           | refine wo_off rfl rfl ?_
           | refine wo_offn rfl ?_)
         refine ⟨rfl, _, rfl, ?_⟩))
    refine wd_nil ?_
    refine wg_dec rfl (fun h => absurd rfl h) fun _ => ?_
    repeat (first
      | refine wg_seq ?_
      | refine wg_skip ?_
      | refine wg_block ?_
      | refine wg_scope ?_
      | refine wg_inBlock ?_
      | refine wg_inScope ?_
      | refine wg_region ?_
      | refine wo_nil ?_
      | refine wo_move rfl rfl ?_
      | refine wo_assign rfl rfl ?_
      | refine wo_fieldAddr rfl rfl rfl ?_
      | refine wo_nilCheck rfl rfl ?_
      | refine wo_extract rfl rfl rfl ?_
      | refine wo_load rfl rfl rfl rfl (by assumption) rfl ?_
      | refine wo_eql rfl rfl rfl ?_
      | refine wo_neq rfl rfl rfl ?_
      | refine wo_lss rfl rfl rfl ?_
      | refine wo_gtr rfl rfl rfl ?_
      | refine wo_leq rfl rfl rfl ?_
      | refine wo_geq rfl rfl rfl ?_
      | refine wo_not rfl rfl ?_
      | refine wo_lenStr rfl rfl rfl ?_
      | refine wo_len rfl rfl rfl rfl ?_
      | refine wo_buildSlice rfl rfl rfl ?_
      | refine wo_build rfl rfl rfl ?_
      | refine wo_pick rfl rfl rfl ?_
      | refine wo_strEq rfl rfl rfl ?_
      | refine wo_boolEq rfl rfl rfl rfl ?_
      | refine wo_boolNe rfl rfl rfl rfl ?_
      | refine wo_strNe rfl rfl rfl ?_
      | refine wo_on rfl ?_
      | refine wo_off rfl rfl ?_
      | refine wo_offn rfl ?_)
    refine wo_add rfl rfl rfl (by omega) (by omega) ?_
    repeat (first
      | refine wg_seq ?_
      | refine wg_skip ?_
      | refine wg_block ?_
      | refine wg_scope ?_
      | refine wg_inBlock ?_
      | refine wg_inScope ?_
      | refine wg_region ?_
      | refine wo_nil ?_
      | refine wo_move rfl rfl ?_
      | refine wo_assign rfl rfl ?_
      | refine wo_fieldAddr rfl rfl rfl ?_
      | refine wo_nilCheck rfl rfl ?_
      | refine wo_extract rfl rfl rfl ?_
      | refine wo_load rfl rfl rfl rfl (by assumption) rfl ?_
      | refine wo_eql rfl rfl rfl ?_
      | refine wo_neq rfl rfl rfl ?_
      | refine wo_lss rfl rfl rfl ?_
      | refine wo_gtr rfl rfl rfl ?_
      | refine wo_leq rfl rfl rfl ?_
      | refine wo_geq rfl rfl rfl ?_
      | refine wo_not rfl rfl ?_
      | refine wo_lenStr rfl rfl rfl ?_
      | refine wo_len rfl rfl rfl rfl ?_
      | refine wo_buildSlice rfl rfl rfl ?_
      | refine wo_build rfl rfl rfl ?_
      | refine wo_pick rfl rfl rfl ?_
      | refine wo_strEq rfl rfl rfl ?_
      | refine wo_boolEq rfl rfl rfl rfl ?_
      | refine wo_boolNe rfl rfl rfl rfl ?_
      | refine wo_strNe rfl rfl rfl ?_
      | refine wo_on rfl ?_
      | refine wo_off rfl rfl ?_
      | refine wo_offn rfl ?_)
    refine wg_inLoop ?_
    refine wg_le (.put 0 (.slice f t 0 l.length l.length false) (.put 1 (.slice f2 t2 0 l.length l.length false) (.put 5 (.int .i64 ((i + 1 : Nat) : Int)) .nil))) ?_ ⟨rfl, rfl, rfl, trivial⟩
    exact ih (i + 1) A1 (by omega) ⟨hlt, rfl⟩
  · refine wg_exit rfl ?_
    repeat (first
      | refine wg_seq ?_
      | refine wg_skip ?_
      | refine wg_block ?_
      | refine wg_scope ?_
      | refine wg_inBlock ?_
      | refine wg_inScope ?_
      | refine wg_region ?_
      | refine wo_nil ?_
      | refine wo_move rfl rfl ?_
      | refine wo_assign rfl rfl ?_
      | refine wo_fieldAddr rfl rfl rfl ?_
      | refine wo_nilCheck rfl rfl ?_
      | refine wo_extract rfl rfl rfl ?_
      | refine wo_load rfl rfl rfl rfl (by assumption) rfl ?_
      | refine wo_eql rfl rfl rfl ?_
      | refine wo_neq rfl rfl rfl ?_
      | refine wo_lss rfl rfl rfl ?_
      | refine wo_gtr rfl rfl rfl ?_
      | refine wo_leq rfl rfl rfl ?_
      | refine wo_geq rfl rfl rfl ?_
      | refine wo_not rfl rfl ?_
      | refine wo_lenStr rfl rfl rfl ?_
      | refine wo_len rfl rfl rfl rfl ?_
      | refine wo_buildSlice rfl rfl rfl ?_
      | refine wo_build rfl rfl rfl ?_
      | refine wo_pick rfl rfl rfl ?_
      | refine wo_strEq rfl rfl rfl ?_
      | refine wo_boolEq rfl rfl rfl rfl ?_
      | refine wo_boolNe rfl rfl rfl rfl ?_
      | refine wo_strNe rfl rfl rfl ?_
      | refine wo_on rfl ?_
      | refine wo_off rfl rfl ?_
      | refine wo_offn rfl ?_)
    exact wg_ret rfl ⟨rfl, rfl⟩
end Go.Proofs.Ytejmdglmldjliaa.Ae
