/-
  THREADS BEHAVE AS THE DOCUMENT TELLS: the law's walk.
-/
import Derived.Test.YtejmdglmldjliaaAiSyS9
namespace Go.Proofs.Ytejmdglmldjliaa.Ae
open Go.AE
set_option linter.unusedVariables false
set_option maxRecDepth 100000

/-- A step. -/
structure Stp where
  what : Int
  a : Int
  b : Int
def Stp.cells (x : Stp) : List AV := [.int .i64 x.what, .int .i64 x.a, .int .i64 x.b]
structure Stp.ok (x : Stp) : Prop where
  a1 : -9223372036854775808 ≤ x.a
  a2 : x.a < 9223372036854775808
  b1 : -9223372036854775808 ≤ x.b
  b2 : x.b < 9223372036854775808
theorem Stp.len (x : Stp) : x.cells.length = 3 := rfl

/-- Both schedulers, of the same threads. -/
structure Pair (A A1 : AW) (fs fr : Nat) (vs vj v : AV) (ts : List Th) : Prop where
  wf : Wf A1
  sc : Sc A1 fs vs vj ts
  rs : Rs A1 fr v ts
  dj : Disj (foot fs vs vj) (both (one fr) v.isFam)
  only : Only A A1 none'
  ow1 : ∀ g, foot fs vs vj g → A.nxt ≤ g
  ow2 : ∀ g, both (one fr) v.isFam g → A.nxt ≤ g
  few : ts.length ≤ 12
theorem Pair.quiet {A A1 A2 : AW} {fs fr : Nat} {vs vj v : AV} {ts : List Th} (h : Pair A A1 fs fr vs vj v ts) (ho : Only A1 A2 none') : Pair A A2 fs fr vs vj v ts :=
  ⟨ho.wf, h.sc.keep ho fun _ _ h => h, h.rs.keep ho fun _ _ h => h, h.dj, h.only.same ho, h.ow1, h.ow2, h.few⟩
theorem Pair.rs1 {A A1 A2 : AW} {fs fr : Nat} {vs vj v vs' vj' : AV} {ts us : List Th} (h : Pair A A1 fs fr vs vj v ts) (st : SStep A1 A2 fs vs vj vs' vj' us) : Rs A2 fr v ts := h.rs.keep st.only h.dj.symm
theorem Pair.step {A A1 A2 A3 : AW} {fs fr : Nat} {vs vj v vs' vj' v' : AV} {ts us : List Th} (hw : Wf A) (h : Pair A A1 fs fr vs vj v ts) (st : SStep A1 A2 fs vs vj vs' vj' us) (rt : RSt A2 A3 fr v v' us) (hf : us.length ≤ 12) : Pair A A3 fs fr vs' vj' v' us := by
  have u1 := h.rs.under h.wf
  have d1 : Disj (both (one fr) v.isFam) (foot fs vs' vj') := st.grow.disj h.dj.symm u1
  have u2 := st.sc.under st.only.wf
  have d2 : Disj (foot fs vs' vj') (both (one fr) v'.isFam) := rt.grow.disj d1.symm u2
  refine ⟨rt.only.wf, st.sc.keep rt.only d1.symm, rt.rs, d2, ⟨rt.only.wf, Nat.le_trans h.only.nxt (Nat.le_trans st.only.nxt rt.only.nxt), fun g F hg hn => ?_⟩, fun g hg => ?_, fun g hg => ?_, hf⟩
  · have hgn := hw g F hg
    refine rt.only.keep g F (st.only.keep g F (h.only.keep g F hg hn) fun e => ?_) fun e => ?_
    · have := h.ow1 g e
      omega
    · have := h.ow2 g e
      omega
  · rcases st.grow g hg with h' | h'
    · exact h.ow1 g h'
    · exact Nat.le_trans h.only.nxt h'
  · rcases rt.grow g hg with h' | h'
    · exact h.ow2 g h'
    · exact Nat.le_trans h.only.nxt (Nat.le_trans st.only.nxt h')

theorem spawnT_few {ts : List Th} (h : ts.length ≤ 12) : (spawnT ts).1.length ≤ 12 := by
  unfold spawnT
  split
  · exact h
  · simp only [List.length_append, List.length_singleton]
    omega
theorem setT_few {ts : List Th} {id s : Int} (h : ts.length ≤ 12) : (setT ts id s).1.length ≤ 12 := by
  unfold setT
  split
  · exact h
  · rw [List.length_set]; exact h
theorem joinT_few {ts : List Th} {id s : Int} (h : ts.length ≤ 12) : (joinT ts id s).1.length ≤ 12 := by
  unfold joinT
  split
  · exact h
  · split
    · exact h
    · rw [List.length_set]; exact h
theorem endT_few {ts : List Th} {id : Int} (h : ts.length ≤ 12) : (endT ts id).1.length ≤ 12 := by
  unfold endT
  split
  · exact h
  · rw [List.length_map, List.length_set]; exact h
theorem endT_out {ts : List Th} {id : Int} (h : ts.length ≤ 12) : (endT ts id).2.1.length ≤ 12 := by
  unfold endT
  split
  · exact Nat.zero_le _
  · have := selK_len (wakes id) (ts.set (id.toNat - 1) (5, (ts.getD (id.toNat - 1) (0, 0)).2)) (ts.set (id.toNat - 1) (5, (ts.getD (id.toNat - 1) (0, 0)).2)).length
    rw [List.length_set] at this
    simp only [List.length_set]
    omega
theorem stuckT_eq (ts : List Th) : stuckT ts = (!decide (∀ th ∈ ts, th.1 = 5) && decide ((readyT ts).length = 0)) := by
  unfold stuckT
  congr 1
  rw [← decide_not]
  refine decide_eq_decide.2 ⟨fun h => ?_, fun h hm => ?_⟩
  · rw [ready_count, List.countP_eq_zero]
    exact fun th hm hr => h (List.mem_map.2 ⟨th, hm, of_decide_eq_true hr⟩)
  · obtain ⟨th, h1, h2⟩ := List.mem_map.1 hm
    exact ready_none h th h1 h2

set_option maxHeartbeats 4000000 in
theorem plays_spec {A : AW} {v0 : AV} {items : List Stp} (hw : Wf A) (hrow : Row A 3 v0 items.length (items.flatMap Stp.cells)) (hok : ∀ x ∈ items, x.ok) :
    CallP (ES 31) 9 [v0] A fun r A1 => r = .bool true := by
  refine call_of rfl rfl rfl ?_
  repeat (first
    | refine wg_seq ?_
    | refine wg_skip ?_
    | refine wg_block ?_
    | refine wg_scope ?_
    | refine wg_inBlock ?_
    | refine wg_inScope ?_
    | refine wg_region ?_
    | refine wo_nil ?_
    | refine wo_move rfl rfl ?_
    | refine wo_assign rfl rfl ?_
    | refine wo_fieldAddr rfl rfl rfl ?_
    | refine wo_nilCheck rfl rfl ?_
    | refine wo_extract rfl rfl rfl ?_
    | refine wo_load rfl rfl rfl rfl (by assumption) rfl ?_
    | refine wo_eql rfl rfl rfl ?_
    | refine wo_neq rfl rfl rfl ?_
    | refine wo_lss rfl rfl rfl ?_
    | refine wo_gtr rfl rfl rfl ?_
    | refine wo_leq rfl rfl rfl ?_
    | refine wo_geq rfl rfl rfl ?_
    | refine wo_not rfl rfl ?_
    | refine wo_lenStr rfl rfl rfl ?_
    | refine wo_len rfl rfl rfl rfl ?_
    | refine wo_buildSlice rfl rfl rfl ?_
    | refine wo_build rfl rfl rfl ?_
    | refine wo_pick rfl rfl rfl ?_
    | refine wo_strEq rfl rfl rfl ?_
    | refine wo_boolEq rfl rfl rfl rfl ?_
    | refine wo_boolNe rfl rfl rfl rfl ?_
    | refine wo_strNe rfl rfl rfl ?_
    | refine wo_on rfl ?_
    | refine wo_off rfl rfl ?_
    | refine wo_offn rfl ?_)
  refine wo_orc rfl rfl rfl rfl ?_
  repeat (first
    | refine wg_seq ?_
    | refine wg_skip ?_
    | refine wg_block ?_
    | refine wg_scope ?_
    | refine wg_inBlock ?_
    | refine wg_inScope ?_
    | refine wg_region ?_
    | refine wo_nil ?_
    | refine wo_move rfl rfl ?_
    | refine wo_assign rfl rfl ?_
    | refine wo_fieldAddr rfl rfl rfl ?_
    | refine wo_nilCheck rfl rfl ?_
    | refine wo_extract rfl rfl rfl ?_
    | refine wo_load rfl rfl rfl rfl (by assumption) rfl ?_
    | refine wo_eql rfl rfl rfl ?_
    | refine wo_neq rfl rfl rfl ?_
    | refine wo_lss rfl rfl rfl ?_
    | refine wo_gtr rfl rfl rfl ?_
    | refine wo_leq rfl rfl rfl ?_
    | refine wo_geq rfl rfl rfl ?_
    | refine wo_not rfl rfl ?_
    | refine wo_lenStr rfl rfl rfl ?_
    | refine wo_len rfl rfl rfl rfl ?_
    | refine wo_buildSlice rfl rfl rfl ?_
    | refine wo_build rfl rfl rfl ?_
    | refine wo_pick rfl rfl rfl ?_
    | refine wo_strEq rfl rfl rfl ?_
    | refine wo_boolEq rfl rfl rfl rfl ?_
    | refine wo_boolNe rfl rfl rfl rfl ?_
    | refine wo_strNe rfl rfl rfl ?_
    | refine wo_on rfl ?_
    | refine wo_off rfl rfl ?_
    | refine wo_offn rfl ?_)
  refine wg_false rfl ?_
  repeat (first
    | refine wg_seq ?_
    | refine wg_skip ?_
    | refine wg_block ?_
    | refine wg_scope ?_
    | refine wg_inBlock ?_
    | refine wg_inScope ?_
    | refine wg_region ?_
    | refine wo_nil ?_
    | refine wo_move rfl rfl ?_
    | refine wo_assign rfl rfl ?_
    | refine wo_fieldAddr rfl rfl rfl ?_
    | refine wo_nilCheck rfl rfl ?_
    | refine wo_extract rfl rfl rfl ?_
    | refine wo_load rfl rfl rfl rfl (by assumption) rfl ?_
    | refine wo_eql rfl rfl rfl ?_
    | refine wo_neq rfl rfl rfl ?_
    | refine wo_lss rfl rfl rfl ?_
    | refine wo_gtr rfl rfl rfl ?_
    | refine wo_leq rfl rfl rfl ?_
    | refine wo_geq rfl rfl rfl ?_
    | refine wo_not rfl rfl ?_
    | refine wo_lenStr rfl rfl rfl ?_
    | refine wo_len rfl rfl rfl rfl ?_
    | refine wo_buildSlice rfl rfl rfl ?_
    | refine wo_build rfl rfl rfl ?_
    | refine wo_pick rfl rfl rfl ?_
    | refine wo_strEq rfl rfl rfl ?_
    | refine wo_boolEq rfl rfl rfl rfl ?_
    | refine wo_boolNe rfl rfl rfl rfl ?_
    | refine wo_strNe rfl rfl rfl ?_
    | refine wo_on rfl ?_
    | refine wo_off rfl rfl ?_
    | refine wo_offn rfl ?_)
  refine wo_len rfl rfl rfl hrow.lenV ?_
  repeat (first
    | refine wg_seq ?_
    | refine wg_skip ?_
    | refine wg_block ?_
    | refine wg_scope ?_
    | refine wg_inBlock ?_
    | refine wg_inScope ?_
    | refine wg_region ?_
    | refine wo_nil ?_
    | refine wo_move rfl rfl ?_
    | refine wo_assign rfl rfl ?_
    | refine wo_fieldAddr rfl rfl rfl ?_
    | refine wo_nilCheck rfl rfl ?_
    | refine wo_extract rfl rfl rfl ?_
    | refine wo_load rfl rfl rfl rfl (by assumption) rfl ?_
    | refine wo_eql rfl rfl rfl ?_
    | refine wo_neq rfl rfl rfl ?_
    | refine wo_lss rfl rfl rfl ?_
    | refine wo_gtr rfl rfl rfl ?_
    | refine wo_leq rfl rfl rfl ?_
    | refine wo_geq rfl rfl rfl ?_
    | refine wo_not rfl rfl ?_
    | refine wo_lenStr rfl rfl rfl ?_
    | refine wo_len rfl rfl rfl rfl ?_
    | refine wo_buildSlice rfl rfl rfl ?_
    | refine wo_build rfl rfl rfl ?_
    | refine wo_pick rfl rfl rfl ?_
    | refine wo_strEq rfl rfl rfl ?_
    | refine wo_boolEq rfl rfl rfl rfl ?_
    | refine wo_boolNe rfl rfl rfl rfl ?_
    | refine wo_strNe rfl rfl rfl ?_
    | refine wo_on rfl ?_
    | refine wo_off rfl rfl ?_
    | refine wo_offn rfl ?_)
  refine wg_dec rfl (fun h100 => ?_) fun h100 => ?_
  · repeat (first
      | refine wg_seq ?_
      | refine wg_skip ?_
      | refine wg_block ?_
      | refine wg_scope ?_
      | refine wg_inBlock ?_
      | refine wg_inScope ?_
      | refine wg_region ?_
      | refine wo_nil ?_
      | refine wo_move rfl rfl ?_
      | refine wo_assign rfl rfl ?_
      | refine wo_fieldAddr rfl rfl rfl ?_
      | refine wo_nilCheck rfl rfl ?_
      | refine wo_extract rfl rfl rfl ?_
      | refine wo_load rfl rfl rfl rfl (by assumption) rfl ?_
      | refine wo_eql rfl rfl rfl ?_
      | refine wo_neq rfl rfl rfl ?_
      | refine wo_lss rfl rfl rfl ?_
      | refine wo_gtr rfl rfl rfl ?_
      | refine wo_leq rfl rfl rfl ?_
      | refine wo_geq rfl rfl rfl ?_
      | refine wo_not rfl rfl ?_
      | refine wo_lenStr rfl rfl rfl ?_
      | refine wo_len rfl rfl rfl rfl ?_
      | refine wo_buildSlice rfl rfl rfl ?_
      | refine wo_build rfl rfl rfl ?_
      | refine wo_pick rfl rfl rfl ?_
      | refine wo_strEq rfl rfl rfl ?_
      | refine wo_boolEq rfl rfl rfl rfl ?_
      | refine wo_boolNe rfl rfl rfl rfl ?_
      | refine wo_strNe rfl rfl rfl ?_
      | refine wo_on rfl ?_
      | refine wo_off rfl rfl ?_
      | refine wo_offn rfl ?_)
    exact wg_ret rfl rfl
  have h100 : items.length ≤ 100 := by
    have : ¬ (100 : Int) < (items.length : Int) := h100
    omega
  repeat (first
    | refine wg_seq ?_
    | refine wg_skip ?_
    | refine wg_block ?_
    | refine wg_scope ?_
    | refine wg_inBlock ?_
    | refine wg_inScope ?_
    | refine wg_region ?_
    | refine wo_nil ?_
    | refine wo_move rfl rfl ?_
    | refine wo_assign rfl rfl ?_
    | refine wo_fieldAddr rfl rfl rfl ?_
    | refine wo_nilCheck rfl rfl ?_
    | refine wo_extract rfl rfl rfl ?_
    | refine wo_load rfl rfl rfl rfl (by assumption) rfl ?_
    | refine wo_eql rfl rfl rfl ?_
    | refine wo_neq rfl rfl rfl ?_
    | refine wo_lss rfl rfl rfl ?_
    | refine wo_gtr rfl rfl rfl ?_
    | refine wo_leq rfl rfl rfl ?_
    | refine wo_geq rfl rfl rfl ?_
    | refine wo_not rfl rfl ?_
    | refine wo_lenStr rfl rfl rfl ?_
    | refine wo_len rfl rfl rfl rfl ?_
    | refine wo_buildSlice rfl rfl rfl ?_
    | refine wo_build rfl rfl rfl ?_
    | refine wo_pick rfl rfl rfl ?_
    | refine wo_strEq rfl rfl rfl ?_
    | refine wo_boolEq rfl rfl rfl rfl ?_
    | refine wo_boolNe rfl rfl rfl rfl ?_
    | refine wo_strNe rfl rfl rfl ?_
    | refine wo_on rfl ?_
    | refine wo_off rfl rfl ?_
    | refine wo_offn rfl ?_)
  refine wo_call rfl rfl rfl rfl (snew_spec hw) ?_
  rintro r A1 ⟨rfl, hsc, ho⟩
  repeat (first
    | refine wg_seq ?_
    | refine wg_skip ?_
    | refine wg_block ?_
    | refine wg_scope ?_
    | refine wg_inBlock ?_
    | refine wg_inScope ?_
    | refine wg_region ?_
    | refine wo_nil ?_
    | refine wo_move rfl rfl ?_
    | refine wo_assign rfl rfl ?_
    | refine wo_fieldAddr rfl rfl rfl ?_
    | refine wo_nilCheck rfl rfl ?_
    | refine wo_extract rfl rfl rfl ?_
    | refine wo_load rfl rfl rfl rfl (by assumption) rfl ?_
    | refine wo_eql rfl rfl rfl ?_
    | refine wo_neq rfl rfl rfl ?_
    | refine wo_lss rfl rfl rfl ?_
    | refine wo_gtr rfl rfl rfl ?_
    | refine wo_leq rfl rfl rfl ?_
    | refine wo_geq rfl rfl rfl ?_
    | refine wo_not rfl rfl ?_
    | refine wo_lenStr rfl rfl rfl ?_
    | refine wo_len rfl rfl rfl rfl ?_
    | refine wo_buildSlice rfl rfl rfl ?_
    | refine wo_build rfl rfl rfl ?_
    | refine wo_pick rfl rfl rfl ?_
    | refine wo_strEq rfl rfl rfl ?_
    | refine wo_boolEq rfl rfl rfl rfl ?_
    | refine wo_boolNe rfl rfl rfl rfl ?_
    | refine wo_strNe rfl rfl rfl ?_
    | refine wo_on rfl ?_
    | refine wo_off rfl rfl ?_
    | refine wo_offn rfl ?_)
  refine wo_box rfl rfl rfl rfl ?_
  have oa : Only A1 (A1.add (.cells 0 false 1 [.nils])) none' := Only.add ho.wf _
  refine wo_A (fun A2 => Only A1 A2 none' ∧ A2.heap.get A1.nxt = some (.cells 0 false 1 [.nils])) ⟨oa, by rw [AW.add_get, if_pos rfl]; rfl⟩ ?_
  rintro A2 ⟨o2, hc2⟩
  have hne : A.nxt < A1.nxt := ho.wf _ _ hsc.cell
  generalize hfr : A1.nxt = fr at hc2 hne
  generalize hfs : A.nxt = fs at hsc hne
  have p0 : Pair A A2 fs fr .nils .nils .nils [] := by
    refine ⟨o2.wf, hsc.keep o2 fun _ _ h => h, ⟨hc2, .inl ⟨rfl, rfl, rfl⟩, fun h => h⟩, fun g h1 h2 => ?_, ho.same o2, fun g hg => ?_, fun g hg => ?_, Nat.zero_le _⟩
    · rcases h1 with h1 | h1 | h1
      · rcases h2 with h2 | h2
        · have h1 : g = fs := h1
          have h2 : g = fr := h2
          omega
        · exact h2.elim
      · exact h1.elim
      · exact h1.elim
    · rcases hg with hg | hg | hg
      · have hg : g = fs := hg
        omega
      · exact hg.elim
      · exact hg.elim
    · rcases hg with hg | hg
      · have hg : g = fr := hg
        omega
      · exact hg.elim
  repeat (first
    | refine wg_seq ?_
    | refine wg_skip ?_
    | refine wg_block ?_
    | refine wg_scope ?_
    | refine wg_inBlock ?_
    | refine wg_inScope ?_
    | refine wg_region ?_
    | refine wo_nil ?_
    | refine wo_move rfl rfl ?_
    | refine wo_assign rfl rfl ?_
    | refine wo_fieldAddr rfl rfl rfl ?_
    | refine wo_nilCheck rfl rfl ?_
    | refine wo_extract rfl rfl rfl ?_
    | refine wo_load rfl rfl rfl rfl (by assumption) rfl ?_
    | refine wo_eql rfl rfl rfl ?_
    | refine wo_neq rfl rfl rfl ?_
    | refine wo_lss rfl rfl rfl ?_
    | refine wo_gtr rfl rfl rfl ?_
    | refine wo_leq rfl rfl rfl ?_
    | refine wo_geq rfl rfl rfl ?_
    | refine wo_not rfl rfl ?_
    | refine wo_lenStr rfl rfl rfl ?_
    | refine wo_len rfl rfl rfl rfl ?_
    | refine wo_buildSlice rfl rfl rfl ?_
    | refine wo_build rfl rfl rfl ?_
    | refine wo_pick rfl rfl rfl ?_
    | refine wo_strEq rfl rfl rfl ?_
    | refine wo_boolEq rfl rfl rfl rfl ?_
    | refine wo_boolNe rfl rfl rfl rfl ?_
    | refine wo_strNe rfl rfl rfl ?_
    | refine wo_on rfl ?_
    | refine wo_off rfl rfl ?_
    | refine wo_offn rfl ?_)
  refine wg_loop ?_
  refine wg_le (.put 0 v0 (.put 3 (.ptr fs 0 0) (.put 4 (.ptr fr 0 0) (.put 5 (.int .i64 ((0 : Nat) : Int)) .nil)))) ?_ ⟨rfl, rfl, by rw [← hfr]; rfl, rfl, trivial⟩
  refine wg_ind (ι := Nat × AV × AV × AV × List Th) (fun i => items.length - i.1) (fun i => .put 0 v0 (.put 3 (.ptr fs 0 0) (.put 4 (.ptr fr 0 0) (.put 5 (.int .i64 (i.1 : Int)) .nil))))
    (fun i A1 => i.1 ≤ items.length ∧ Pair A A1 fs fr i.2.1 i.2.2.1 i.2.2.2.1 i.2.2.2.2) ?_ (0, .nils, .nils, .nils, []) A2 ⟨Nat.zero_le _, p0⟩
  clear p0 hc2 o2 oa hsc ho hfr hfs hne
  rintro ⟨i, vs, vj, v, ts⟩ A1 ⟨hi, p1⟩ ih
  have hi : i ≤ items.length := hi
  have p1 : Pair A A1 fs fr vs vj v ts := p1
  have hrow1 := hrow.keep p1.only fun _ _ h => h
  repeat (first
    | refine wg_seq ?_
    | refine wg_skip ?_
    | refine wg_block ?_
    | refine wg_scope ?_
    | refine wg_inBlock ?_
    | refine wg_inScope ?_
    | refine wg_region ?_
    | refine wo_nil ?_
    | refine wo_move rfl rfl ?_
    | refine wo_assign rfl rfl ?_
    | refine wo_fieldAddr rfl rfl rfl ?_
    | refine wo_nilCheck rfl rfl ?_
    | refine wo_extract rfl rfl rfl ?_
    | refine wo_load rfl rfl rfl rfl (by assumption) rfl ?_
    | refine wo_eql rfl rfl rfl ?_
    | refine wo_neq rfl rfl rfl ?_
    | refine wo_lss rfl rfl rfl ?_
    | refine wo_gtr rfl rfl rfl ?_
    | refine wo_leq rfl rfl rfl ?_
    | refine wo_geq rfl rfl rfl ?_
    | refine wo_not rfl rfl ?_
    | refine wo_lenStr rfl rfl rfl ?_
    | refine wo_len rfl rfl rfl rfl ?_
    | refine wo_buildSlice rfl rfl rfl ?_
    | refine wo_build rfl rfl rfl ?_
    | refine wo_pick rfl rfl rfl ?_
    | refine wo_strEq rfl rfl rfl ?_
    | refine wo_boolEq rfl rfl rfl rfl ?_
    | refine wo_boolNe rfl rfl rfl rfl ?_
    | refine wo_strNe rfl rfl rfl ?_
    | refine wo_on rfl ?_
    | refine wo_off rfl rfl ?_
    | refine wo_offn rfl ?_)
  refine wo_len rfl rfl rfl hrow1.lenV ?_
  repeat (first
    | refine wg_seq ?_
    | refine wg_skip ?_
    | refine wg_block ?_
    | refine wg_scope ?_
    | refine wg_inBlock ?_
    | refine wg_inScope ?_
    | refine wg_region ?_
    | refine wo_nil ?_
    | refine wo_move rfl rfl ?_
    | refine wo_assign rfl rfl ?_
    | refine wo_fieldAddr rfl rfl rfl ?_
    | refine wo_nilCheck rfl rfl ?_
    | refine wo_extract rfl rfl rfl ?_
    | refine wo_load rfl rfl rfl rfl (by assumption) rfl ?_
    | refine wo_eql rfl rfl rfl ?_
    | refine wo_neq rfl rfl rfl ?_
    | refine wo_lss rfl rfl rfl ?_
    | refine wo_gtr rfl rfl rfl ?_
    | refine wo_leq rfl rfl rfl ?_
    | refine wo_geq rfl rfl rfl ?_
    | refine wo_not rfl rfl ?_
    | refine wo_lenStr rfl rfl rfl ?_
    | refine wo_len rfl rfl rfl rfl ?_
    | refine wo_buildSlice rfl rfl rfl ?_
    | refine wo_build rfl rfl rfl ?_
    | refine wo_pick rfl rfl rfl ?_
    | refine wo_strEq rfl rfl rfl ?_
    | refine wo_boolEq rfl rfl rfl rfl ?_
    | refine wo_boolNe rfl rfl rfl rfl ?_
    | refine wo_strNe rfl rfl rfl ?_
    | refine wo_on rfl ?_
    | refine wo_off rfl rfl ?_
    | refine wo_offn rfl ?_)
  refine wg_dec rfl (fun hlt => ?_) fun hge => ?_
  · have hil : i < items.length := Int.ofNat_lt.1 hlt
    obtain ⟨x, hx⟩ : ∃ x, items[i]? = some x := ⟨items[i], List.getElem?_eq_getElem hil⟩
    have xok := hok x (List.mem_of_getElem? hx)
    obtain ⟨f, t, o, c, ex, ro, all, rfl, hh, hat⟩ := hrow1.at hil
    repeat (first
      | refine wg_seq ?_
      | refine wg_skip ?_
      | refine wg_block ?_
      | refine wg_scope ?_
      | refine wg_inBlock ?_
      | refine wg_inScope ?_
      | refine wg_region ?_
      | refine wo_nil ?_
      | refine wo_move rfl rfl ?_
      | refine wo_assign rfl rfl ?_
      | refine wo_fieldAddr rfl rfl rfl ?_
      | refine wo_nilCheck rfl rfl ?_
      | refine wo_extract rfl rfl rfl ?_
      | refine wo_load rfl rfl rfl rfl (by assumption) rfl ?_
      | refine wo_eql rfl rfl rfl ?_
      | refine wo_neq rfl rfl rfl ?_
      | refine wo_lss rfl rfl rfl ?_
      | refine wo_gtr rfl rfl rfl ?_
      | refine wo_leq rfl rfl rfl ?_
      | refine wo_geq rfl rfl rfl ?_
      | refine wo_not rfl rfl ?_
      | refine wo_lenStr rfl rfl rfl ?_
      | refine wo_len rfl rfl rfl rfl ?_
      | refine wo_buildSlice rfl rfl rfl ?_
      | refine wo_build rfl rfl rfl ?_
      | refine wo_pick rfl rfl rfl ?_
      | refine wo_strEq rfl rfl rfl ?_
      | refine wo_boolEq rfl rfl rfl rfl ?_
      | refine wo_boolNe rfl rfl rfl rfl ?_
      | refine wo_strNe rfl rfl rfl ?_
      | refine wo_on rfl ?_
      | refine wo_off rfl rfl ?_
      | refine wo_offn rfl ?_)
    refine wo_indexAddr i rfl rfl rfl rfl rfl hil ?_
    refine wo_loadN (vs := x.cells) rfl rfl rfl rfl hh ?_ ?_
    · refine (hat 3 0 (Nat.le_refl _)).trans ?_
      rw [take_flat Stp.len hx 3 0 (Nat.le_refl _)]
      rfl
    refine wo_alloc rfl rfl rfl ?_
    refine wo_store rfl rfl rfl rfl rfl rfl (by rw [AW.add_get, if_pos rfl]) rfl ?_
    refine wo_A (fun A2 => Only A1 A2 none' ∧ A2.heap.get A1.nxt = some (.cells 0 false 3 x.cells)) ⟨?_, by rw [AW.put_get, if_pos rfl]; rfl⟩ ?_
    · have oa : Only A1 (A1.add (.cells 0 false (esOf (ES 31) d81) [.int .i64 0, .int .i64 0, .int .i64 0])) none' := Only.add p1.wf _
      have op := Only.put (x := .cells 0 false (esOf (ES 31) d81) x.cells) oa.wf (f := A1.nxt) (Nat.lt_succ_self _)
      exact ⟨op.wf, Nat.le_trans oa.nxt op.nxt, fun g F hg hn => op.keep g F (oa.keep g F hg hn) fun e => by
        have := p1.wf g F hg
        cases e
        omega⟩
    rintro A2 ⟨o2, hx2⟩
    have p2 := p1.quiet o2
    have u1 : ∀ g, foot fs vs vj g → g ≠ A1.nxt := fun g hg e => by
      have := p1.sc.under p1.wf g hg
      omega
    have u2 : ∀ g, both (one fr) v.isFam g → g ≠ A1.nxt := fun g hg e => by
      have := p1.rs.under p1.wf g hg
      omega
    generalize A1.nxt = fx at hx2 u1 u2
    repeat (first
      | refine wo_nil ?_
      | refine wo_move rfl rfl ?_
      | refine wo_assign rfl rfl ?_
      | refine wo_fieldAddr rfl rfl rfl ?_
      | refine wo_nilCheck rfl rfl ?_
      | refine wo_extract rfl rfl rfl ?_
      | refine wo_load rfl rfl rfl rfl (by assumption) rfl ?_
      | refine wo_eql rfl rfl rfl ?_
      | refine wo_neq rfl rfl rfl ?_
      | refine wo_lss rfl rfl rfl ?_
      | refine wo_gtr rfl rfl rfl ?_
      | refine wo_leq rfl rfl rfl ?_
      | refine wo_geq rfl rfl rfl ?_
      | refine wo_not rfl rfl ?_
      | refine wo_lenStr rfl rfl rfl ?_
      | refine wo_len rfl rfl rfl rfl ?_
      | refine wo_buildSlice rfl rfl rfl ?_
      | refine wo_build rfl rfl rfl ?_
      | refine wo_pick rfl rfl rfl ?_
      | refine wo_strEq rfl rfl rfl ?_
      | refine wo_boolEq rfl rfl rfl rfl ?_
      | refine wo_boolNe rfl rfl rfl rfl ?_
      | refine wo_strNe rfl rfl rfl ?_
      | refine wo_on rfl ?_
      | refine wo_off rfl rfl ?_
      | refine wo_offn rfl ?_)
    refine wg_seq ?_
    refine wg_cut (fun l3 A3 => (∃ vs' vj' v' us, Pair A A3 fs fr vs' vj' v' us ∧ A3.heap.get fx = some (.cells 0 false 3 x.cells)) ∧
      Kn.le (.put 0 (.slice f t o items.length c ex) (.put 3 (.ptr fs 0 0) (.put 4 (.ptr fr 0 0) (.put 5 (.int .i64 (i : Int)) (.put 6 (.ptr fx 0 0) .nil))))) l3) ?_ ?_
    · intro k' fin
      have k34 : ∀ {A3 A4 : AW} {vs' vj' v' : AV} {us ws : List Th}, SStep A2 A3 fs vs vj vs' vj' us → RSt A3 A4 fr v v' ws → A4.heap.get fx = some (.cells 0 false 3 x.cells) := fun st rt =>
        rt.only.keep fx _ (st.only.keep fx _ hx2 fun e => u1 fx e rfl) fun e => u2 fx e rfl
      repeat (first
        | refine wg_seq ?_
        | refine wg_skip ?_
        | refine wg_block ?_
        | refine wg_scope ?_
        | refine wg_inBlock ?_
        | refine wg_inScope ?_
        | refine wg_region ?_
        | refine wo_nil ?_
        | refine wo_move rfl rfl ?_
        | refine wo_assign rfl rfl ?_
        | refine wo_fieldAddr rfl rfl rfl ?_
        | refine wo_nilCheck rfl rfl ?_
        | refine wo_extract rfl rfl rfl ?_
        | refine wo_load rfl rfl rfl rfl (by assumption) rfl ?_
        | refine wo_eql rfl rfl rfl ?_
        | refine wo_neq rfl rfl rfl ?_
        | refine wo_lss rfl rfl rfl ?_
        | refine wo_gtr rfl rfl rfl ?_
        | refine wo_leq rfl rfl rfl ?_
        | refine wo_geq rfl rfl rfl ?_
        | refine wo_not rfl rfl ?_
        | refine wo_lenStr rfl rfl rfl ?_
        | refine wo_len rfl rfl rfl rfl ?_
        | refine wo_buildSlice rfl rfl rfl ?_
        | refine wo_build rfl rfl rfl ?_
        | refine wo_pick rfl rfl rfl ?_
        | refine wo_strEq rfl rfl rfl ?_
        | refine wo_boolEq rfl rfl rfl rfl ?_
        | refine wo_boolNe rfl rfl rfl rfl ?_
        | refine wo_strNe rfl rfl rfl ?_
        | refine wo_on rfl ?_
        | refine wo_off rfl rfl ?_
        | refine wo_offn rfl ?_)
      refine wg_dec rfl (fun w1 => ?_) fun w1 => ?_
      · repeat (first
          | refine wg_seq ?_
          | refine wg_skip ?_
          | refine wg_block ?_
          | refine wg_scope ?_
          | refine wg_inBlock ?_
          | refine wg_inScope ?_
          | refine wg_region ?_
          | refine wo_nil ?_
          | refine wo_move rfl rfl ?_
          | refine wo_assign rfl rfl ?_
          | refine wo_fieldAddr rfl rfl rfl ?_
          | refine wo_nilCheck rfl rfl ?_
          | refine wo_extract rfl rfl rfl ?_
          | refine wo_load rfl rfl rfl rfl (by assumption) rfl ?_
          | refine wo_eql rfl rfl rfl ?_
          | refine wo_neq rfl rfl rfl ?_
          | refine wo_lss rfl rfl rfl ?_
          | refine wo_gtr rfl rfl rfl ?_
          | refine wo_leq rfl rfl rfl ?_
          | refine wo_geq rfl rfl rfl ?_
          | refine wo_not rfl rfl ?_
          | refine wo_lenStr rfl rfl rfl ?_
          | refine wo_len rfl rfl rfl rfl ?_
          | refine wo_buildSlice rfl rfl rfl ?_
          | refine wo_build rfl rfl rfl ?_
          | refine wo_pick rfl rfl rfl ?_
          | refine wo_strEq rfl rfl rfl ?_
          | refine wo_boolEq rfl rfl rfl rfl ?_
          | refine wo_boolNe rfl rfl rfl rfl ?_
          | refine wo_strNe rfl rfl rfl ?_
          | refine wo_on rfl ?_
          | refine wo_off rfl rfl ?_
          | refine wo_offn rfl ?_)
        refine wo_call rfl rfl orc_cons rfl (spawn_spec p2.wf p2.sc) ?_
        rintro r A3 ⟨rfl, vs', vj', st⟩
        repeat (first
          | refine wg_seq ?_
          | refine wg_skip ?_
          | refine wg_block ?_
          | refine wg_scope ?_
          | refine wg_inBlock ?_
          | refine wg_inScope ?_
          | refine wg_region ?_
          | refine wo_nil ?_
          | refine wo_move rfl rfl ?_
          | refine wo_assign rfl rfl ?_
          | refine wo_fieldAddr rfl rfl rfl ?_
          | refine wo_nilCheck rfl rfl ?_
          | refine wo_extract rfl rfl rfl ?_
          | refine wo_load rfl rfl rfl rfl (by assumption) rfl ?_
          | refine wo_eql rfl rfl rfl ?_
          | refine wo_neq rfl rfl rfl ?_
          | refine wo_lss rfl rfl rfl ?_
          | refine wo_gtr rfl rfl rfl ?_
          | refine wo_leq rfl rfl rfl ?_
          | refine wo_geq rfl rfl rfl ?_
          | refine wo_not rfl rfl ?_
          | refine wo_lenStr rfl rfl rfl ?_
          | refine wo_len rfl rfl rfl rfl ?_
          | refine wo_buildSlice rfl rfl rfl ?_
          | refine wo_build rfl rfl rfl ?_
          | refine wo_pick rfl rfl rfl ?_
          | refine wo_strEq rfl rfl rfl ?_
          | refine wo_boolEq rfl rfl rfl rfl ?_
          | refine wo_boolNe rfl rfl rfl rfl ?_
          | refine wo_strNe rfl rfl rfl ?_
          | refine wo_on rfl ?_
          | refine wo_off rfl rfl ?_
          | refine wo_offn rfl ?_)
        refine wo_call rfl rfl orc_cons rfl (rspawn_spec st.only.wf (p2.rs1 st)) ?_
        rintro r A4 ⟨rfl, v', rt⟩
        repeat (first
          | refine wg_seq ?_
          | refine wg_skip ?_
          | refine wg_block ?_
          | refine wg_scope ?_
          | refine wg_inBlock ?_
          | refine wg_inScope ?_
          | refine wg_region ?_
          | refine wo_nil ?_
          | refine wo_move rfl rfl ?_
          | refine wo_assign rfl rfl ?_
          | refine wo_fieldAddr rfl rfl rfl ?_
          | refine wo_nilCheck rfl rfl ?_
          | refine wo_extract rfl rfl rfl ?_
          | refine wo_load rfl rfl rfl rfl (by assumption) rfl ?_
          | refine wo_eql rfl rfl rfl ?_
          | refine wo_neq rfl rfl rfl ?_
          | refine wo_lss rfl rfl rfl ?_
          | refine wo_gtr rfl rfl rfl ?_
          | refine wo_leq rfl rfl rfl ?_
          | refine wo_geq rfl rfl rfl ?_
          | refine wo_not rfl rfl ?_
          | refine wo_lenStr rfl rfl rfl ?_
          | refine wo_len rfl rfl rfl rfl ?_
          | refine wo_buildSlice rfl rfl rfl ?_
          | refine wo_build rfl rfl rfl ?_
          | refine wo_pick rfl rfl rfl ?_
          | refine wo_strEq rfl rfl rfl ?_
          | refine wo_boolEq rfl rfl rfl rfl ?_
          | refine wo_boolNe rfl rfl rfl rfl ?_
          | refine wo_strNe rfl rfl rfl ?_
          | refine wo_on rfl ?_
          | refine wo_off rfl rfl ?_
          | refine wo_offn rfl ?_)
        refine wo_is 59 false rfl (decide_eq_false fun h => h rfl) ?_
        repeat (first
          | refine wg_seq ?_
          | refine wg_skip ?_
          | refine wg_block ?_
          | refine wg_scope ?_
          | refine wg_inBlock ?_
          | refine wg_inScope ?_
          | refine wg_region ?_
          | refine wo_nil ?_
          | refine wo_move rfl rfl ?_
          | refine wo_assign rfl rfl ?_
          | refine wo_fieldAddr rfl rfl rfl ?_
          | refine wo_nilCheck rfl rfl ?_
          | refine wo_extract rfl rfl rfl ?_
          | refine wo_load rfl rfl rfl rfl (by assumption) rfl ?_
          | refine wo_eql rfl rfl rfl ?_
          | refine wo_neq rfl rfl rfl ?_
          | refine wo_lss rfl rfl rfl ?_
          | refine wo_gtr rfl rfl rfl ?_
          | refine wo_leq rfl rfl rfl ?_
          | refine wo_geq rfl rfl rfl ?_
          | refine wo_not rfl rfl ?_
          | refine wo_lenStr rfl rfl rfl ?_
          | refine wo_len rfl rfl rfl rfl ?_
          | refine wo_buildSlice rfl rfl rfl ?_
          | refine wo_build rfl rfl rfl ?_
          | refine wo_pick rfl rfl rfl ?_
          | refine wo_strEq rfl rfl rfl ?_
          | refine wo_boolEq rfl rfl rfl rfl ?_
          | refine wo_boolNe rfl rfl rfl rfl ?_
          | refine wo_strNe rfl rfl rfl ?_
          | refine wo_on rfl ?_
          | refine wo_off rfl rfl ?_
          | refine wo_offn rfl ?_)
        refine wg_dec rfl (fun h => absurd rfl h) fun _ => ?_
        repeat (first
          | refine wg_seq ?_
          | refine wg_skip ?_
          | refine wg_block ?_
          | refine wg_scope ?_
          | refine wg_inBlock ?_
          | refine wg_inScope ?_
          | refine wg_region ?_
          | refine wo_nil ?_
          | refine wo_move rfl rfl ?_
          | refine wo_assign rfl rfl ?_
          | refine wo_fieldAddr rfl rfl rfl ?_
          | refine wo_nilCheck rfl rfl ?_
          | refine wo_extract rfl rfl rfl ?_
          | refine wo_load rfl rfl rfl rfl (by assumption) rfl ?_
          | refine wo_eql rfl rfl rfl ?_
          | refine wo_neq rfl rfl rfl ?_
          | refine wo_lss rfl rfl rfl ?_
          | refine wo_gtr rfl rfl rfl ?_
          | refine wo_leq rfl rfl rfl ?_
          | refine wo_geq rfl rfl rfl ?_
          | refine wo_not rfl rfl ?_
          | refine wo_lenStr rfl rfl rfl ?_
          | refine wo_len rfl rfl rfl rfl ?_
          | refine wo_buildSlice rfl rfl rfl ?_
          | refine wo_build rfl rfl rfl ?_
          | refine wo_pick rfl rfl rfl ?_
          | refine wo_strEq rfl rfl rfl ?_
          | refine wo_boolEq rfl rfl rfl rfl ?_
          | refine wo_boolNe rfl rfl rfl rfl ?_
          | refine wo_strNe rfl rfl rfl ?_
          | refine wo_on rfl ?_
          | refine wo_off rfl rfl ?_
          | refine wo_offn rfl ?_)
        exact fin _ _ ⟨⟨vs', vj', v', _, p2.step hw st rt (spawnT_few p2.few), k34 st rt⟩, rfl, rfl, rfl, rfl, rfl, trivial⟩
      repeat (first
        | refine wg_seq ?_
        | refine wg_skip ?_
        | refine wg_block ?_
        | refine wg_scope ?_
        | refine wg_inBlock ?_
        | refine wg_inScope ?_
        | refine wg_region ?_
        | refine wo_nil ?_
        | refine wo_move rfl rfl ?_
        | refine wo_assign rfl rfl ?_
        | refine wo_fieldAddr rfl rfl rfl ?_
        | refine wo_nilCheck rfl rfl ?_
        | refine wo_extract rfl rfl rfl ?_
        | refine wo_load rfl rfl rfl rfl (by assumption) rfl ?_
        | refine wo_eql rfl rfl rfl ?_
        | refine wo_neq rfl rfl rfl ?_
        | refine wo_lss rfl rfl rfl ?_
        | refine wo_gtr rfl rfl rfl ?_
        | refine wo_leq rfl rfl rfl ?_
        | refine wo_geq rfl rfl rfl ?_
        | refine wo_not rfl rfl ?_
        | refine wo_lenStr rfl rfl rfl ?_
        | refine wo_len rfl rfl rfl rfl ?_
        | refine wo_buildSlice rfl rfl rfl ?_
        | refine wo_build rfl rfl rfl ?_
        | refine wo_pick rfl rfl rfl ?_
        | refine wo_strEq rfl rfl rfl ?_
        | refine wo_boolEq rfl rfl rfl rfl ?_
        | refine wo_boolNe rfl rfl rfl rfl ?_
        | refine wo_strNe rfl rfl rfl ?_
        | refine wo_on rfl ?_
        | refine wo_off rfl rfl ?_
        | refine wo_offn rfl ?_)
      refine wg_dec rfl (fun w2 => ?_) fun w2 => ?_
      · repeat (first
          | refine wg_seq ?_
          | refine wg_skip ?_
          | refine wg_block ?_
          | refine wg_scope ?_
          | refine wg_inBlock ?_
          | refine wg_inScope ?_
          | refine wg_region ?_
          | refine wo_nil ?_
          | refine wo_move rfl rfl ?_
          | refine wo_assign rfl rfl ?_
          | refine wo_fieldAddr rfl rfl rfl ?_
          | refine wo_nilCheck rfl rfl ?_
          | refine wo_extract rfl rfl rfl ?_
          | refine wo_load rfl rfl rfl rfl (by assumption) rfl ?_
          | refine wo_eql rfl rfl rfl ?_
          | refine wo_neq rfl rfl rfl ?_
          | refine wo_lss rfl rfl rfl ?_
          | refine wo_gtr rfl rfl rfl ?_
          | refine wo_leq rfl rfl rfl ?_
          | refine wo_geq rfl rfl rfl ?_
          | refine wo_not rfl rfl ?_
          | refine wo_lenStr rfl rfl rfl ?_
          | refine wo_len rfl rfl rfl rfl ?_
          | refine wo_buildSlice rfl rfl rfl ?_
          | refine wo_build rfl rfl rfl ?_
          | refine wo_pick rfl rfl rfl ?_
          | refine wo_strEq rfl rfl rfl ?_
          | refine wo_boolEq rfl rfl rfl rfl ?_
          | refine wo_boolNe rfl rfl rfl rfl ?_
          | refine wo_strNe rfl rfl rfl ?_
          | refine wo_on rfl ?_
          | refine wo_off rfl rfl ?_
          | refine wo_offn rfl ?_)
        refine wg_draw rfl ?_
        repeat (first
          | (refine wd_pure rfl rfl rfl rfl rfl ?_
             repeat (first
               | refine wo_nil ?_
               | refine wo_move rfl rfl ?_
               | refine wo_assign rfl rfl ?_
               | refine wo_fieldAddr rfl rfl rfl ?_
               | refine wo_nilCheck rfl rfl ?_
               | refine wo_extract rfl rfl rfl ?_
               | refine wo_load rfl rfl rfl rfl (by assumption) rfl ?_
               | refine wo_eql rfl rfl rfl ?_
               | refine wo_neq rfl rfl rfl ?_
               | refine wo_lss rfl rfl rfl ?_
               | refine wo_gtr rfl rfl rfl ?_
               | refine wo_leq rfl rfl rfl ?_
               | refine wo_geq rfl rfl rfl ?_
               | refine wo_not rfl rfl ?_
               | refine wo_lenStr rfl rfl rfl ?_
               | refine wo_len rfl rfl rfl rfl ?_
               | refine wo_buildSlice rfl rfl rfl ?_
               | refine wo_build rfl rfl rfl ?_
               | refine wo_pick rfl rfl rfl ?_
               | refine wo_strEq rfl rfl rfl ?_
               | refine wo_boolEq rfl rfl rfl rfl ?_
               | refine wo_boolNe rfl rfl rfl rfl ?_
               | refine wo_strNe rfl rfl rfl ?_
               | refine wo_on rfl ?_
               | refine wo_off rfl rfl ?_
               | refine wo_offn rfl ?_)
             refine ⟨rfl, ?_⟩)
          | (refine wd_read rfl rfl rfl rfl rfl rfl rfl ?_
             repeat (first
               | refine wo_nil ?_
               | refine wo_move rfl rfl ?_
               | refine wo_assign rfl rfl ?_
               | refine wo_fieldAddr rfl rfl rfl ?_
               | refine wo_nilCheck rfl rfl ?_
               | refine wo_extract rfl rfl rfl ?_
               | refine wo_load rfl rfl rfl rfl (by assumption) rfl ?_
               | refine wo_eql rfl rfl rfl ?_
               | refine wo_neq rfl rfl rfl ?_
               | refine wo_lss rfl rfl rfl ?_
               | refine wo_gtr rfl rfl rfl ?_
               | refine wo_leq rfl rfl rfl ?_
               | refine wo_geq rfl rfl rfl ?_
               | refine wo_not rfl rfl ?_
               | refine wo_lenStr rfl rfl rfl ?_
               | refine wo_len rfl rfl rfl rfl ?_
               | refine wo_buildSlice rfl rfl rfl ?_
               | refine wo_build rfl rfl rfl ?_
               | refine wo_pick rfl rfl rfl ?_
               | refine wo_strEq rfl rfl rfl ?_
               | refine wo_boolEq rfl rfl rfl rfl ?_
               | refine wo_boolNe rfl rfl rfl rfl ?_
               | refine wo_strNe rfl rfl rfl ?_
               | refine wo_on rfl ?_
               | refine wo_off rfl rfl ?_
               | refine wo_offn rfl ?_)
             refine ⟨rfl, _, rfl, ?_⟩))
        refine wd_act rfl rfl rfl ?_
        refine wo_call rfl rfl orc_cons rfl (set_spec p2.wf p2.sc xok.a1 xok.a2) ?_
        rintro r A3 ⟨rfl, st⟩
        have hx3 := st.only.keep fx _ hx2 fun e => u1 fx e rfl
        repeat (first
          | refine wo_nil ?_
          | refine wo_move rfl rfl ?_
          | refine wo_assign rfl rfl ?_
          | refine wo_fieldAddr rfl rfl rfl ?_
          | refine wo_nilCheck rfl rfl ?_
          | refine wo_extract rfl rfl rfl ?_
          | refine wo_load rfl rfl rfl rfl (by assumption) rfl ?_
          | refine wo_eql rfl rfl rfl ?_
          | refine wo_neq rfl rfl rfl ?_
          | refine wo_lss rfl rfl rfl ?_
          | refine wo_gtr rfl rfl rfl ?_
          | refine wo_leq rfl rfl rfl ?_
          | refine wo_geq rfl rfl rfl ?_
          | refine wo_not rfl rfl ?_
          | refine wo_lenStr rfl rfl rfl ?_
          | refine wo_len rfl rfl rfl rfl ?_
          | refine wo_buildSlice rfl rfl rfl ?_
          | refine wo_build rfl rfl rfl ?_
          | refine wo_pick rfl rfl rfl ?_
          | refine wo_strEq rfl rfl rfl ?_
          | refine wo_boolEq rfl rfl rfl rfl ?_
          | refine wo_boolNe rfl rfl rfl rfl ?_
          | refine wo_strNe rfl rfl rfl ?_
          | refine wo_on rfl ?_
          | refine wo_off rfl rfl ?_
          | refine wo_offn rfl ?_)
        refine ⟨⟨.inr ⟨fun F hF => ?_, stillInt⟩, .inr ⟨fun F hF => ?_, stillInt⟩, .inl (by show bit 31 4 = true; rfl), .inl (by show bit 31 2 = true; rfl), trivial⟩, ?_⟩
        · show liftR (loadA (ES 31) 3 (ev F (.tmp 77)) A3) = _
          rw [hF.ev (x := .tmp 77) (v := .ptr fx 0 2) rfl, loadA_eq (v := .int .i64 x.b) rfl rfl hx3 rfl]
          rfl
        · show liftR (loadA (ES 31) 3 (ev F (.tmp 75)) A3) = _
          rw [hF.ev (x := .tmp 75) (v := .ptr fx 0 1) rfl, loadA_eq (v := .int .i64 x.a) rfl rfl hx3 rfl]
          rfl
        refine wd_act rfl rfl rfl ?_
        refine wo_call rfl rfl orc_cons rfl (rset_spec st.only.wf (p2.rs1 st) xok.a1 xok.a2) ?_
        rintro r A4 ⟨rfl, rt⟩
        repeat (first
          | refine wo_nil ?_
          | refine wo_move rfl rfl ?_
          | refine wo_assign rfl rfl ?_
          | refine wo_fieldAddr rfl rfl rfl ?_
          | refine wo_nilCheck rfl rfl ?_
          | refine wo_extract rfl rfl rfl ?_
          | refine wo_load rfl rfl rfl rfl (by assumption) rfl ?_
          | refine wo_eql rfl rfl rfl ?_
          | refine wo_neq rfl rfl rfl ?_
          | refine wo_lss rfl rfl rfl ?_
          | refine wo_gtr rfl rfl rfl ?_
          | refine wo_leq rfl rfl rfl ?_
          | refine wo_geq rfl rfl rfl ?_
          | refine wo_not rfl rfl ?_
          | refine wo_lenStr rfl rfl rfl ?_
          | refine wo_len rfl rfl rfl rfl ?_
          | refine wo_buildSlice rfl rfl rfl ?_
          | refine wo_build rfl rfl rfl ?_
          | refine wo_pick rfl rfl rfl ?_
          | refine wo_strEq rfl rfl rfl ?_
          | refine wo_boolEq rfl rfl rfl rfl ?_
          | refine wo_boolNe rfl rfl rfl rfl ?_
          | refine wo_strNe rfl rfl rfl ?_
          | refine wo_on rfl ?_
          | refine wo_off rfl rfl ?_
          | refine wo_offn rfl ?_)
        refine ⟨⟨.inl (by show bit 2047 10 = true; rfl), .inl (by show bit 2047 8 = true; rfl), .inl (by show bit 2047 4 = true; rfl), .inl (by show bit 2047 2 = true; rfl), trivial⟩, ?_⟩
        repeat (first
          | (refine wd_pure rfl rfl rfl rfl rfl ?_
             repeat (first
               | refine wo_nil ?_
               | refine wo_move rfl rfl ?_
               | refine wo_assign rfl rfl ?_
               | refine wo_fieldAddr rfl rfl rfl ?_
               | refine wo_nilCheck rfl rfl ?_
               | refine wo_extract rfl rfl rfl ?_
               | refine wo_load rfl rfl rfl rfl (by assumption) rfl ?_
               | refine wo_eql rfl rfl rfl ?_
               | refine wo_neq rfl rfl rfl ?_
               | refine wo_lss rfl rfl rfl ?_
               | refine wo_gtr rfl rfl rfl ?_
               | refine wo_leq rfl rfl rfl ?_
               | refine wo_geq rfl rfl rfl ?_
               | refine wo_not rfl rfl ?_
               | refine wo_lenStr rfl rfl rfl ?_
               | refine wo_len rfl rfl rfl rfl ?_
               | refine wo_buildSlice rfl rfl rfl ?_
               | refine wo_build rfl rfl rfl ?_
               | refine wo_pick rfl rfl rfl ?_
               | refine wo_strEq rfl rfl rfl ?_
               | refine wo_boolEq rfl rfl rfl rfl ?_
               | refine wo_boolNe rfl rfl rfl rfl ?_
               | refine wo_strNe rfl rfl rfl ?_
               | refine wo_on rfl ?_
               | refine wo_off rfl rfl ?_
               | refine wo_offn rfl ?_)
             refine ⟨rfl, ?_⟩)
          | (refine wd_read rfl rfl rfl rfl rfl rfl rfl ?_
             repeat (first
               | refine wo_nil ?_
               | refine wo_move rfl rfl ?_
               | refine wo_assign rfl rfl ?_
               | refine wo_fieldAddr rfl rfl rfl ?_
               | refine wo_nilCheck rfl rfl ?_
               | refine wo_extract rfl rfl rfl ?_
               | refine wo_load rfl rfl rfl rfl (by assumption) rfl ?_
               | refine wo_eql rfl rfl rfl ?_
               | refine wo_neq rfl rfl rfl ?_
               | refine wo_lss rfl rfl rfl ?_
               | refine wo_gtr rfl rfl rfl ?_
               | refine wo_leq rfl rfl rfl ?_
               | refine wo_geq rfl rfl rfl ?_
               | refine wo_not rfl rfl ?_
               | refine wo_lenStr rfl rfl rfl ?_
               | refine wo_len rfl rfl rfl rfl ?_
               | refine wo_buildSlice rfl rfl rfl ?_
               | refine wo_build rfl rfl rfl ?_
               | refine wo_pick rfl rfl rfl ?_
               | refine wo_strEq rfl rfl rfl ?_
               | refine wo_boolEq rfl rfl rfl rfl ?_
               | refine wo_boolNe rfl rfl rfl rfl ?_
               | refine wo_strNe rfl rfl rfl ?_
               | refine wo_on rfl ?_
               | refine wo_off rfl rfl ?_
               | refine wo_offn rfl ?_)
             refine ⟨rfl, _, rfl, ?_⟩))
        refine wd_nil ?_
        refine wg_dec rfl (fun h => absurd rfl h) fun _ => ?_
        repeat (first
          | refine wg_seq ?_
          | refine wg_skip ?_
          | refine wg_block ?_
          | refine wg_scope ?_
          | refine wg_inBlock ?_
          | refine wg_inScope ?_
          | refine wg_region ?_
          | refine wo_nil ?_
          | refine wo_move rfl rfl ?_
          | refine wo_assign rfl rfl ?_
          | refine wo_fieldAddr rfl rfl rfl ?_
          | refine wo_nilCheck rfl rfl ?_
          | refine wo_extract rfl rfl rfl ?_
          | refine wo_load rfl rfl rfl rfl (by assumption) rfl ?_
          | refine wo_eql rfl rfl rfl ?_
          | refine wo_neq rfl rfl rfl ?_
          | refine wo_lss rfl rfl rfl ?_
          | refine wo_gtr rfl rfl rfl ?_
          | refine wo_leq rfl rfl rfl ?_
          | refine wo_geq rfl rfl rfl ?_
          | refine wo_not rfl rfl ?_
          | refine wo_lenStr rfl rfl rfl ?_
          | refine wo_len rfl rfl rfl rfl ?_
          | refine wo_buildSlice rfl rfl rfl ?_
          | refine wo_build rfl rfl rfl ?_
          | refine wo_pick rfl rfl rfl ?_
          | refine wo_strEq rfl rfl rfl ?_
          | refine wo_boolEq rfl rfl rfl rfl ?_
          | refine wo_boolNe rfl rfl rfl rfl ?_
          | refine wo_strNe rfl rfl rfl ?_
          | refine wo_on rfl ?_
          | refine wo_off rfl rfl ?_
          | refine wo_offn rfl ?_)
        exact fin _ _ ⟨⟨vs, vj, v, _, p2.step hw st rt (setT_few p2.few), k34 st rt⟩, rfl, rfl, rfl, rfl, rfl, trivial⟩
      repeat (first
        | refine wg_seq ?_
        | refine wg_skip ?_
        | refine wg_block ?_
        | refine wg_scope ?_
        | refine wg_inBlock ?_
        | refine wg_inScope ?_
        | refine wg_region ?_
        | refine wo_nil ?_
        | refine wo_move rfl rfl ?_
        | refine wo_assign rfl rfl ?_
        | refine wo_fieldAddr rfl rfl rfl ?_
        | refine wo_nilCheck rfl rfl ?_
        | refine wo_extract rfl rfl rfl ?_
        | refine wo_load rfl rfl rfl rfl (by assumption) rfl ?_
        | refine wo_eql rfl rfl rfl ?_
        | refine wo_neq rfl rfl rfl ?_
        | refine wo_lss rfl rfl rfl ?_
        | refine wo_gtr rfl rfl rfl ?_
        | refine wo_leq rfl rfl rfl ?_
        | refine wo_geq rfl rfl rfl ?_
        | refine wo_not rfl rfl ?_
        | refine wo_lenStr rfl rfl rfl ?_
        | refine wo_len rfl rfl rfl rfl ?_
        | refine wo_buildSlice rfl rfl rfl ?_
        | refine wo_build rfl rfl rfl ?_
        | refine wo_pick rfl rfl rfl ?_
        | refine wo_strEq rfl rfl rfl ?_
        | refine wo_boolEq rfl rfl rfl rfl ?_
        | refine wo_boolNe rfl rfl rfl rfl ?_
        | refine wo_strNe rfl rfl rfl ?_
        | refine wo_on rfl ?_
        | refine wo_off rfl rfl ?_
        | refine wo_offn rfl ?_)
      refine wg_dec rfl (fun w3 => ?_) fun w3 => ?_
      · repeat (first
          | refine wg_seq ?_
          | refine wg_skip ?_
          | refine wg_block ?_
          | refine wg_scope ?_
          | refine wg_inBlock ?_
          | refine wg_inScope ?_
          | refine wg_region ?_
          | refine wo_nil ?_
          | refine wo_move rfl rfl ?_
          | refine wo_assign rfl rfl ?_
          | refine wo_fieldAddr rfl rfl rfl ?_
          | refine wo_nilCheck rfl rfl ?_
          | refine wo_extract rfl rfl rfl ?_
          | refine wo_load rfl rfl rfl rfl (by assumption) rfl ?_
          | refine wo_eql rfl rfl rfl ?_
          | refine wo_neq rfl rfl rfl ?_
          | refine wo_lss rfl rfl rfl ?_
          | refine wo_gtr rfl rfl rfl ?_
          | refine wo_leq rfl rfl rfl ?_
          | refine wo_geq rfl rfl rfl ?_
          | refine wo_not rfl rfl ?_
          | refine wo_lenStr rfl rfl rfl ?_
          | refine wo_len rfl rfl rfl rfl ?_
          | refine wo_buildSlice rfl rfl rfl ?_
          | refine wo_build rfl rfl rfl ?_
          | refine wo_pick rfl rfl rfl ?_
          | refine wo_strEq rfl rfl rfl ?_
          | refine wo_boolEq rfl rfl rfl rfl ?_
          | refine wo_boolNe rfl rfl rfl rfl ?_
          | refine wo_strNe rfl rfl rfl ?_
          | refine wo_on rfl ?_
          | refine wo_off rfl rfl ?_
          | refine wo_offn rfl ?_)
        refine wo_call rfl rfl orc_cons rfl (join_spec p2.wf p2.sc xok.a1 xok.a2 xok.b1 xok.b2) ?_
        rintro r A3 ⟨rfl, st⟩
        have hx3 := st.only.keep fx _ hx2 fun e => u1 fx e rfl
        repeat (first
          | refine wg_seq ?_
          | refine wg_skip ?_
          | refine wg_block ?_
          | refine wg_scope ?_
          | refine wg_inBlock ?_
          | refine wg_inScope ?_
          | refine wg_region ?_
          | refine wo_nil ?_
          | refine wo_move rfl rfl ?_
          | refine wo_assign rfl rfl ?_
          | refine wo_fieldAddr rfl rfl rfl ?_
          | refine wo_nilCheck rfl rfl ?_
          | refine wo_extract rfl rfl rfl ?_
          | refine wo_load rfl rfl rfl rfl (by assumption) rfl ?_
          | refine wo_eql rfl rfl rfl ?_
          | refine wo_neq rfl rfl rfl ?_
          | refine wo_lss rfl rfl rfl ?_
          | refine wo_gtr rfl rfl rfl ?_
          | refine wo_leq rfl rfl rfl ?_
          | refine wo_geq rfl rfl rfl ?_
          | refine wo_not rfl rfl ?_
          | refine wo_lenStr rfl rfl rfl ?_
          | refine wo_len rfl rfl rfl rfl ?_
          | refine wo_buildSlice rfl rfl rfl ?_
          | refine wo_build rfl rfl rfl ?_
          | refine wo_pick rfl rfl rfl ?_
          | refine wo_strEq rfl rfl rfl ?_
          | refine wo_boolEq rfl rfl rfl rfl ?_
          | refine wo_boolNe rfl rfl rfl rfl ?_
          | refine wo_strNe rfl rfl rfl ?_
          | refine wo_on rfl ?_
          | refine wo_off rfl rfl ?_
          | refine wo_offn rfl ?_)
        refine wo_call rfl rfl orc_cons rfl (rjoin_spec st.only.wf (p2.rs1 st) xok.a1 xok.a2 xok.b1 xok.b2) ?_
        rintro r A4 ⟨rfl, rt⟩
        repeat (first
          | refine wg_seq ?_
          | refine wg_skip ?_
          | refine wg_block ?_
          | refine wg_scope ?_
          | refine wg_inBlock ?_
          | refine wg_inScope ?_
          | refine wg_region ?_
          | refine wo_nil ?_
          | refine wo_move rfl rfl ?_
          | refine wo_assign rfl rfl ?_
          | refine wo_fieldAddr rfl rfl rfl ?_
          | refine wo_nilCheck rfl rfl ?_
          | refine wo_extract rfl rfl rfl ?_
          | refine wo_load rfl rfl rfl rfl (by assumption) rfl ?_
          | refine wo_eql rfl rfl rfl ?_
          | refine wo_neq rfl rfl rfl ?_
          | refine wo_lss rfl rfl rfl ?_
          | refine wo_gtr rfl rfl rfl ?_
          | refine wo_leq rfl rfl rfl ?_
          | refine wo_geq rfl rfl rfl ?_
          | refine wo_not rfl rfl ?_
          | refine wo_lenStr rfl rfl rfl ?_
          | refine wo_len rfl rfl rfl rfl ?_
          | refine wo_buildSlice rfl rfl rfl ?_
          | refine wo_build rfl rfl rfl ?_
          | refine wo_pick rfl rfl rfl ?_
          | refine wo_strEq rfl rfl rfl ?_
          | refine wo_boolEq rfl rfl rfl rfl ?_
          | refine wo_boolNe rfl rfl rfl rfl ?_
          | refine wo_strNe rfl rfl rfl ?_
          | refine wo_on rfl ?_
          | refine wo_off rfl rfl ?_
          | refine wo_offn rfl ?_)
        refine wo_is 106 false rfl (by simp) ?_
        repeat (first
          | refine wg_seq ?_
          | refine wg_skip ?_
          | refine wg_block ?_
          | refine wg_scope ?_
          | refine wg_inBlock ?_
          | refine wg_inScope ?_
          | refine wg_region ?_
          | refine wo_nil ?_
          | refine wo_move rfl rfl ?_
          | refine wo_assign rfl rfl ?_
          | refine wo_fieldAddr rfl rfl rfl ?_
          | refine wo_nilCheck rfl rfl ?_
          | refine wo_extract rfl rfl rfl ?_
          | refine wo_load rfl rfl rfl rfl (by assumption) rfl ?_
          | refine wo_eql rfl rfl rfl ?_
          | refine wo_neq rfl rfl rfl ?_
          | refine wo_lss rfl rfl rfl ?_
          | refine wo_gtr rfl rfl rfl ?_
          | refine wo_leq rfl rfl rfl ?_
          | refine wo_geq rfl rfl rfl ?_
          | refine wo_not rfl rfl ?_
          | refine wo_lenStr rfl rfl rfl ?_
          | refine wo_len rfl rfl rfl rfl ?_
          | refine wo_buildSlice rfl rfl rfl ?_
          | refine wo_build rfl rfl rfl ?_
          | refine wo_pick rfl rfl rfl ?_
          | refine wo_strEq rfl rfl rfl ?_
          | refine wo_boolEq rfl rfl rfl rfl ?_
          | refine wo_boolNe rfl rfl rfl rfl ?_
          | refine wo_strNe rfl rfl rfl ?_
          | refine wo_on rfl ?_
          | refine wo_off rfl rfl ?_
          | refine wo_offn rfl ?_)
        refine wg_dec rfl (fun h => absurd rfl h) fun _ => ?_
        repeat (first
          | refine wg_seq ?_
          | refine wg_skip ?_
          | refine wg_block ?_
          | refine wg_scope ?_
          | refine wg_inBlock ?_
          | refine wg_inScope ?_
          | refine wg_region ?_
          | refine wo_nil ?_
          | refine wo_move rfl rfl ?_
          | refine wo_assign rfl rfl ?_
          | refine wo_fieldAddr rfl rfl rfl ?_
          | refine wo_nilCheck rfl rfl ?_
          | refine wo_extract rfl rfl rfl ?_
          | refine wo_load rfl rfl rfl rfl (by assumption) rfl ?_
          | refine wo_eql rfl rfl rfl ?_
          | refine wo_neq rfl rfl rfl ?_
          | refine wo_lss rfl rfl rfl ?_
          | refine wo_gtr rfl rfl rfl ?_
          | refine wo_leq rfl rfl rfl ?_
          | refine wo_geq rfl rfl rfl ?_
          | refine wo_not rfl rfl ?_
          | refine wo_lenStr rfl rfl rfl ?_
          | refine wo_len rfl rfl rfl rfl ?_
          | refine wo_buildSlice rfl rfl rfl ?_
          | refine wo_build rfl rfl rfl ?_
          | refine wo_pick rfl rfl rfl ?_
          | refine wo_strEq rfl rfl rfl ?_
          | refine wo_boolEq rfl rfl rfl rfl ?_
          | refine wo_boolNe rfl rfl rfl rfl ?_
          | refine wo_strNe rfl rfl rfl ?_
          | refine wo_on rfl ?_
          | refine wo_off rfl rfl ?_
          | refine wo_offn rfl ?_)
        exact fin _ _ ⟨⟨vs, vj, v, _, p2.step hw st rt (joinT_few p2.few), k34 st rt⟩, rfl, rfl, rfl, rfl, rfl, trivial⟩
      repeat (first
        | refine wg_seq ?_
        | refine wg_skip ?_
        | refine wg_block ?_
        | refine wg_scope ?_
        | refine wg_inBlock ?_
        | refine wg_inScope ?_
        | refine wg_region ?_
        | refine wo_nil ?_
        | refine wo_move rfl rfl ?_
        | refine wo_assign rfl rfl ?_
        | refine wo_fieldAddr rfl rfl rfl ?_
        | refine wo_nilCheck rfl rfl ?_
        | refine wo_extract rfl rfl rfl ?_
        | refine wo_load rfl rfl rfl rfl (by assumption) rfl ?_
        | refine wo_eql rfl rfl rfl ?_
        | refine wo_neq rfl rfl rfl ?_
        | refine wo_lss rfl rfl rfl ?_
        | refine wo_gtr rfl rfl rfl ?_
        | refine wo_leq rfl rfl rfl ?_
        | refine wo_geq rfl rfl rfl ?_
        | refine wo_not rfl rfl ?_
        | refine wo_lenStr rfl rfl rfl ?_
        | refine wo_len rfl rfl rfl rfl ?_
        | refine wo_buildSlice rfl rfl rfl ?_
        | refine wo_build rfl rfl rfl ?_
        | refine wo_pick rfl rfl rfl ?_
        | refine wo_strEq rfl rfl rfl ?_
        | refine wo_boolEq rfl rfl rfl rfl ?_
        | refine wo_boolNe rfl rfl rfl rfl ?_
        | refine wo_strNe rfl rfl rfl ?_
        | refine wo_on rfl ?_
        | refine wo_off rfl rfl ?_
        | refine wo_offn rfl ?_)
      refine wg_dec rfl (fun w4 => ?_) fun w4 => ?_
      · repeat (first
          | refine wg_seq ?_
          | refine wg_skip ?_
          | refine wg_block ?_
          | refine wg_scope ?_
          | refine wg_inBlock ?_
          | refine wg_inScope ?_
          | refine wg_region ?_
          | refine wo_nil ?_
          | refine wo_move rfl rfl ?_
          | refine wo_assign rfl rfl ?_
          | refine wo_fieldAddr rfl rfl rfl ?_
          | refine wo_nilCheck rfl rfl ?_
          | refine wo_extract rfl rfl rfl ?_
          | refine wo_load rfl rfl rfl rfl (by assumption) rfl ?_
          | refine wo_eql rfl rfl rfl ?_
          | refine wo_neq rfl rfl rfl ?_
          | refine wo_lss rfl rfl rfl ?_
          | refine wo_gtr rfl rfl rfl ?_
          | refine wo_leq rfl rfl rfl ?_
          | refine wo_geq rfl rfl rfl ?_
          | refine wo_not rfl rfl ?_
          | refine wo_lenStr rfl rfl rfl ?_
          | refine wo_len rfl rfl rfl rfl ?_
          | refine wo_buildSlice rfl rfl rfl ?_
          | refine wo_build rfl rfl rfl ?_
          | refine wo_pick rfl rfl rfl ?_
          | refine wo_strEq rfl rfl rfl ?_
          | refine wo_boolEq rfl rfl rfl rfl ?_
          | refine wo_boolNe rfl rfl rfl rfl ?_
          | refine wo_strNe rfl rfl rfl ?_
          | refine wo_on rfl ?_
          | refine wo_off rfl rfl ?_
          | refine wo_offn rfl ?_)
        have f2 := p2.few
        refine wo_call rfl rfl orc_cons rfl (end_spec p2.wf p2.sc (by omega) xok.a1 xok.a2) ?_
        rintro r A3 ⟨vo, rfl, st, hb, own⟩
        have hx3 := st.only.keep fx _ hx2 fun e => u1 fx e rfl
        repeat (first
          | refine wg_seq ?_
          | refine wg_skip ?_
          | refine wg_block ?_
          | refine wg_scope ?_
          | refine wg_inBlock ?_
          | refine wg_inScope ?_
          | refine wg_region ?_
          | refine wo_nil ?_
          | refine wo_move rfl rfl ?_
          | refine wo_assign rfl rfl ?_
          | refine wo_fieldAddr rfl rfl rfl ?_
          | refine wo_nilCheck rfl rfl ?_
          | refine wo_extract rfl rfl rfl ?_
          | refine wo_load rfl rfl rfl rfl (by assumption) rfl ?_
          | refine wo_eql rfl rfl rfl ?_
          | refine wo_neq rfl rfl rfl ?_
          | refine wo_lss rfl rfl rfl ?_
          | refine wo_gtr rfl rfl rfl ?_
          | refine wo_leq rfl rfl rfl ?_
          | refine wo_geq rfl rfl rfl ?_
          | refine wo_not rfl rfl ?_
          | refine wo_lenStr rfl rfl rfl ?_
          | refine wo_len rfl rfl rfl rfl ?_
          | refine wo_buildSlice rfl rfl rfl ?_
          | refine wo_build rfl rfl rfl ?_
          | refine wo_pick rfl rfl rfl ?_
          | refine wo_strEq rfl rfl rfl ?_
          | refine wo_boolEq rfl rfl rfl rfl ?_
          | refine wo_boolNe rfl rfl rfl rfl ?_
          | refine wo_strNe rfl rfl rfl ?_
          | refine wo_on rfl ?_
          | refine wo_off rfl rfl ?_
          | refine wo_offn rfl ?_)
        refine wo_call rfl rfl orc_cons rfl (rend_spec st.only.wf (p2.rs1 st) (by omega) xok.a1 xok.a2) ?_
        rintro r A4 ⟨vo2, rfl, rt, hb2, own2⟩
        have hb4 := hb.keep rt.only fun g hg e => by
          have h1 := own g hg
          have h2 := p2.rs.under p2.wf g e
          omega
        have hol := endT_out (id := x.a) p2.few
        repeat (first
          | refine wg_seq ?_
          | refine wg_skip ?_
          | refine wg_block ?_
          | refine wg_scope ?_
          | refine wg_inBlock ?_
          | refine wg_inScope ?_
          | refine wg_region ?_
          | refine wo_nil ?_
          | refine wo_move rfl rfl ?_
          | refine wo_assign rfl rfl ?_
          | refine wo_fieldAddr rfl rfl rfl ?_
          | refine wo_nilCheck rfl rfl ?_
          | refine wo_extract rfl rfl rfl ?_
          | refine wo_load rfl rfl rfl rfl (by assumption) rfl ?_
          | refine wo_eql rfl rfl rfl ?_
          | refine wo_neq rfl rfl rfl ?_
          | refine wo_lss rfl rfl rfl ?_
          | refine wo_gtr rfl rfl rfl ?_
          | refine wo_leq rfl rfl rfl ?_
          | refine wo_geq rfl rfl rfl ?_
          | refine wo_not rfl rfl ?_
          | refine wo_lenStr rfl rfl rfl ?_
          | refine wo_len rfl rfl rfl rfl ?_
          | refine wo_buildSlice rfl rfl rfl ?_
          | refine wo_build rfl rfl rfl ?_
          | refine wo_pick rfl rfl rfl ?_
          | refine wo_strEq rfl rfl rfl ?_
          | refine wo_boolEq rfl rfl rfl rfl ?_
          | refine wo_boolNe rfl rfl rfl rfl ?_
          | refine wo_strNe rfl rfl rfl ?_
          | refine wo_on rfl ?_
          | refine wo_off rfl rfl ?_
          | refine wo_offn rfl ?_)
        refine wo_call rfl rfl orc_cons rfl (ints_spec hb4 hb2 (by omega)) ?_
        rintro r A5 ⟨rfl, h5⟩
        obtain rfl : A4 = A5 := h5.symm
        repeat (first
          | refine wg_seq ?_
          | refine wg_skip ?_
          | refine wg_block ?_
          | refine wg_scope ?_
          | refine wg_inBlock ?_
          | refine wg_inScope ?_
          | refine wg_region ?_
          | refine wo_nil ?_
          | refine wo_move rfl rfl ?_
          | refine wo_assign rfl rfl ?_
          | refine wo_fieldAddr rfl rfl rfl ?_
          | refine wo_nilCheck rfl rfl ?_
          | refine wo_extract rfl rfl rfl ?_
          | refine wo_load rfl rfl rfl rfl (by assumption) rfl ?_
          | refine wo_eql rfl rfl rfl ?_
          | refine wo_neq rfl rfl rfl ?_
          | refine wo_lss rfl rfl rfl ?_
          | refine wo_gtr rfl rfl rfl ?_
          | refine wo_leq rfl rfl rfl ?_
          | refine wo_geq rfl rfl rfl ?_
          | refine wo_not rfl rfl ?_
          | refine wo_lenStr rfl rfl rfl ?_
          | refine wo_len rfl rfl rfl rfl ?_
          | refine wo_buildSlice rfl rfl rfl ?_
          | refine wo_build rfl rfl rfl ?_
          | refine wo_pick rfl rfl rfl ?_
          | refine wo_strEq rfl rfl rfl ?_
          | refine wo_boolEq rfl rfl rfl rfl ?_
          | refine wo_boolNe rfl rfl rfl rfl ?_
          | refine wo_strNe rfl rfl rfl ?_
          | refine wo_on rfl ?_
          | refine wo_off rfl rfl ?_
          | refine wo_offn rfl ?_)
        refine wg_dec rfl (fun h => absurd rfl h) fun _ => ?_
        repeat (first
          | refine wg_seq ?_
          | refine wg_skip ?_
          | refine wg_block ?_
          | refine wg_scope ?_
          | refine wg_inBlock ?_
          | refine wg_inScope ?_
          | refine wg_region ?_
          | refine wo_nil ?_
          | refine wo_move rfl rfl ?_
          | refine wo_assign rfl rfl ?_
          | refine wo_fieldAddr rfl rfl rfl ?_
          | refine wo_nilCheck rfl rfl ?_
          | refine wo_extract rfl rfl rfl ?_
          | refine wo_load rfl rfl rfl rfl (by assumption) rfl ?_
          | refine wo_eql rfl rfl rfl ?_
          | refine wo_neq rfl rfl rfl ?_
          | refine wo_lss rfl rfl rfl ?_
          | refine wo_gtr rfl rfl rfl ?_
          | refine wo_leq rfl rfl rfl ?_
          | refine wo_geq rfl rfl rfl ?_
          | refine wo_not rfl rfl ?_
          | refine wo_lenStr rfl rfl rfl ?_
          | refine wo_len rfl rfl rfl rfl ?_
          | refine wo_buildSlice rfl rfl rfl ?_
          | refine wo_build rfl rfl rfl ?_
          | refine wo_pick rfl rfl rfl ?_
          | refine wo_strEq rfl rfl rfl ?_
          | refine wo_boolEq rfl rfl rfl rfl ?_
          | refine wo_boolNe rfl rfl rfl rfl ?_
          | refine wo_strNe rfl rfl rfl ?_
          | refine wo_on rfl ?_
          | refine wo_off rfl rfl ?_
          | refine wo_offn rfl ?_)
        exact fin _ _ ⟨⟨vs, vj, v, _, p2.step hw st rt (endT_few p2.few), k34 st rt⟩, rfl, rfl, rfl, rfl, rfl, trivial⟩
      · repeat (first
          | refine wg_seq ?_
          | refine wg_skip ?_
          | refine wg_block ?_
          | refine wg_scope ?_
          | refine wg_inBlock ?_
          | refine wg_inScope ?_
          | refine wg_region ?_
          | refine wo_nil ?_
          | refine wo_move rfl rfl ?_
          | refine wo_assign rfl rfl ?_
          | refine wo_fieldAddr rfl rfl rfl ?_
          | refine wo_nilCheck rfl rfl ?_
          | refine wo_extract rfl rfl rfl ?_
          | refine wo_load rfl rfl rfl rfl (by assumption) rfl ?_
          | refine wo_eql rfl rfl rfl ?_
          | refine wo_neq rfl rfl rfl ?_
          | refine wo_lss rfl rfl rfl ?_
          | refine wo_gtr rfl rfl rfl ?_
          | refine wo_leq rfl rfl rfl ?_
          | refine wo_geq rfl rfl rfl ?_
          | refine wo_not rfl rfl ?_
          | refine wo_lenStr rfl rfl rfl ?_
          | refine wo_len rfl rfl rfl rfl ?_
          | refine wo_buildSlice rfl rfl rfl ?_
          | refine wo_build rfl rfl rfl ?_
          | refine wo_pick rfl rfl rfl ?_
          | refine wo_strEq rfl rfl rfl ?_
          | refine wo_boolEq rfl rfl rfl rfl ?_
          | refine wo_boolNe rfl rfl rfl rfl ?_
          | refine wo_strNe rfl rfl rfl ?_
          | refine wo_on rfl ?_
          | refine wo_off rfl rfl ?_
          | refine wo_offn rfl ?_)
        exact fin _ _ ⟨⟨vs, vj, v, _, p2, hx2⟩, rfl, rfl, rfl, rfl, rfl, trivial⟩
    · rintro l3 A3 ⟨⟨vs', vj', v', us, p3, hx3⟩, hl3⟩
      refine wg_le _ ?_ hl3
      clear hl3 p2 p1 u1 u2 hx2 o2 hh hat
      have f3 := p3.few
      repeat (first
        | refine wg_seq ?_
        | refine wg_skip ?_
        | refine wg_block ?_
        | refine wg_scope ?_
        | refine wg_inBlock ?_
        | refine wg_inScope ?_
        | refine wg_region ?_
        | refine wo_nil ?_
        | refine wo_move rfl rfl ?_
        | refine wo_assign rfl rfl ?_
        | refine wo_fieldAddr rfl rfl rfl ?_
        | refine wo_nilCheck rfl rfl ?_
        | refine wo_extract rfl rfl rfl ?_
        | refine wo_load rfl rfl rfl rfl (by assumption) rfl ?_
        | refine wo_eql rfl rfl rfl ?_
        | refine wo_neq rfl rfl rfl ?_
        | refine wo_lss rfl rfl rfl ?_
        | refine wo_gtr rfl rfl rfl ?_
        | refine wo_leq rfl rfl rfl ?_
        | refine wo_geq rfl rfl rfl ?_
        | refine wo_not rfl rfl ?_
        | refine wo_lenStr rfl rfl rfl ?_
        | refine wo_len rfl rfl rfl rfl ?_
        | refine wo_buildSlice rfl rfl rfl ?_
        | refine wo_build rfl rfl rfl ?_
        | refine wo_pick rfl rfl rfl ?_
        | refine wo_strEq rfl rfl rfl ?_
        | refine wo_boolEq rfl rfl rfl rfl ?_
        | refine wo_boolNe rfl rfl rfl rfl ?_
        | refine wo_strNe rfl rfl rfl ?_
        | refine wo_on rfl ?_
        | refine wo_off rfl rfl ?_
        | refine wo_offn rfl ?_)
      refine wo_call rfl rfl orc_cons rfl (pick_spec p3.wf p3.sc (by omega) xok.a1 xok.a2) ?_
      rintro r A4 ⟨rfl, o4⟩
      have p4 := p3.quiet o4
      have hx4 := o4.keep _ _ hx3 fun h => h
      repeat (first
        | refine wg_seq ?_
        | refine wg_skip ?_
        | refine wg_block ?_
        | refine wg_scope ?_
        | refine wg_inBlock ?_
        | refine wg_inScope ?_
        | refine wg_region ?_
        | refine wo_nil ?_
        | refine wo_move rfl rfl ?_
        | refine wo_assign rfl rfl ?_
        | refine wo_fieldAddr rfl rfl rfl ?_
        | refine wo_nilCheck rfl rfl ?_
        | refine wo_extract rfl rfl rfl ?_
        | refine wo_load rfl rfl rfl rfl (by assumption) rfl ?_
        | refine wo_eql rfl rfl rfl ?_
        | refine wo_neq rfl rfl rfl ?_
        | refine wo_lss rfl rfl rfl ?_
        | refine wo_gtr rfl rfl rfl ?_
        | refine wo_leq rfl rfl rfl ?_
        | refine wo_geq rfl rfl rfl ?_
        | refine wo_not rfl rfl ?_
        | refine wo_lenStr rfl rfl rfl ?_
        | refine wo_len rfl rfl rfl rfl ?_
        | refine wo_buildSlice rfl rfl rfl ?_
        | refine wo_build rfl rfl rfl ?_
        | refine wo_pick rfl rfl rfl ?_
        | refine wo_strEq rfl rfl rfl ?_
        | refine wo_boolEq rfl rfl rfl rfl ?_
        | refine wo_boolNe rfl rfl rfl rfl ?_
        | refine wo_strNe rfl rfl rfl ?_
        | refine wo_on rfl ?_
        | refine wo_off rfl rfl ?_
        | refine wo_offn rfl ?_)
      refine wo_call rfl rfl orc_cons rfl (rpick_spec p4.wf p4.rs (by omega) xok.a1 xok.a2) ?_
      rintro r A5 ⟨rfl, o5⟩
      have p5 := p4.quiet o5
      repeat (first
        | refine wg_seq ?_
        | refine wg_skip ?_
        | refine wg_block ?_
        | refine wg_scope ?_
        | refine wg_inBlock ?_
        | refine wg_inScope ?_
        | refine wg_region ?_
        | refine wo_nil ?_
        | refine wo_move rfl rfl ?_
        | refine wo_assign rfl rfl ?_
        | refine wo_fieldAddr rfl rfl rfl ?_
        | refine wo_nilCheck rfl rfl ?_
        | refine wo_extract rfl rfl rfl ?_
        | refine wo_load rfl rfl rfl rfl (by assumption) rfl ?_
        | refine wo_eql rfl rfl rfl ?_
        | refine wo_neq rfl rfl rfl ?_
        | refine wo_lss rfl rfl rfl ?_
        | refine wo_gtr rfl rfl rfl ?_
        | refine wo_leq rfl rfl rfl ?_
        | refine wo_geq rfl rfl rfl ?_
        | refine wo_not rfl rfl ?_
        | refine wo_lenStr rfl rfl rfl ?_
        | refine wo_len rfl rfl rfl rfl ?_
        | refine wo_buildSlice rfl rfl rfl ?_
        | refine wo_build rfl rfl rfl ?_
        | refine wo_pick rfl rfl rfl ?_
        | refine wo_strEq rfl rfl rfl ?_
        | refine wo_boolEq rfl rfl rfl rfl ?_
        | refine wo_boolNe rfl rfl rfl rfl ?_
        | refine wo_strNe rfl rfl rfl ?_
        | refine wo_on rfl ?_
        | refine wo_off rfl rfl ?_
        | refine wo_offn rfl ?_)
      refine wo_is 155 false rfl (decide_eq_false fun h => h rfl) ?_
      repeat (first
        | refine wg_seq ?_
        | refine wg_skip ?_
        | refine wg_block ?_
        | refine wg_scope ?_
        | refine wg_inBlock ?_
        | refine wg_inScope ?_
        | refine wg_region ?_
        | refine wo_nil ?_
        | refine wo_move rfl rfl ?_
        | refine wo_assign rfl rfl ?_
        | refine wo_fieldAddr rfl rfl rfl ?_
        | refine wo_nilCheck rfl rfl ?_
        | refine wo_extract rfl rfl rfl ?_
        | refine wo_load rfl rfl rfl rfl (by assumption) rfl ?_
        | refine wo_eql rfl rfl rfl ?_
        | refine wo_neq rfl rfl rfl ?_
        | refine wo_lss rfl rfl rfl ?_
        | refine wo_gtr rfl rfl rfl ?_
        | refine wo_leq rfl rfl rfl ?_
        | refine wo_geq rfl rfl rfl ?_
        | refine wo_not rfl rfl ?_
        | refine wo_lenStr rfl rfl rfl ?_
        | refine wo_len rfl rfl rfl rfl ?_
        | refine wo_buildSlice rfl rfl rfl ?_
        | refine wo_build rfl rfl rfl ?_
        | refine wo_pick rfl rfl rfl ?_
        | refine wo_strEq rfl rfl rfl ?_
        | refine wo_boolEq rfl rfl rfl rfl ?_
        | refine wo_boolNe rfl rfl rfl rfl ?_
        | refine wo_strNe rfl rfl rfl ?_
        | refine wo_on rfl ?_
        | refine wo_off rfl rfl ?_
        | refine wo_offn rfl ?_)
      refine wo_is 160 false rfl (by simp) ?_
      repeat (first
        | refine wg_seq ?_
        | refine wg_skip ?_
        | refine wg_block ?_
        | refine wg_scope ?_
        | refine wg_inBlock ?_
        | refine wg_inScope ?_
        | refine wg_region ?_
        | refine wo_nil ?_
        | refine wo_move rfl rfl ?_
        | refine wo_assign rfl rfl ?_
        | refine wo_fieldAddr rfl rfl rfl ?_
        | refine wo_nilCheck rfl rfl ?_
        | refine wo_extract rfl rfl rfl ?_
        | refine wo_load rfl rfl rfl rfl (by assumption) rfl ?_
        | refine wo_eql rfl rfl rfl ?_
        | refine wo_neq rfl rfl rfl ?_
        | refine wo_lss rfl rfl rfl ?_
        | refine wo_gtr rfl rfl rfl ?_
        | refine wo_leq rfl rfl rfl ?_
        | refine wo_geq rfl rfl rfl ?_
        | refine wo_not rfl rfl ?_
        | refine wo_lenStr rfl rfl rfl ?_
        | refine wo_len rfl rfl rfl rfl ?_
        | refine wo_buildSlice rfl rfl rfl ?_
        | refine wo_build rfl rfl rfl ?_
        | refine wo_pick rfl rfl rfl ?_
        | refine wo_strEq rfl rfl rfl ?_
        | refine wo_boolEq rfl rfl rfl rfl ?_
        | refine wo_boolNe rfl rfl rfl rfl ?_
        | refine wo_strNe rfl rfl rfl ?_
        | refine wo_on rfl ?_
        | refine wo_off rfl rfl ?_
        | refine wo_offn rfl ?_)
      refine wo_call rfl rfl orc_cons rfl (len_spec p5.sc) ?_
      rintro r A6 ⟨rfl, rfl⟩
      repeat (first
        | refine wg_seq ?_
        | refine wg_skip ?_
        | refine wg_block ?_
        | refine wg_scope ?_
        | refine wg_inBlock ?_
        | refine wg_inScope ?_
        | refine wg_region ?_
        | refine wo_nil ?_
        | refine wo_move rfl rfl ?_
        | refine wo_assign rfl rfl ?_
        | refine wo_fieldAddr rfl rfl rfl ?_
        | refine wo_nilCheck rfl rfl ?_
        | refine wo_extract rfl rfl rfl ?_
        | refine wo_load rfl rfl rfl rfl (by assumption) rfl ?_
        | refine wo_eql rfl rfl rfl ?_
        | refine wo_neq rfl rfl rfl ?_
        | refine wo_lss rfl rfl rfl ?_
        | refine wo_gtr rfl rfl rfl ?_
        | refine wo_leq rfl rfl rfl ?_
        | refine wo_geq rfl rfl rfl ?_
        | refine wo_not rfl rfl ?_
        | refine wo_lenStr rfl rfl rfl ?_
        | refine wo_len rfl rfl rfl rfl ?_
        | refine wo_buildSlice rfl rfl rfl ?_
        | refine wo_build rfl rfl rfl ?_
        | refine wo_pick rfl rfl rfl ?_
        | refine wo_strEq rfl rfl rfl ?_
        | refine wo_boolEq rfl rfl rfl rfl ?_
        | refine wo_boolNe rfl rfl rfl rfl ?_
        | refine wo_strNe rfl rfl rfl ?_
        | refine wo_on rfl ?_
        | refine wo_off rfl rfl ?_
        | refine wo_offn rfl ?_)
      refine wo_call rfl rfl orc_cons rfl (rlen_spec p5.rs) ?_
      rintro r A7 ⟨rfl, rfl⟩
      repeat (first
        | refine wg_seq ?_
        | refine wg_skip ?_
        | refine wg_block ?_
        | refine wg_scope ?_
        | refine wg_inBlock ?_
        | refine wg_inScope ?_
        | refine wg_region ?_
        | refine wo_nil ?_
        | refine wo_move rfl rfl ?_
        | refine wo_assign rfl rfl ?_
        | refine wo_fieldAddr rfl rfl rfl ?_
        | refine wo_nilCheck rfl rfl ?_
        | refine wo_extract rfl rfl rfl ?_
        | refine wo_load rfl rfl rfl rfl (by assumption) rfl ?_
        | refine wo_eql rfl rfl rfl ?_
        | refine wo_neq rfl rfl rfl ?_
        | refine wo_lss rfl rfl rfl ?_
        | refine wo_gtr rfl rfl rfl ?_
        | refine wo_leq rfl rfl rfl ?_
        | refine wo_geq rfl rfl rfl ?_
        | refine wo_not rfl rfl ?_
        | refine wo_lenStr rfl rfl rfl ?_
        | refine wo_len rfl rfl rfl rfl ?_
        | refine wo_buildSlice rfl rfl rfl ?_
        | refine wo_build rfl rfl rfl ?_
        | refine wo_pick rfl rfl rfl ?_
        | refine wo_strEq rfl rfl rfl ?_
        | refine wo_boolEq rfl rfl rfl rfl ?_
        | refine wo_boolNe rfl rfl rfl rfl ?_
        | refine wo_strNe rfl rfl rfl ?_
        | refine wo_on rfl ?_
        | refine wo_off rfl rfl ?_
        | refine wo_offn rfl ?_)
      refine wo_is 167 false rfl (decide_eq_false fun h => h rfl) ?_
      repeat (first
        | refine wg_seq ?_
        | refine wg_skip ?_
        | refine wg_block ?_
        | refine wg_scope ?_
        | refine wg_inBlock ?_
        | refine wg_inScope ?_
        | refine wg_region ?_
        | refine wo_nil ?_
        | refine wo_move rfl rfl ?_
        | refine wo_assign rfl rfl ?_
        | refine wo_fieldAddr rfl rfl rfl ?_
        | refine wo_nilCheck rfl rfl ?_
        | refine wo_extract rfl rfl rfl ?_
        | refine wo_load rfl rfl rfl rfl (by assumption) rfl ?_
        | refine wo_eql rfl rfl rfl ?_
        | refine wo_neq rfl rfl rfl ?_
        | refine wo_lss rfl rfl rfl ?_
        | refine wo_gtr rfl rfl rfl ?_
        | refine wo_leq rfl rfl rfl ?_
        | refine wo_geq rfl rfl rfl ?_
        | refine wo_not rfl rfl ?_
        | refine wo_lenStr rfl rfl rfl ?_
        | refine wo_len rfl rfl rfl rfl ?_
        | refine wo_buildSlice rfl rfl rfl ?_
        | refine wo_build rfl rfl rfl ?_
        | refine wo_pick rfl rfl rfl ?_
        | refine wo_strEq rfl rfl rfl ?_
        | refine wo_boolEq rfl rfl rfl rfl ?_
        | refine wo_boolNe rfl rfl rfl rfl ?_
        | refine wo_strNe rfl rfl rfl ?_
        | refine wo_on rfl ?_
        | refine wo_off rfl rfl ?_
        | refine wo_offn rfl ?_)
      refine wo_call rfl rfl orc_cons rfl (ready_spec p5.wf p5.sc (by omega)) ?_
      rintro vl A8 ⟨hl8, o8, _⟩
      have p8 := p5.quiet o8
      repeat (first
        | refine wg_seq ?_
        | refine wg_skip ?_
        | refine wg_block ?_
        | refine wg_scope ?_
        | refine wg_inBlock ?_
        | refine wg_inScope ?_
        | refine wg_region ?_
        | refine wo_nil ?_
        | refine wo_move rfl rfl ?_
        | refine wo_assign rfl rfl ?_
        | refine wo_fieldAddr rfl rfl rfl ?_
        | refine wo_nilCheck rfl rfl ?_
        | refine wo_extract rfl rfl rfl ?_
        | refine wo_load rfl rfl rfl rfl (by assumption) rfl ?_
        | refine wo_eql rfl rfl rfl ?_
        | refine wo_neq rfl rfl rfl ?_
        | refine wo_lss rfl rfl rfl ?_
        | refine wo_gtr rfl rfl rfl ?_
        | refine wo_leq rfl rfl rfl ?_
        | refine wo_geq rfl rfl rfl ?_
        | refine wo_not rfl rfl ?_
        | refine wo_lenStr rfl rfl rfl ?_
        | refine wo_len rfl rfl rfl rfl ?_
        | refine wo_buildSlice rfl rfl rfl ?_
        | refine wo_build rfl rfl rfl ?_
        | refine wo_pick rfl rfl rfl ?_
        | refine wo_strEq rfl rfl rfl ?_
        | refine wo_boolEq rfl rfl rfl rfl ?_
        | refine wo_boolNe rfl rfl rfl rfl ?_
        | refine wo_strNe rfl rfl rfl ?_
        | refine wo_on rfl ?_
        | refine wo_off rfl rfl ?_
        | refine wo_offn rfl ?_)
      refine wo_call rfl rfl orc_cons rfl (rready_spec p8.wf p8.rs (by omega)) ?_
      rintro vm A9 ⟨hm9, o9, _⟩
      have p9 := p8.quiet o9
      have hl9 := hl8.keep o9 fun _ _ h => h
      have hrl : (readyT us).length ≤ us.length := selK_len _ _ _
      repeat (first
        | refine wg_seq ?_
        | refine wg_skip ?_
        | refine wg_block ?_
        | refine wg_scope ?_
        | refine wg_inBlock ?_
        | refine wg_inScope ?_
        | refine wg_region ?_
        | refine wo_nil ?_
        | refine wo_move rfl rfl ?_
        | refine wo_assign rfl rfl ?_
        | refine wo_fieldAddr rfl rfl rfl ?_
        | refine wo_nilCheck rfl rfl ?_
        | refine wo_extract rfl rfl rfl ?_
        | refine wo_load rfl rfl rfl rfl (by assumption) rfl ?_
        | refine wo_eql rfl rfl rfl ?_
        | refine wo_neq rfl rfl rfl ?_
        | refine wo_lss rfl rfl rfl ?_
        | refine wo_gtr rfl rfl rfl ?_
        | refine wo_leq rfl rfl rfl ?_
        | refine wo_geq rfl rfl rfl ?_
        | refine wo_not rfl rfl ?_
        | refine wo_lenStr rfl rfl rfl ?_
        | refine wo_len rfl rfl rfl rfl ?_
        | refine wo_buildSlice rfl rfl rfl ?_
        | refine wo_build rfl rfl rfl ?_
        | refine wo_pick rfl rfl rfl ?_
        | refine wo_strEq rfl rfl rfl ?_
        | refine wo_boolEq rfl rfl rfl rfl ?_
        | refine wo_boolNe rfl rfl rfl rfl ?_
        | refine wo_strNe rfl rfl rfl ?_
        | refine wo_on rfl ?_
        | refine wo_off rfl rfl ?_
        | refine wo_offn rfl ?_)
      refine wo_call rfl rfl orc_cons rfl (ints_spec hl9 hm9 (by omega)) ?_
      rintro r A10 ⟨rfl, h10⟩
      obtain rfl : A9 = A10 := h10.symm
      repeat (first
        | refine wg_seq ?_
        | refine wg_skip ?_
        | refine wg_block ?_
        | refine wg_scope ?_
        | refine wg_inBlock ?_
        | refine wg_inScope ?_
        | refine wg_region ?_
        | refine wo_nil ?_
        | refine wo_move rfl rfl ?_
        | refine wo_assign rfl rfl ?_
        | refine wo_fieldAddr rfl rfl rfl ?_
        | refine wo_nilCheck rfl rfl ?_
        | refine wo_extract rfl rfl rfl ?_
        | refine wo_load rfl rfl rfl rfl (by assumption) rfl ?_
        | refine wo_eql rfl rfl rfl ?_
        | refine wo_neq rfl rfl rfl ?_
        | refine wo_lss rfl rfl rfl ?_
        | refine wo_gtr rfl rfl rfl ?_
        | refine wo_leq rfl rfl rfl ?_
        | refine wo_geq rfl rfl rfl ?_
        | refine wo_not rfl rfl ?_
        | refine wo_lenStr rfl rfl rfl ?_
        | refine wo_len rfl rfl rfl rfl ?_
        | refine wo_buildSlice rfl rfl rfl ?_
        | refine wo_build rfl rfl rfl ?_
        | refine wo_pick rfl rfl rfl ?_
        | refine wo_strEq rfl rfl rfl ?_
        | refine wo_boolEq rfl rfl rfl rfl ?_
        | refine wo_boolNe rfl rfl rfl rfl ?_
        | refine wo_strNe rfl rfl rfl ?_
        | refine wo_on rfl ?_
        | refine wo_off rfl rfl ?_
        | refine wo_offn rfl ?_)
      refine wo_call rfl rfl orc_cons rfl (over_spec p9.sc (by omega)) ?_
      rintro r A11 ⟨rfl, h11⟩
      obtain rfl : A9 = A11 := h11.symm
      repeat (first
        | refine wg_seq ?_
        | refine wg_skip ?_
        | refine wg_block ?_
        | refine wg_scope ?_
        | refine wg_inBlock ?_
        | refine wg_inScope ?_
        | refine wg_region ?_
        | refine wo_nil ?_
        | refine wo_move rfl rfl ?_
        | refine wo_assign rfl rfl ?_
        | refine wo_fieldAddr rfl rfl rfl ?_
        | refine wo_nilCheck rfl rfl ?_
        | refine wo_extract rfl rfl rfl ?_
        | refine wo_load rfl rfl rfl rfl (by assumption) rfl ?_
        | refine wo_eql rfl rfl rfl ?_
        | refine wo_neq rfl rfl rfl ?_
        | refine wo_lss rfl rfl rfl ?_
        | refine wo_gtr rfl rfl rfl ?_
        | refine wo_leq rfl rfl rfl ?_
        | refine wo_geq rfl rfl rfl ?_
        | refine wo_not rfl rfl ?_
        | refine wo_lenStr rfl rfl rfl ?_
        | refine wo_len rfl rfl rfl rfl ?_
        | refine wo_buildSlice rfl rfl rfl ?_
        | refine wo_build rfl rfl rfl ?_
        | refine wo_pick rfl rfl rfl ?_
        | refine wo_strEq rfl rfl rfl ?_
        | refine wo_boolEq rfl rfl rfl rfl ?_
        | refine wo_boolNe rfl rfl rfl rfl ?_
        | refine wo_strNe rfl rfl rfl ?_
        | refine wo_on rfl ?_
        | refine wo_off rfl rfl ?_
        | refine wo_offn rfl ?_)
      refine wo_call rfl rfl orc_cons rfl (rover_spec p9.rs (by omega)) ?_
      rintro r A12 ⟨rfl, h12⟩
      obtain rfl : A9 = A12 := h12.symm
      repeat (first
        | refine wg_seq ?_
        | refine wg_skip ?_
        | refine wg_block ?_
        | refine wg_scope ?_
        | refine wg_inBlock ?_
        | refine wg_inScope ?_
        | refine wg_region ?_
        | refine wo_nil ?_
        | refine wo_move rfl rfl ?_
        | refine wo_assign rfl rfl ?_
        | refine wo_fieldAddr rfl rfl rfl ?_
        | refine wo_nilCheck rfl rfl ?_
        | refine wo_extract rfl rfl rfl ?_
        | refine wo_load rfl rfl rfl rfl (by assumption) rfl ?_
        | refine wo_eql rfl rfl rfl ?_
        | refine wo_neq rfl rfl rfl ?_
        | refine wo_lss rfl rfl rfl ?_
        | refine wo_gtr rfl rfl rfl ?_
        | refine wo_leq rfl rfl rfl ?_
        | refine wo_geq rfl rfl rfl ?_
        | refine wo_not rfl rfl ?_
        | refine wo_lenStr rfl rfl rfl ?_
        | refine wo_len rfl rfl rfl rfl ?_
        | refine wo_buildSlice rfl rfl rfl ?_
        | refine wo_build rfl rfl rfl ?_
        | refine wo_pick rfl rfl rfl ?_
        | refine wo_strEq rfl rfl rfl ?_
        | refine wo_boolEq rfl rfl rfl rfl ?_
        | refine wo_boolNe rfl rfl rfl rfl ?_
        | refine wo_strNe rfl rfl rfl ?_
        | refine wo_on rfl ?_
        | refine wo_off rfl rfl ?_
        | refine wo_offn rfl ?_)
      refine wo_is 182 false rfl (by simp) ?_
      repeat (first
        | refine wg_seq ?_
        | refine wg_skip ?_
        | refine wg_block ?_
        | refine wg_scope ?_
        | refine wg_inBlock ?_
        | refine wg_inScope ?_
        | refine wg_region ?_
        | refine wo_nil ?_
        | refine wo_move rfl rfl ?_
        | refine wo_assign rfl rfl ?_
        | refine wo_fieldAddr rfl rfl rfl ?_
        | refine wo_nilCheck rfl rfl ?_
        | refine wo_extract rfl rfl rfl ?_
        | refine wo_load rfl rfl rfl rfl (by assumption) rfl ?_
        | refine wo_eql rfl rfl rfl ?_
        | refine wo_neq rfl rfl rfl ?_
        | refine wo_lss rfl rfl rfl ?_
        | refine wo_gtr rfl rfl rfl ?_
        | refine wo_leq rfl rfl rfl ?_
        | refine wo_geq rfl rfl rfl ?_
        | refine wo_not rfl rfl ?_
        | refine wo_lenStr rfl rfl rfl ?_
        | refine wo_len rfl rfl rfl rfl ?_
        | refine wo_buildSlice rfl rfl rfl ?_
        | refine wo_build rfl rfl rfl ?_
        | refine wo_pick rfl rfl rfl ?_
        | refine wo_strEq rfl rfl rfl ?_
        | refine wo_boolEq rfl rfl rfl rfl ?_
        | refine wo_boolNe rfl rfl rfl rfl ?_
        | refine wo_strNe rfl rfl rfl ?_
        | refine wo_on rfl ?_
        | refine wo_off rfl rfl ?_
        | refine wo_offn rfl ?_)
      refine wo_call rfl rfl orc_cons rfl (stuck_spec p9.sc (by omega)) ?_
      rintro r A13 ⟨rfl, h13⟩
      obtain rfl : A9 = A13 := h13.symm
      rw [stuckT_eq]
      repeat (first
        | refine wg_seq ?_
        | refine wg_skip ?_
        | refine wg_block ?_
        | refine wg_scope ?_
        | refine wg_inBlock ?_
        | refine wg_inScope ?_
        | refine wg_region ?_
        | refine wo_nil ?_
        | refine wo_move rfl rfl ?_
        | refine wo_assign rfl rfl ?_
        | refine wo_fieldAddr rfl rfl rfl ?_
        | refine wo_nilCheck rfl rfl ?_
        | refine wo_extract rfl rfl rfl ?_
        | refine wo_load rfl rfl rfl rfl (by assumption) rfl ?_
        | refine wo_eql rfl rfl rfl ?_
        | refine wo_neq rfl rfl rfl ?_
        | refine wo_lss rfl rfl rfl ?_
        | refine wo_gtr rfl rfl rfl ?_
        | refine wo_leq rfl rfl rfl ?_
        | refine wo_geq rfl rfl rfl ?_
        | refine wo_not rfl rfl ?_
        | refine wo_lenStr rfl rfl rfl ?_
        | refine wo_len rfl rfl rfl rfl ?_
        | refine wo_buildSlice rfl rfl rfl ?_
        | refine wo_build rfl rfl rfl ?_
        | refine wo_pick rfl rfl rfl ?_
        | refine wo_strEq rfl rfl rfl ?_
        | refine wo_boolEq rfl rfl rfl rfl ?_
        | refine wo_boolNe rfl rfl rfl rfl ?_
        | refine wo_strNe rfl rfl rfl ?_
        | refine wo_on rfl ?_
        | refine wo_off rfl rfl ?_
        | refine wo_offn rfl ?_)
      refine wo_call rfl rfl orc_cons rfl (rover_spec p9.rs (by omega)) ?_
      rintro r A14 ⟨rfl, h14⟩
      obtain rfl : A9 = A14 := h14.symm
      repeat (first
        | refine wo_nil ?_
        | refine wo_move rfl rfl ?_
        | refine wo_assign rfl rfl ?_
        | refine wo_fieldAddr rfl rfl rfl ?_
        | refine wo_nilCheck rfl rfl ?_
        | refine wo_extract rfl rfl rfl ?_
        | refine wo_load rfl rfl rfl rfl (by assumption) rfl ?_
        | refine wo_eql rfl rfl rfl ?_
        | refine wo_neq rfl rfl rfl ?_
        | refine wo_lss rfl rfl rfl ?_
        | refine wo_gtr rfl rfl rfl ?_
        | refine wo_leq rfl rfl rfl ?_
        | refine wo_geq rfl rfl rfl ?_
        | refine wo_not rfl rfl ?_
        | refine wo_lenStr rfl rfl rfl ?_
        | refine wo_len rfl rfl rfl rfl ?_
        | refine wo_buildSlice rfl rfl rfl ?_
        | refine wo_build rfl rfl rfl ?_
        | refine wo_pick rfl rfl rfl ?_
        | refine wo_strEq rfl rfl rfl ?_
        | refine wo_boolEq rfl rfl rfl rfl ?_
        | refine wo_boolNe rfl rfl rfl rfl ?_
        | refine wo_strNe rfl rfl rfl ?_
        | refine wo_on rfl ?_
        | refine wo_off rfl rfl ?_
        | refine wo_offn rfl ?_)
      by_cases hov : ∀ th ∈ us, th.1 = 5
      · rw [decide_eq_true hov]
        repeat (first
          | refine wg_seq ?_
          | refine wg_skip ?_
          | refine wg_block ?_
          | refine wg_scope ?_
          | refine wg_inBlock ?_
          | refine wg_inScope ?_
          | refine wg_region ?_
          | refine wo_nil ?_
          | refine wo_move rfl rfl ?_
          | refine wo_assign rfl rfl ?_
          | refine wo_fieldAddr rfl rfl rfl ?_
          | refine wo_nilCheck rfl rfl ?_
          | refine wo_extract rfl rfl rfl ?_
          | refine wo_load rfl rfl rfl rfl (by assumption) rfl ?_
          | refine wo_eql rfl rfl rfl ?_
          | refine wo_neq rfl rfl rfl ?_
          | refine wo_lss rfl rfl rfl ?_
          | refine wo_gtr rfl rfl rfl ?_
          | refine wo_leq rfl rfl rfl ?_
          | refine wo_geq rfl rfl rfl ?_
          | refine wo_not rfl rfl ?_
          | refine wo_lenStr rfl rfl rfl ?_
          | refine wo_len rfl rfl rfl rfl ?_
          | refine wo_buildSlice rfl rfl rfl ?_
          | refine wo_build rfl rfl rfl ?_
          | refine wo_pick rfl rfl rfl ?_
          | refine wo_strEq rfl rfl rfl ?_
          | refine wo_boolEq rfl rfl rfl rfl ?_
          | refine wo_boolNe rfl rfl rfl rfl ?_
          | refine wo_strNe rfl rfl rfl ?_
          | refine wo_on rfl ?_
          | refine wo_off rfl rfl ?_
          | refine wo_offn rfl ?_)
        refine wg_false rfl ?_
        repeat (first
          | refine wg_seq ?_
          | refine wg_skip ?_
          | refine wg_block ?_
          | refine wg_scope ?_
          | refine wg_inBlock ?_
          | refine wg_inScope ?_
          | refine wg_region ?_
          | refine wo_nil ?_
          | refine wo_move rfl rfl ?_
          | refine wo_assign rfl rfl ?_
          | refine wo_fieldAddr rfl rfl rfl ?_
          | refine wo_nilCheck rfl rfl ?_
          | refine wo_extract rfl rfl rfl ?_
          | refine wo_load rfl rfl rfl rfl (by assumption) rfl ?_
          | refine wo_eql rfl rfl rfl ?_
          | refine wo_neq rfl rfl rfl ?_
          | refine wo_lss rfl rfl rfl ?_
          | refine wo_gtr rfl rfl rfl ?_
          | refine wo_leq rfl rfl rfl ?_
          | refine wo_geq rfl rfl rfl ?_
          | refine wo_not rfl rfl ?_
          | refine wo_lenStr rfl rfl rfl ?_
          | refine wo_len rfl rfl rfl rfl ?_
          | refine wo_buildSlice rfl rfl rfl ?_
          | refine wo_build rfl rfl rfl ?_
          | refine wo_pick rfl rfl rfl ?_
          | refine wo_strEq rfl rfl rfl ?_
          | refine wo_boolEq rfl rfl rfl rfl ?_
          | refine wo_boolNe rfl rfl rfl rfl ?_
          | refine wo_strNe rfl rfl rfl ?_
          | refine wo_on rfl ?_
          | refine wo_off rfl rfl ?_
          | refine wo_offn rfl ?_)
        refine wg_loop ?_
        refine wg_le (.put 0 (.slice f t o items.length c ex) (.put 3 (.ptr fs 0 0) (.put 4 (.ptr fr 0 0) (.put 5 (.int .i64 (i : Int)) (.put 23 (.int .i64 (((0 : Nat) : Int) - 1)) .nil))))) ?_ ⟨rfl, rfl, rfl, rfl, rfl, trivial⟩
        refine wg_ind (ι := Nat) (fun j => us.length + 3 - j) (fun j => .put 0 (.slice f t o items.length c ex) (.put 3 (.ptr fs 0 0) (.put 4 (.ptr fr 0 0) (.put 5 (.int .i64 (i : Int)) (.put 23 (.int .i64 ((j : Int) - 1)) .nil)))))
          (fun j A1 => j ≤ us.length + 3 ∧ Pair A A1 fs fr vs' vj' v' us) ?_ 0 _ ⟨Nat.zero_le _, p9⟩
        rintro j A20 ⟨hj, p20⟩ ih2
        repeat (first
          | refine wg_seq ?_
          | refine wg_skip ?_
          | refine wg_block ?_
          | refine wg_scope ?_
          | refine wg_inBlock ?_
          | refine wg_inScope ?_
          | refine wg_region ?_
          | refine wo_nil ?_
          | refine wo_move rfl rfl ?_
          | refine wo_assign rfl rfl ?_
          | refine wo_fieldAddr rfl rfl rfl ?_
          | refine wo_nilCheck rfl rfl ?_
          | refine wo_extract rfl rfl rfl ?_
          | refine wo_load rfl rfl rfl rfl (by assumption) rfl ?_
          | refine wo_eql rfl rfl rfl ?_
          | refine wo_neq rfl rfl rfl ?_
          | refine wo_lss rfl rfl rfl ?_
          | refine wo_gtr rfl rfl rfl ?_
          | refine wo_leq rfl rfl rfl ?_
          | refine wo_geq rfl rfl rfl ?_
          | refine wo_not rfl rfl ?_
          | refine wo_lenStr rfl rfl rfl ?_
          | refine wo_len rfl rfl rfl rfl ?_
          | refine wo_buildSlice rfl rfl rfl ?_
          | refine wo_build rfl rfl rfl ?_
          | refine wo_pick rfl rfl rfl ?_
          | refine wo_strEq rfl rfl rfl ?_
          | refine wo_boolEq rfl rfl rfl rfl ?_
          | refine wo_boolNe rfl rfl rfl rfl ?_
          | refine wo_strNe rfl rfl rfl ?_
          | refine wo_on rfl ?_
          | refine wo_off rfl rfl ?_
          | refine wo_offn rfl ?_)
        refine wo_call rfl rfl orc_cons rfl (rlen_spec p20.rs) ?_
        rintro r A21 ⟨rfl, rfl⟩
        refine wo_add rfl rfl rfl (by omega) (by omega) ?_
        repeat (first
          | refine wg_seq ?_
          | refine wg_skip ?_
          | refine wg_block ?_
          | refine wg_scope ?_
          | refine wg_inBlock ?_
          | refine wg_inScope ?_
          | refine wg_region ?_
          | refine wo_nil ?_
          | refine wo_move rfl rfl ?_
          | refine wo_assign rfl rfl ?_
          | refine wo_fieldAddr rfl rfl rfl ?_
          | refine wo_nilCheck rfl rfl ?_
          | refine wo_extract rfl rfl rfl ?_
          | refine wo_load rfl rfl rfl rfl (by assumption) rfl ?_
          | refine wo_eql rfl rfl rfl ?_
          | refine wo_neq rfl rfl rfl ?_
          | refine wo_lss rfl rfl rfl ?_
          | refine wo_gtr rfl rfl rfl ?_
          | refine wo_leq rfl rfl rfl ?_
          | refine wo_geq rfl rfl rfl ?_
          | refine wo_not rfl rfl ?_
          | refine wo_lenStr rfl rfl rfl ?_
          | refine wo_len rfl rfl rfl rfl ?_
          | refine wo_buildSlice rfl rfl rfl ?_
          | refine wo_build rfl rfl rfl ?_
          | refine wo_pick rfl rfl rfl ?_
          | refine wo_strEq rfl rfl rfl ?_
          | refine wo_boolEq rfl rfl rfl rfl ?_
          | refine wo_boolNe rfl rfl rfl rfl ?_
          | refine wo_strNe rfl rfl rfl ?_
          | refine wo_on rfl ?_
          | refine wo_off rfl rfl ?_
          | refine wo_offn rfl ?_)
        refine wg_dec rfl (fun hle => ?_) fun hgt => ?_
        · have hle : (j : Int) - 1 ≤ (us.length : Int) + 1 := hle
          repeat (first
            | refine wg_seq ?_
            | refine wg_skip ?_
            | refine wg_block ?_
            | refine wg_scope ?_
            | refine wg_inBlock ?_
            | refine wg_inScope ?_
            | refine wg_region ?_
            | refine wo_nil ?_
            | refine wo_move rfl rfl ?_
            | refine wo_assign rfl rfl ?_
            | refine wo_fieldAddr rfl rfl rfl ?_
            | refine wo_nilCheck rfl rfl ?_
            | refine wo_extract rfl rfl rfl ?_
            | refine wo_load rfl rfl rfl rfl (by assumption) rfl ?_
            | refine wo_eql rfl rfl rfl ?_
            | refine wo_neq rfl rfl rfl ?_
            | refine wo_lss rfl rfl rfl ?_
            | refine wo_gtr rfl rfl rfl ?_
            | refine wo_leq rfl rfl rfl ?_
            | refine wo_geq rfl rfl rfl ?_
            | refine wo_not rfl rfl ?_
            | refine wo_lenStr rfl rfl rfl ?_
            | refine wo_len rfl rfl rfl rfl ?_
            | refine wo_buildSlice rfl rfl rfl ?_
            | refine wo_build rfl rfl rfl ?_
            | refine wo_pick rfl rfl rfl ?_
            | refine wo_strEq rfl rfl rfl ?_
            | refine wo_boolEq rfl rfl rfl rfl ?_
            | refine wo_boolNe rfl rfl rfl rfl ?_
            | refine wo_strNe rfl rfl rfl ?_
            | refine wo_on rfl ?_
            | refine wo_off rfl rfl ?_
            | refine wo_offn rfl ?_)
          refine wo_call rfl rfl orc_cons rfl (state_spec p20.sc (by omega) (by omega)) ?_
          rintro r A22 ⟨rfl, h22⟩
          obtain rfl : A21 = A22 := h22.symm
          repeat (first
            | refine wg_seq ?_
            | refine wg_skip ?_
            | refine wg_block ?_
            | refine wg_scope ?_
            | refine wg_inBlock ?_
            | refine wg_inScope ?_
            | refine wg_region ?_
            | refine wo_nil ?_
            | refine wo_move rfl rfl ?_
            | refine wo_assign rfl rfl ?_
            | refine wo_fieldAddr rfl rfl rfl ?_
            | refine wo_nilCheck rfl rfl ?_
            | refine wo_extract rfl rfl rfl ?_
            | refine wo_load rfl rfl rfl rfl (by assumption) rfl ?_
            | refine wo_eql rfl rfl rfl ?_
            | refine wo_neq rfl rfl rfl ?_
            | refine wo_lss rfl rfl rfl ?_
            | refine wo_gtr rfl rfl rfl ?_
            | refine wo_leq rfl rfl rfl ?_
            | refine wo_geq rfl rfl rfl ?_
            | refine wo_not rfl rfl ?_
            | refine wo_lenStr rfl rfl rfl ?_
            | refine wo_len rfl rfl rfl rfl ?_
            | refine wo_buildSlice rfl rfl rfl ?_
            | refine wo_build rfl rfl rfl ?_
            | refine wo_pick rfl rfl rfl ?_
            | refine wo_strEq rfl rfl rfl ?_
            | refine wo_boolEq rfl rfl rfl rfl ?_
            | refine wo_boolNe rfl rfl rfl rfl ?_
            | refine wo_strNe rfl rfl rfl ?_
            | refine wo_on rfl ?_
            | refine wo_off rfl rfl ?_
            | refine wo_offn rfl ?_)
          refine wo_call rfl rfl orc_cons rfl (rstate_spec p20.rs (by omega) (by omega)) ?_
          rintro r A23 ⟨rfl, h23⟩
          obtain rfl : A21 = A23 := h23.symm
          repeat (first
            | refine wg_seq ?_
            | refine wg_skip ?_
            | refine wg_block ?_
            | refine wg_scope ?_
            | refine wg_inBlock ?_
            | refine wg_inScope ?_
            | refine wg_region ?_
            | refine wo_nil ?_
            | refine wo_move rfl rfl ?_
            | refine wo_assign rfl rfl ?_
            | refine wo_fieldAddr rfl rfl rfl ?_
            | refine wo_nilCheck rfl rfl ?_
            | refine wo_extract rfl rfl rfl ?_
            | refine wo_load rfl rfl rfl rfl (by assumption) rfl ?_
            | refine wo_eql rfl rfl rfl ?_
            | refine wo_neq rfl rfl rfl ?_
            | refine wo_lss rfl rfl rfl ?_
            | refine wo_gtr rfl rfl rfl ?_
            | refine wo_leq rfl rfl rfl ?_
            | refine wo_geq rfl rfl rfl ?_
            | refine wo_not rfl rfl ?_
            | refine wo_lenStr rfl rfl rfl ?_
            | refine wo_len rfl rfl rfl rfl ?_
            | refine wo_buildSlice rfl rfl rfl ?_
            | refine wo_build rfl rfl rfl ?_
            | refine wo_pick rfl rfl rfl ?_
            | refine wo_strEq rfl rfl rfl ?_
            | refine wo_boolEq rfl rfl rfl rfl ?_
            | refine wo_boolNe rfl rfl rfl rfl ?_
            | refine wo_strNe rfl rfl rfl ?_
            | refine wo_on rfl ?_
            | refine wo_off rfl rfl ?_
            | refine wo_offn rfl ?_)
          refine wg_dec rfl (fun h => absurd rfl h) fun _ => ?_
          repeat (first
            | refine wg_seq ?_
            | refine wg_skip ?_
            | refine wg_block ?_
            | refine wg_scope ?_
            | refine wg_inBlock ?_
            | refine wg_inScope ?_
            | refine wg_region ?_
            | refine wo_nil ?_
            | refine wo_move rfl rfl ?_
            | refine wo_assign rfl rfl ?_
            | refine wo_fieldAddr rfl rfl rfl ?_
            | refine wo_nilCheck rfl rfl ?_
            | refine wo_extract rfl rfl rfl ?_
            | refine wo_load rfl rfl rfl rfl (by assumption) rfl ?_
            | refine wo_eql rfl rfl rfl ?_
            | refine wo_neq rfl rfl rfl ?_
            | refine wo_lss rfl rfl rfl ?_
            | refine wo_gtr rfl rfl rfl ?_
            | refine wo_leq rfl rfl rfl ?_
            | refine wo_geq rfl rfl rfl ?_
            | refine wo_not rfl rfl ?_
            | refine wo_lenStr rfl rfl rfl ?_
            | refine wo_len rfl rfl rfl rfl ?_
            | refine wo_buildSlice rfl rfl rfl ?_
            | refine wo_build rfl rfl rfl ?_
            | refine wo_pick rfl rfl rfl ?_
            | refine wo_strEq rfl rfl rfl ?_
            | refine wo_boolEq rfl rfl rfl rfl ?_
            | refine wo_boolNe rfl rfl rfl rfl ?_
            | refine wo_strNe rfl rfl rfl ?_
            | refine wo_on rfl ?_
            | refine wo_off rfl rfl ?_
            | refine wo_offn rfl ?_)
          refine wo_add rfl rfl rfl (by omega) (by omega) ?_
          repeat (first
            | refine wg_seq ?_
            | refine wg_skip ?_
            | refine wg_block ?_
            | refine wg_scope ?_
            | refine wg_inBlock ?_
            | refine wg_inScope ?_
            | refine wg_region ?_
            | refine wo_nil ?_
            | refine wo_move rfl rfl ?_
            | refine wo_assign rfl rfl ?_
            | refine wo_fieldAddr rfl rfl rfl ?_
            | refine wo_nilCheck rfl rfl ?_
            | refine wo_extract rfl rfl rfl ?_
            | refine wo_load rfl rfl rfl rfl (by assumption) rfl ?_
            | refine wo_eql rfl rfl rfl ?_
            | refine wo_neq rfl rfl rfl ?_
            | refine wo_lss rfl rfl rfl ?_
            | refine wo_gtr rfl rfl rfl ?_
            | refine wo_leq rfl rfl rfl ?_
            | refine wo_geq rfl rfl rfl ?_
            | refine wo_not rfl rfl ?_
            | refine wo_lenStr rfl rfl rfl ?_
            | refine wo_len rfl rfl rfl rfl ?_
            | refine wo_buildSlice rfl rfl rfl ?_
            | refine wo_build rfl rfl rfl ?_
            | refine wo_pick rfl rfl rfl ?_
            | refine wo_strEq rfl rfl rfl ?_
            | refine wo_boolEq rfl rfl rfl rfl ?_
            | refine wo_boolNe rfl rfl rfl rfl ?_
            | refine wo_strNe rfl rfl rfl ?_
            | refine wo_on rfl ?_
            | refine wo_off rfl rfl ?_
            | refine wo_offn rfl ?_)
          refine wg_inLoop ?_
          refine wg_le (.put 0 (.slice f t o items.length c ex) (.put 3 (.ptr fs 0 0) (.put 4 (.ptr fr 0 0) (.put 5 (.int .i64 (i : Int)) (.put 23 (.int .i64 (((j + 1 : Nat) : Int) - 1)) .nil))))) ?_ ⟨rfl, rfl, rfl, rfl, congrArg (fun z => some (AV.int .i64 z)) (by omega), trivial⟩
          exact ih2 (j + 1) A21 (by omega) ⟨by omega, p20⟩
        · refine wg_exit rfl ?_
          repeat (first
            | refine wg_seq ?_
            | refine wg_skip ?_
            | refine wg_block ?_
            | refine wg_scope ?_
            | refine wg_inBlock ?_
            | refine wg_inScope ?_
            | refine wg_region ?_
            | refine wo_nil ?_
            | refine wo_move rfl rfl ?_
            | refine wo_assign rfl rfl ?_
            | refine wo_fieldAddr rfl rfl rfl ?_
            | refine wo_nilCheck rfl rfl ?_
            | refine wo_extract rfl rfl rfl ?_
            | refine wo_load rfl rfl rfl rfl (by assumption) rfl ?_
            | refine wo_eql rfl rfl rfl ?_
            | refine wo_neq rfl rfl rfl ?_
            | refine wo_lss rfl rfl rfl ?_
            | refine wo_gtr rfl rfl rfl ?_
            | refine wo_leq rfl rfl rfl ?_
            | refine wo_geq rfl rfl rfl ?_
            | refine wo_not rfl rfl ?_
            | refine wo_lenStr rfl rfl rfl ?_
            | refine wo_len rfl rfl rfl rfl ?_
            | refine wo_buildSlice rfl rfl rfl ?_
            | refine wo_build rfl rfl rfl ?_
            | refine wo_pick rfl rfl rfl ?_
            | refine wo_strEq rfl rfl rfl ?_
            | refine wo_boolEq rfl rfl rfl rfl ?_
            | refine wo_boolNe rfl rfl rfl rfl ?_
            | refine wo_strNe rfl rfl rfl ?_
            | refine wo_on rfl ?_
            | refine wo_off rfl rfl ?_
            | refine wo_offn rfl ?_)
          refine wo_add rfl rfl rfl (by omega) (by omega) ?_
          repeat (first
            | refine wg_seq ?_
            | refine wg_skip ?_
            | refine wg_block ?_
            | refine wg_scope ?_
            | refine wg_inBlock ?_
            | refine wg_inScope ?_
            | refine wg_region ?_
            | refine wo_nil ?_
            | refine wo_move rfl rfl ?_
            | refine wo_assign rfl rfl ?_
            | refine wo_fieldAddr rfl rfl rfl ?_
            | refine wo_nilCheck rfl rfl ?_
            | refine wo_extract rfl rfl rfl ?_
            | refine wo_load rfl rfl rfl rfl (by assumption) rfl ?_
            | refine wo_eql rfl rfl rfl ?_
            | refine wo_neq rfl rfl rfl ?_
            | refine wo_lss rfl rfl rfl ?_
            | refine wo_gtr rfl rfl rfl ?_
            | refine wo_leq rfl rfl rfl ?_
            | refine wo_geq rfl rfl rfl ?_
            | refine wo_not rfl rfl ?_
            | refine wo_lenStr rfl rfl rfl ?_
            | refine wo_len rfl rfl rfl rfl ?_
            | refine wo_buildSlice rfl rfl rfl ?_
            | refine wo_build rfl rfl rfl ?_
            | refine wo_pick rfl rfl rfl ?_
            | refine wo_strEq rfl rfl rfl ?_
            | refine wo_boolEq rfl rfl rfl rfl ?_
            | refine wo_boolNe rfl rfl rfl rfl ?_
            | refine wo_strNe rfl rfl rfl ?_
            | refine wo_on rfl ?_
            | refine wo_off rfl rfl ?_
            | refine wo_offn rfl ?_)
          refine wg_inLoop ?_
          refine wg_le (.put 0 (.slice f t o items.length c ex) (.put 3 (.ptr fs 0 0) (.put 4 (.ptr fr 0 0) (.put 5 (.int .i64 ((i + 1 : Nat) : Int)) .nil)))) ?_ ⟨rfl, rfl, rfl, rfl, trivial⟩
          exact ih (i + 1, vs', vj', v', us) _ (by simp only; omega) ⟨hil, p20⟩
      · rw [decide_eq_false hov]
        repeat (first
          | refine wg_seq ?_
          | refine wg_skip ?_
          | refine wg_block ?_
          | refine wg_scope ?_
          | refine wg_inBlock ?_
          | refine wg_inScope ?_
          | refine wg_region ?_
          | refine wo_nil ?_
          | refine wo_move rfl rfl ?_
          | refine wo_assign rfl rfl ?_
          | refine wo_fieldAddr rfl rfl rfl ?_
          | refine wo_nilCheck rfl rfl ?_
          | refine wo_extract rfl rfl rfl ?_
          | refine wo_load rfl rfl rfl rfl (by assumption) rfl ?_
          | refine wo_eql rfl rfl rfl ?_
          | refine wo_neq rfl rfl rfl ?_
          | refine wo_lss rfl rfl rfl ?_
          | refine wo_gtr rfl rfl rfl ?_
          | refine wo_leq rfl rfl rfl ?_
          | refine wo_geq rfl rfl rfl ?_
          | refine wo_not rfl rfl ?_
          | refine wo_lenStr rfl rfl rfl ?_
          | refine wo_len rfl rfl rfl rfl ?_
          | refine wo_buildSlice rfl rfl rfl ?_
          | refine wo_build rfl rfl rfl ?_
          | refine wo_pick rfl rfl rfl ?_
          | refine wo_strEq rfl rfl rfl ?_
          | refine wo_boolEq rfl rfl rfl rfl ?_
          | refine wo_boolNe rfl rfl rfl rfl ?_
          | refine wo_strNe rfl rfl rfl ?_
          | refine wo_on rfl ?_
          | refine wo_off rfl rfl ?_
          | refine wo_offn rfl ?_)
        refine wo_call rfl rfl orc_cons rfl (rready_spec p9.wf p9.rs (by omega)) ?_
        rintro vn A15 ⟨hn15, o15, _⟩
        have p9 := p9.quiet o15
        repeat (first
          | refine wg_seq ?_
          | refine wg_skip ?_
          | refine wg_block ?_
          | refine wg_scope ?_
          | refine wg_inBlock ?_
          | refine wg_inScope ?_
          | refine wg_region ?_
          | refine wo_nil ?_
          | refine wo_move rfl rfl ?_
          | refine wo_assign rfl rfl ?_
          | refine wo_fieldAddr rfl rfl rfl ?_
          | refine wo_nilCheck rfl rfl ?_
          | refine wo_extract rfl rfl rfl ?_
          | refine wo_load rfl rfl rfl rfl (by assumption) rfl ?_
          | refine wo_eql rfl rfl rfl ?_
          | refine wo_neq rfl rfl rfl ?_
          | refine wo_lss rfl rfl rfl ?_
          | refine wo_gtr rfl rfl rfl ?_
          | refine wo_leq rfl rfl rfl ?_
          | refine wo_geq rfl rfl rfl ?_
          | refine wo_not rfl rfl ?_
          | refine wo_lenStr rfl rfl rfl ?_
          | refine wo_len rfl rfl rfl rfl ?_
          | refine wo_buildSlice rfl rfl rfl ?_
          | refine wo_build rfl rfl rfl ?_
          | refine wo_pick rfl rfl rfl ?_
          | refine wo_strEq rfl rfl rfl ?_
          | refine wo_boolEq rfl rfl rfl rfl ?_
          | refine wo_boolNe rfl rfl rfl rfl ?_
          | refine wo_strNe rfl rfl rfl ?_
          | refine wo_on rfl ?_
          | refine wo_off rfl rfl ?_
          | refine wo_offn rfl ?_)
        refine wo_len rfl rfl rfl hn15.lenV ?_
        repeat (first
          | refine wg_seq ?_
          | refine wg_skip ?_
          | refine wg_block ?_
          | refine wg_scope ?_
          | refine wg_inBlock ?_
          | refine wg_inScope ?_
          | refine wg_region ?_
          | refine wo_nil ?_
          | refine wo_move rfl rfl ?_
          | refine wo_assign rfl rfl ?_
          | refine wo_fieldAddr rfl rfl rfl ?_
          | refine wo_nilCheck rfl rfl ?_
          | refine wo_extract rfl rfl rfl ?_
          | refine wo_load rfl rfl rfl rfl (by assumption) rfl ?_
          | refine wo_eql rfl rfl rfl ?_
          | refine wo_neq rfl rfl rfl ?_
          | refine wo_lss rfl rfl rfl ?_
          | refine wo_gtr rfl rfl rfl ?_
          | refine wo_leq rfl rfl rfl ?_
          | refine wo_geq rfl rfl rfl ?_
          | refine wo_not rfl rfl ?_
          | refine wo_lenStr rfl rfl rfl ?_
          | refine wo_len rfl rfl rfl rfl ?_
          | refine wo_buildSlice rfl rfl rfl ?_
          | refine wo_build rfl rfl rfl ?_
          | refine wo_pick rfl rfl rfl ?_
          | refine wo_strEq rfl rfl rfl ?_
          | refine wo_boolEq rfl rfl rfl rfl ?_
          | refine wo_boolNe rfl rfl rfl rfl ?_
          | refine wo_strNe rfl rfl rfl ?_
          | refine wo_on rfl ?_
          | refine wo_off rfl rfl ?_
          | refine wo_offn rfl ?_)
        have e0 : decide (((readyT us).length : Int) = 0) = decide ((readyT us).length = 0) := decide_eq_decide.2 (by omega)
        rw [e0]
        cases decide ((readyT us).length = 0)
        · refine wg_false rfl ?_
          repeat (first
            | refine wg_seq ?_
            | refine wg_skip ?_
            | refine wg_block ?_
            | refine wg_scope ?_
            | refine wg_inBlock ?_
            | refine wg_inScope ?_
            | refine wg_region ?_
            | refine wo_nil ?_
            | refine wo_move rfl rfl ?_
            | refine wo_assign rfl rfl ?_
            | refine wo_fieldAddr rfl rfl rfl ?_
            | refine wo_nilCheck rfl rfl ?_
            | refine wo_extract rfl rfl rfl ?_
            | refine wo_load rfl rfl rfl rfl (by assumption) rfl ?_
            | refine wo_eql rfl rfl rfl ?_
            | refine wo_neq rfl rfl rfl ?_
            | refine wo_lss rfl rfl rfl ?_
            | refine wo_gtr rfl rfl rfl ?_
            | refine wo_leq rfl rfl rfl ?_
            | refine wo_geq rfl rfl rfl ?_
            | refine wo_not rfl rfl ?_
            | refine wo_lenStr rfl rfl rfl ?_
            | refine wo_len rfl rfl rfl rfl ?_
            | refine wo_buildSlice rfl rfl rfl ?_
            | refine wo_build rfl rfl rfl ?_
            | refine wo_pick rfl rfl rfl ?_
            | refine wo_strEq rfl rfl rfl ?_
            | refine wo_boolEq rfl rfl rfl rfl ?_
            | refine wo_boolNe rfl rfl rfl rfl ?_
            | refine wo_strNe rfl rfl rfl ?_
            | refine wo_on rfl ?_
            | refine wo_off rfl rfl ?_
            | refine wo_offn rfl ?_)
          refine wg_loop ?_
          refine wg_le (.put 0 (.slice f t o items.length c ex) (.put 3 (.ptr fs 0 0) (.put 4 (.ptr fr 0 0) (.put 5 (.int .i64 (i : Int)) (.put 23 (.int .i64 (((0 : Nat) : Int) - 1)) .nil))))) ?_ ⟨rfl, rfl, rfl, rfl, rfl, trivial⟩
          refine wg_ind (ι := Nat) (fun j => us.length + 3 - j) (fun j => .put 0 (.slice f t o items.length c ex) (.put 3 (.ptr fs 0 0) (.put 4 (.ptr fr 0 0) (.put 5 (.int .i64 (i : Int)) (.put 23 (.int .i64 ((j : Int) - 1)) .nil)))))
            (fun j A1 => j ≤ us.length + 3 ∧ Pair A A1 fs fr vs' vj' v' us) ?_ 0 _ ⟨Nat.zero_le _, p9⟩
          rintro j A20 ⟨hj, p20⟩ ih2
          repeat (first
            | refine wg_seq ?_
            | refine wg_skip ?_
            | refine wg_block ?_
            | refine wg_scope ?_
            | refine wg_inBlock ?_
            | refine wg_inScope ?_
            | refine wg_region ?_
            | refine wo_nil ?_
            | refine wo_move rfl rfl ?_
            | refine wo_assign rfl rfl ?_
            | refine wo_fieldAddr rfl rfl rfl ?_
            | refine wo_nilCheck rfl rfl ?_
            | refine wo_extract rfl rfl rfl ?_
            | refine wo_load rfl rfl rfl rfl (by assumption) rfl ?_
            | refine wo_eql rfl rfl rfl ?_
            | refine wo_neq rfl rfl rfl ?_
            | refine wo_lss rfl rfl rfl ?_
            | refine wo_gtr rfl rfl rfl ?_
            | refine wo_leq rfl rfl rfl ?_
            | refine wo_geq rfl rfl rfl ?_
            | refine wo_not rfl rfl ?_
            | refine wo_lenStr rfl rfl rfl ?_
            | refine wo_len rfl rfl rfl rfl ?_
            | refine wo_buildSlice rfl rfl rfl ?_
            | refine wo_build rfl rfl rfl ?_
            | refine wo_pick rfl rfl rfl ?_
            | refine wo_strEq rfl rfl rfl ?_
            | refine wo_boolEq rfl rfl rfl rfl ?_
            | refine wo_boolNe rfl rfl rfl rfl ?_
            | refine wo_strNe rfl rfl rfl ?_
            | refine wo_on rfl ?_
            | refine wo_off rfl rfl ?_
            | refine wo_offn rfl ?_)
          refine wo_call rfl rfl orc_cons rfl (rlen_spec p20.rs) ?_
          rintro r A21 ⟨rfl, rfl⟩
          refine wo_add rfl rfl rfl (by omega) (by omega) ?_
          repeat (first
            | refine wg_seq ?_
            | refine wg_skip ?_
            | refine wg_block ?_
            | refine wg_scope ?_
            | refine wg_inBlock ?_
            | refine wg_inScope ?_
            | refine wg_region ?_
            | refine wo_nil ?_
            | refine wo_move rfl rfl ?_
            | refine wo_assign rfl rfl ?_
            | refine wo_fieldAddr rfl rfl rfl ?_
            | refine wo_nilCheck rfl rfl ?_
            | refine wo_extract rfl rfl rfl ?_
            | refine wo_load rfl rfl rfl rfl (by assumption) rfl ?_
            | refine wo_eql rfl rfl rfl ?_
            | refine wo_neq rfl rfl rfl ?_
            | refine wo_lss rfl rfl rfl ?_
            | refine wo_gtr rfl rfl rfl ?_
            | refine wo_leq rfl rfl rfl ?_
            | refine wo_geq rfl rfl rfl ?_
            | refine wo_not rfl rfl ?_
            | refine wo_lenStr rfl rfl rfl ?_
            | refine wo_len rfl rfl rfl rfl ?_
            | refine wo_buildSlice rfl rfl rfl ?_
            | refine wo_build rfl rfl rfl ?_
            | refine wo_pick rfl rfl rfl ?_
            | refine wo_strEq rfl rfl rfl ?_
            | refine wo_boolEq rfl rfl rfl rfl ?_
            | refine wo_boolNe rfl rfl rfl rfl ?_
            | refine wo_strNe rfl rfl rfl ?_
            | refine wo_on rfl ?_
            | refine wo_off rfl rfl ?_
            | refine wo_offn rfl ?_)
          refine wg_dec rfl (fun hle => ?_) fun hgt => ?_
          · have hle : (j : Int) - 1 ≤ (us.length : Int) + 1 := hle
            repeat (first
              | refine wg_seq ?_
              | refine wg_skip ?_
              | refine wg_block ?_
              | refine wg_scope ?_
              | refine wg_inBlock ?_
              | refine wg_inScope ?_
              | refine wg_region ?_
              | refine wo_nil ?_
              | refine wo_move rfl rfl ?_
              | refine wo_assign rfl rfl ?_
              | refine wo_fieldAddr rfl rfl rfl ?_
              | refine wo_nilCheck rfl rfl ?_
              | refine wo_extract rfl rfl rfl ?_
              | refine wo_load rfl rfl rfl rfl (by assumption) rfl ?_
              | refine wo_eql rfl rfl rfl ?_
              | refine wo_neq rfl rfl rfl ?_
              | refine wo_lss rfl rfl rfl ?_
              | refine wo_gtr rfl rfl rfl ?_
              | refine wo_leq rfl rfl rfl ?_
              | refine wo_geq rfl rfl rfl ?_
              | refine wo_not rfl rfl ?_
              | refine wo_lenStr rfl rfl rfl ?_
              | refine wo_len rfl rfl rfl rfl ?_
              | refine wo_buildSlice rfl rfl rfl ?_
              | refine wo_build rfl rfl rfl ?_
              | refine wo_pick rfl rfl rfl ?_
              | refine wo_strEq rfl rfl rfl ?_
              | refine wo_boolEq rfl rfl rfl rfl ?_
              | refine wo_boolNe rfl rfl rfl rfl ?_
              | refine wo_strNe rfl rfl rfl ?_
              | refine wo_on rfl ?_
              | refine wo_off rfl rfl ?_
              | refine wo_offn rfl ?_)
            refine wo_call rfl rfl orc_cons rfl (state_spec p20.sc (by omega) (by omega)) ?_
            rintro r A22 ⟨rfl, h22⟩
            obtain rfl : A21 = A22 := h22.symm
            repeat (first
              | refine wg_seq ?_
              | refine wg_skip ?_
              | refine wg_block ?_
              | refine wg_scope ?_
              | refine wg_inBlock ?_
              | refine wg_inScope ?_
              | refine wg_region ?_
              | refine wo_nil ?_
              | refine wo_move rfl rfl ?_
              | refine wo_assign rfl rfl ?_
              | refine wo_fieldAddr rfl rfl rfl ?_
              | refine wo_nilCheck rfl rfl ?_
              | refine wo_extract rfl rfl rfl ?_
              | refine wo_load rfl rfl rfl rfl (by assumption) rfl ?_
              | refine wo_eql rfl rfl rfl ?_
              | refine wo_neq rfl rfl rfl ?_
              | refine wo_lss rfl rfl rfl ?_
              | refine wo_gtr rfl rfl rfl ?_
              | refine wo_leq rfl rfl rfl ?_
              | refine wo_geq rfl rfl rfl ?_
              | refine wo_not rfl rfl ?_
              | refine wo_lenStr rfl rfl rfl ?_
              | refine wo_len rfl rfl rfl rfl ?_
              | refine wo_buildSlice rfl rfl rfl ?_
              | refine wo_build rfl rfl rfl ?_
              | refine wo_pick rfl rfl rfl ?_
              | refine wo_strEq rfl rfl rfl ?_
              | refine wo_boolEq rfl rfl rfl rfl ?_
              | refine wo_boolNe rfl rfl rfl rfl ?_
              | refine wo_strNe rfl rfl rfl ?_
              | refine wo_on rfl ?_
              | refine wo_off rfl rfl ?_
              | refine wo_offn rfl ?_)
            refine wo_call rfl rfl orc_cons rfl (rstate_spec p20.rs (by omega) (by omega)) ?_
            rintro r A23 ⟨rfl, h23⟩
            obtain rfl : A21 = A23 := h23.symm
            repeat (first
              | refine wg_seq ?_
              | refine wg_skip ?_
              | refine wg_block ?_
              | refine wg_scope ?_
              | refine wg_inBlock ?_
              | refine wg_inScope ?_
              | refine wg_region ?_
              | refine wo_nil ?_
              | refine wo_move rfl rfl ?_
              | refine wo_assign rfl rfl ?_
              | refine wo_fieldAddr rfl rfl rfl ?_
              | refine wo_nilCheck rfl rfl ?_
              | refine wo_extract rfl rfl rfl ?_
              | refine wo_load rfl rfl rfl rfl (by assumption) rfl ?_
              | refine wo_eql rfl rfl rfl ?_
              | refine wo_neq rfl rfl rfl ?_
              | refine wo_lss rfl rfl rfl ?_
              | refine wo_gtr rfl rfl rfl ?_
              | refine wo_leq rfl rfl rfl ?_
              | refine wo_geq rfl rfl rfl ?_
              | refine wo_not rfl rfl ?_
              | refine wo_lenStr rfl rfl rfl ?_
              | refine wo_len rfl rfl rfl rfl ?_
              | refine wo_buildSlice rfl rfl rfl ?_
              | refine wo_build rfl rfl rfl ?_
              | refine wo_pick rfl rfl rfl ?_
              | refine wo_strEq rfl rfl rfl ?_
              | refine wo_boolEq rfl rfl rfl rfl ?_
              | refine wo_boolNe rfl rfl rfl rfl ?_
              | refine wo_strNe rfl rfl rfl ?_
              | refine wo_on rfl ?_
              | refine wo_off rfl rfl ?_
              | refine wo_offn rfl ?_)
            refine wg_dec rfl (fun h => absurd rfl h) fun _ => ?_
            repeat (first
              | refine wg_seq ?_
              | refine wg_skip ?_
              | refine wg_block ?_
              | refine wg_scope ?_
              | refine wg_inBlock ?_
              | refine wg_inScope ?_
              | refine wg_region ?_
              | refine wo_nil ?_
              | refine wo_move rfl rfl ?_
              | refine wo_assign rfl rfl ?_
              | refine wo_fieldAddr rfl rfl rfl ?_
              | refine wo_nilCheck rfl rfl ?_
              | refine wo_extract rfl rfl rfl ?_
              | refine wo_load rfl rfl rfl rfl (by assumption) rfl ?_
              | refine wo_eql rfl rfl rfl ?_
              | refine wo_neq rfl rfl rfl ?_
              | refine wo_lss rfl rfl rfl ?_
              | refine wo_gtr rfl rfl rfl ?_
              | refine wo_leq rfl rfl rfl ?_
              | refine wo_geq rfl rfl rfl ?_
              | refine wo_not rfl rfl ?_
              | refine wo_lenStr rfl rfl rfl ?_
              | refine wo_len rfl rfl rfl rfl ?_
              | refine wo_buildSlice rfl rfl rfl ?_
              | refine wo_build rfl rfl rfl ?_
              | refine wo_pick rfl rfl rfl ?_
              | refine wo_strEq rfl rfl rfl ?_
              | refine wo_boolEq rfl rfl rfl rfl ?_
              | refine wo_boolNe rfl rfl rfl rfl ?_
              | refine wo_strNe rfl rfl rfl ?_
              | refine wo_on rfl ?_
              | refine wo_off rfl rfl ?_
              | refine wo_offn rfl ?_)
            refine wo_add rfl rfl rfl (by omega) (by omega) ?_
            repeat (first
              | refine wg_seq ?_
              | refine wg_skip ?_
              | refine wg_block ?_
              | refine wg_scope ?_
              | refine wg_inBlock ?_
              | refine wg_inScope ?_
              | refine wg_region ?_
              | refine wo_nil ?_
              | refine wo_move rfl rfl ?_
              | refine wo_assign rfl rfl ?_
              | refine wo_fieldAddr rfl rfl rfl ?_
              | refine wo_nilCheck rfl rfl ?_
              | refine wo_extract rfl rfl rfl ?_
              | refine wo_load rfl rfl rfl rfl (by assumption) rfl ?_
              | refine wo_eql rfl rfl rfl ?_
              | refine wo_neq rfl rfl rfl ?_
              | refine wo_lss rfl rfl rfl ?_
              | refine wo_gtr rfl rfl rfl ?_
              | refine wo_leq rfl rfl rfl ?_
              | refine wo_geq rfl rfl rfl ?_
              | refine wo_not rfl rfl ?_
              | refine wo_lenStr rfl rfl rfl ?_
              | refine wo_len rfl rfl rfl rfl ?_
              | refine wo_buildSlice rfl rfl rfl ?_
              | refine wo_build rfl rfl rfl ?_
              | refine wo_pick rfl rfl rfl ?_
              | refine wo_strEq rfl rfl rfl ?_
              | refine wo_boolEq rfl rfl rfl rfl ?_
              | refine wo_boolNe rfl rfl rfl rfl ?_
              | refine wo_strNe rfl rfl rfl ?_
              | refine wo_on rfl ?_
              | refine wo_off rfl rfl ?_
              | refine wo_offn rfl ?_)
            refine wg_inLoop ?_
            refine wg_le (.put 0 (.slice f t o items.length c ex) (.put 3 (.ptr fs 0 0) (.put 4 (.ptr fr 0 0) (.put 5 (.int .i64 (i : Int)) (.put 23 (.int .i64 (((j + 1 : Nat) : Int) - 1)) .nil))))) ?_ ⟨rfl, rfl, rfl, rfl, congrArg (fun z => some (AV.int .i64 z)) (by omega), trivial⟩
            exact ih2 (j + 1) A21 (by omega) ⟨by omega, p20⟩
          · refine wg_exit rfl ?_
            repeat (first
              | refine wg_seq ?_
              | refine wg_skip ?_
              | refine wg_block ?_
              | refine wg_scope ?_
              | refine wg_inBlock ?_
              | refine wg_inScope ?_
              | refine wg_region ?_
              | refine wo_nil ?_
              | refine wo_move rfl rfl ?_
              | refine wo_assign rfl rfl ?_
              | refine wo_fieldAddr rfl rfl rfl ?_
              | refine wo_nilCheck rfl rfl ?_
              | refine wo_extract rfl rfl rfl ?_
              | refine wo_load rfl rfl rfl rfl (by assumption) rfl ?_
              | refine wo_eql rfl rfl rfl ?_
              | refine wo_neq rfl rfl rfl ?_
              | refine wo_lss rfl rfl rfl ?_
              | refine wo_gtr rfl rfl rfl ?_
              | refine wo_leq rfl rfl rfl ?_
              | refine wo_geq rfl rfl rfl ?_
              | refine wo_not rfl rfl ?_
              | refine wo_lenStr rfl rfl rfl ?_
              | refine wo_len rfl rfl rfl rfl ?_
              | refine wo_buildSlice rfl rfl rfl ?_
              | refine wo_build rfl rfl rfl ?_
              | refine wo_pick rfl rfl rfl ?_
              | refine wo_strEq rfl rfl rfl ?_
              | refine wo_boolEq rfl rfl rfl rfl ?_
              | refine wo_boolNe rfl rfl rfl rfl ?_
              | refine wo_strNe rfl rfl rfl ?_
              | refine wo_on rfl ?_
              | refine wo_off rfl rfl ?_
              | refine wo_offn rfl ?_)
            refine wo_add rfl rfl rfl (by omega) (by omega) ?_
            repeat (first
              | refine wg_seq ?_
              | refine wg_skip ?_
              | refine wg_block ?_
              | refine wg_scope ?_
              | refine wg_inBlock ?_
              | refine wg_inScope ?_
              | refine wg_region ?_
              | refine wo_nil ?_
              | refine wo_move rfl rfl ?_
              | refine wo_assign rfl rfl ?_
              | refine wo_fieldAddr rfl rfl rfl ?_
              | refine wo_nilCheck rfl rfl ?_
              | refine wo_extract rfl rfl rfl ?_
              | refine wo_load rfl rfl rfl rfl (by assumption) rfl ?_
              | refine wo_eql rfl rfl rfl ?_
              | refine wo_neq rfl rfl rfl ?_
              | refine wo_lss rfl rfl rfl ?_
              | refine wo_gtr rfl rfl rfl ?_
              | refine wo_leq rfl rfl rfl ?_
              | refine wo_geq rfl rfl rfl ?_
              | refine wo_not rfl rfl ?_
              | refine wo_lenStr rfl rfl rfl ?_
              | refine wo_len rfl rfl rfl rfl ?_
              | refine wo_buildSlice rfl rfl rfl ?_
              | refine wo_build rfl rfl rfl ?_
              | refine wo_pick rfl rfl rfl ?_
              | refine wo_strEq rfl rfl rfl ?_
              | refine wo_boolEq rfl rfl rfl rfl ?_
              | refine wo_boolNe rfl rfl rfl rfl ?_
              | refine wo_strNe rfl rfl rfl ?_
              | refine wo_on rfl ?_
              | refine wo_off rfl rfl ?_
              | refine wo_offn rfl ?_)
            refine wg_inLoop ?_
            refine wg_le (.put 0 (.slice f t o items.length c ex) (.put 3 (.ptr fs 0 0) (.put 4 (.ptr fr 0 0) (.put 5 (.int .i64 ((i + 1 : Nat) : Int)) .nil)))) ?_ ⟨rfl, rfl, rfl, rfl, trivial⟩
            exact ih (i + 1, vs', vj', v', us) _ (by simp only; omega) ⟨hil, p20⟩
        · refine wg_false rfl ?_
          repeat (first
            | refine wg_seq ?_
            | refine wg_skip ?_
            | refine wg_block ?_
            | refine wg_scope ?_
            | refine wg_inBlock ?_
            | refine wg_inScope ?_
            | refine wg_region ?_
            | refine wo_nil ?_
            | refine wo_move rfl rfl ?_
            | refine wo_assign rfl rfl ?_
            | refine wo_fieldAddr rfl rfl rfl ?_
            | refine wo_nilCheck rfl rfl ?_
            | refine wo_extract rfl rfl rfl ?_
            | refine wo_load rfl rfl rfl rfl (by assumption) rfl ?_
            | refine wo_eql rfl rfl rfl ?_
            | refine wo_neq rfl rfl rfl ?_
            | refine wo_lss rfl rfl rfl ?_
            | refine wo_gtr rfl rfl rfl ?_
            | refine wo_leq rfl rfl rfl ?_
            | refine wo_geq rfl rfl rfl ?_
            | refine wo_not rfl rfl ?_
            | refine wo_lenStr rfl rfl rfl ?_
            | refine wo_len rfl rfl rfl rfl ?_
            | refine wo_buildSlice rfl rfl rfl ?_
            | refine wo_build rfl rfl rfl ?_
            | refine wo_pick rfl rfl rfl ?_
            | refine wo_strEq rfl rfl rfl ?_
            | refine wo_boolEq rfl rfl rfl rfl ?_
            | refine wo_boolNe rfl rfl rfl rfl ?_
            | refine wo_strNe rfl rfl rfl ?_
            | refine wo_on rfl ?_
            | refine wo_off rfl rfl ?_
            | refine wo_offn rfl ?_)
          refine wg_loop ?_
          refine wg_le (.put 0 (.slice f t o items.length c ex) (.put 3 (.ptr fs 0 0) (.put 4 (.ptr fr 0 0) (.put 5 (.int .i64 (i : Int)) (.put 23 (.int .i64 (((0 : Nat) : Int) - 1)) .nil))))) ?_ ⟨rfl, rfl, rfl, rfl, rfl, trivial⟩
          refine wg_ind (ι := Nat) (fun j => us.length + 3 - j) (fun j => .put 0 (.slice f t o items.length c ex) (.put 3 (.ptr fs 0 0) (.put 4 (.ptr fr 0 0) (.put 5 (.int .i64 (i : Int)) (.put 23 (.int .i64 ((j : Int) - 1)) .nil)))))
            (fun j A1 => j ≤ us.length + 3 ∧ Pair A A1 fs fr vs' vj' v' us) ?_ 0 _ ⟨Nat.zero_le _, p9⟩
          rintro j A20 ⟨hj, p20⟩ ih2
          repeat (first
            | refine wg_seq ?_
            | refine wg_skip ?_
            | refine wg_block ?_
            | refine wg_scope ?_
            | refine wg_inBlock ?_
            | refine wg_inScope ?_
            | refine wg_region ?_
            | refine wo_nil ?_
            | refine wo_move rfl rfl ?_
            | refine wo_assign rfl rfl ?_
            | refine wo_fieldAddr rfl rfl rfl ?_
            | refine wo_nilCheck rfl rfl ?_
            | refine wo_extract rfl rfl rfl ?_
            | refine wo_load rfl rfl rfl rfl (by assumption) rfl ?_
            | refine wo_eql rfl rfl rfl ?_
            | refine wo_neq rfl rfl rfl ?_
            | refine wo_lss rfl rfl rfl ?_
            | refine wo_gtr rfl rfl rfl ?_
            | refine wo_leq rfl rfl rfl ?_
            | refine wo_geq rfl rfl rfl ?_
            | refine wo_not rfl rfl ?_
            | refine wo_lenStr rfl rfl rfl ?_
            | refine wo_len rfl rfl rfl rfl ?_
            | refine wo_buildSlice rfl rfl rfl ?_
            | refine wo_build rfl rfl rfl ?_
            | refine wo_pick rfl rfl rfl ?_
            | refine wo_strEq rfl rfl rfl ?_
            | refine wo_boolEq rfl rfl rfl rfl ?_
            | refine wo_boolNe rfl rfl rfl rfl ?_
            | refine wo_strNe rfl rfl rfl ?_
            | refine wo_on rfl ?_
            | refine wo_off rfl rfl ?_
            | refine wo_offn rfl ?_)
          refine wo_call rfl rfl orc_cons rfl (rlen_spec p20.rs) ?_
          rintro r A21 ⟨rfl, rfl⟩
          refine wo_add rfl rfl rfl (by omega) (by omega) ?_
          repeat (first
            | refine wg_seq ?_
            | refine wg_skip ?_
            | refine wg_block ?_
            | refine wg_scope ?_
            | refine wg_inBlock ?_
            | refine wg_inScope ?_
            | refine wg_region ?_
            | refine wo_nil ?_
            | refine wo_move rfl rfl ?_
            | refine wo_assign rfl rfl ?_
            | refine wo_fieldAddr rfl rfl rfl ?_
            | refine wo_nilCheck rfl rfl ?_
            | refine wo_extract rfl rfl rfl ?_
            | refine wo_load rfl rfl rfl rfl (by assumption) rfl ?_
            | refine wo_eql rfl rfl rfl ?_
            | refine wo_neq rfl rfl rfl ?_
            | refine wo_lss rfl rfl rfl ?_
            | refine wo_gtr rfl rfl rfl ?_
            | refine wo_leq rfl rfl rfl ?_
            | refine wo_geq rfl rfl rfl ?_
            | refine wo_not rfl rfl ?_
            | refine wo_lenStr rfl rfl rfl ?_
            | refine wo_len rfl rfl rfl rfl ?_
            | refine wo_buildSlice rfl rfl rfl ?_
            | refine wo_build rfl rfl rfl ?_
            | refine wo_pick rfl rfl rfl ?_
            | refine wo_strEq rfl rfl rfl ?_
            | refine wo_boolEq rfl rfl rfl rfl ?_
            | refine wo_boolNe rfl rfl rfl rfl ?_
            | refine wo_strNe rfl rfl rfl ?_
            | refine wo_on rfl ?_
            | refine wo_off rfl rfl ?_
            | refine wo_offn rfl ?_)
          refine wg_dec rfl (fun hle => ?_) fun hgt => ?_
          · have hle : (j : Int) - 1 ≤ (us.length : Int) + 1 := hle
            repeat (first
              | refine wg_seq ?_
              | refine wg_skip ?_
              | refine wg_block ?_
              | refine wg_scope ?_
              | refine wg_inBlock ?_
              | refine wg_inScope ?_
              | refine wg_region ?_
              | refine wo_nil ?_
              | refine wo_move rfl rfl ?_
              | refine wo_assign rfl rfl ?_
              | refine wo_fieldAddr rfl rfl rfl ?_
              | refine wo_nilCheck rfl rfl ?_
              | refine wo_extract rfl rfl rfl ?_
              | refine wo_load rfl rfl rfl rfl (by assumption) rfl ?_
              | refine wo_eql rfl rfl rfl ?_
              | refine wo_neq rfl rfl rfl ?_
              | refine wo_lss rfl rfl rfl ?_
              | refine wo_gtr rfl rfl rfl ?_
              | refine wo_leq rfl rfl rfl ?_
              | refine wo_geq rfl rfl rfl ?_
              | refine wo_not rfl rfl ?_
              | refine wo_lenStr rfl rfl rfl ?_
              | refine wo_len rfl rfl rfl rfl ?_
              | refine wo_buildSlice rfl rfl rfl ?_
              | refine wo_build rfl rfl rfl ?_
              | refine wo_pick rfl rfl rfl ?_
              | refine wo_strEq rfl rfl rfl ?_
              | refine wo_boolEq rfl rfl rfl rfl ?_
              | refine wo_boolNe rfl rfl rfl rfl ?_
              | refine wo_strNe rfl rfl rfl ?_
              | refine wo_on rfl ?_
              | refine wo_off rfl rfl ?_
              | refine wo_offn rfl ?_)
            refine wo_call rfl rfl orc_cons rfl (state_spec p20.sc (by omega) (by omega)) ?_
            rintro r A22 ⟨rfl, h22⟩
            obtain rfl : A21 = A22 := h22.symm
            repeat (first
              | refine wg_seq ?_
              | refine wg_skip ?_
              | refine wg_block ?_
              | refine wg_scope ?_
              | refine wg_inBlock ?_
              | refine wg_inScope ?_
              | refine wg_region ?_
              | refine wo_nil ?_
              | refine wo_move rfl rfl ?_
              | refine wo_assign rfl rfl ?_
              | refine wo_fieldAddr rfl rfl rfl ?_
              | refine wo_nilCheck rfl rfl ?_
              | refine wo_extract rfl rfl rfl ?_
              | refine wo_load rfl rfl rfl rfl (by assumption) rfl ?_
              | refine wo_eql rfl rfl rfl ?_
              | refine wo_neq rfl rfl rfl ?_
              | refine wo_lss rfl rfl rfl ?_
              | refine wo_gtr rfl rfl rfl ?_
              | refine wo_leq rfl rfl rfl ?_
              | refine wo_geq rfl rfl rfl ?_
              | refine wo_not rfl rfl ?_
              | refine wo_lenStr rfl rfl rfl ?_
              | refine wo_len rfl rfl rfl rfl ?_
              | refine wo_buildSlice rfl rfl rfl ?_
              | refine wo_build rfl rfl rfl ?_
              | refine wo_pick rfl rfl rfl ?_
              | refine wo_strEq rfl rfl rfl ?_
              | refine wo_boolEq rfl rfl rfl rfl ?_
              | refine wo_boolNe rfl rfl rfl rfl ?_
              | refine wo_strNe rfl rfl rfl ?_
              | refine wo_on rfl ?_
              | refine wo_off rfl rfl ?_
              | refine wo_offn rfl ?_)
            refine wo_call rfl rfl orc_cons rfl (rstate_spec p20.rs (by omega) (by omega)) ?_
            rintro r A23 ⟨rfl, h23⟩
            obtain rfl : A21 = A23 := h23.symm
            repeat (first
              | refine wg_seq ?_
              | refine wg_skip ?_
              | refine wg_block ?_
              | refine wg_scope ?_
              | refine wg_inBlock ?_
              | refine wg_inScope ?_
              | refine wg_region ?_
              | refine wo_nil ?_
              | refine wo_move rfl rfl ?_
              | refine wo_assign rfl rfl ?_
              | refine wo_fieldAddr rfl rfl rfl ?_
              | refine wo_nilCheck rfl rfl ?_
              | refine wo_extract rfl rfl rfl ?_
              | refine wo_load rfl rfl rfl rfl (by assumption) rfl ?_
              | refine wo_eql rfl rfl rfl ?_
              | refine wo_neq rfl rfl rfl ?_
              | refine wo_lss rfl rfl rfl ?_
              | refine wo_gtr rfl rfl rfl ?_
              | refine wo_leq rfl rfl rfl ?_
              | refine wo_geq rfl rfl rfl ?_
              | refine wo_not rfl rfl ?_
              | refine wo_lenStr rfl rfl rfl ?_
              | refine wo_len rfl rfl rfl rfl ?_
              | refine wo_buildSlice rfl rfl rfl ?_
              | refine wo_build rfl rfl rfl ?_
              | refine wo_pick rfl rfl rfl ?_
              | refine wo_strEq rfl rfl rfl ?_
              | refine wo_boolEq rfl rfl rfl rfl ?_
              | refine wo_boolNe rfl rfl rfl rfl ?_
              | refine wo_strNe rfl rfl rfl ?_
              | refine wo_on rfl ?_
              | refine wo_off rfl rfl ?_
              | refine wo_offn rfl ?_)
            refine wg_dec rfl (fun h => absurd rfl h) fun _ => ?_
            repeat (first
              | refine wg_seq ?_
              | refine wg_skip ?_
              | refine wg_block ?_
              | refine wg_scope ?_
              | refine wg_inBlock ?_
              | refine wg_inScope ?_
              | refine wg_region ?_
              | refine wo_nil ?_
              | refine wo_move rfl rfl ?_
              | refine wo_assign rfl rfl ?_
              | refine wo_fieldAddr rfl rfl rfl ?_
              | refine wo_nilCheck rfl rfl ?_
              | refine wo_extract rfl rfl rfl ?_
              | refine wo_load rfl rfl rfl rfl (by assumption) rfl ?_
              | refine wo_eql rfl rfl rfl ?_
              | refine wo_neq rfl rfl rfl ?_
              | refine wo_lss rfl rfl rfl ?_
              | refine wo_gtr rfl rfl rfl ?_
              | refine wo_leq rfl rfl rfl ?_
              | refine wo_geq rfl rfl rfl ?_
              | refine wo_not rfl rfl ?_
              | refine wo_lenStr rfl rfl rfl ?_
              | refine wo_len rfl rfl rfl rfl ?_
              | refine wo_buildSlice rfl rfl rfl ?_
              | refine wo_build rfl rfl rfl ?_
              | refine wo_pick rfl rfl rfl ?_
              | refine wo_strEq rfl rfl rfl ?_
              | refine wo_boolEq rfl rfl rfl rfl ?_
              | refine wo_boolNe rfl rfl rfl rfl ?_
              | refine wo_strNe rfl rfl rfl ?_
              | refine wo_on rfl ?_
              | refine wo_off rfl rfl ?_
              | refine wo_offn rfl ?_)
            refine wo_add rfl rfl rfl (by omega) (by omega) ?_
            repeat (first
              | refine wg_seq ?_
              | refine wg_skip ?_
              | refine wg_block ?_
              | refine wg_scope ?_
              | refine wg_inBlock ?_
              | refine wg_inScope ?_
              | refine wg_region ?_
              | refine wo_nil ?_
              | refine wo_move rfl rfl ?_
              | refine wo_assign rfl rfl ?_
              | refine wo_fieldAddr rfl rfl rfl ?_
              | refine wo_nilCheck rfl rfl ?_
              | refine wo_extract rfl rfl rfl ?_
              | refine wo_load rfl rfl rfl rfl (by assumption) rfl ?_
              | refine wo_eql rfl rfl rfl ?_
              | refine wo_neq rfl rfl rfl ?_
              | refine wo_lss rfl rfl rfl ?_
              | refine wo_gtr rfl rfl rfl ?_
              | refine wo_leq rfl rfl rfl ?_
              | refine wo_geq rfl rfl rfl ?_
              | refine wo_not rfl rfl ?_
              | refine wo_lenStr rfl rfl rfl ?_
              | refine wo_len rfl rfl rfl rfl ?_
              | refine wo_buildSlice rfl rfl rfl ?_
              | refine wo_build rfl rfl rfl ?_
              | refine wo_pick rfl rfl rfl ?_
              | refine wo_strEq rfl rfl rfl ?_
              | refine wo_boolEq rfl rfl rfl rfl ?_
              | refine wo_boolNe rfl rfl rfl rfl ?_
              | refine wo_strNe rfl rfl rfl ?_
              | refine wo_on rfl ?_
              | refine wo_off rfl rfl ?_
              | refine wo_offn rfl ?_)
            refine wg_inLoop ?_
            refine wg_le (.put 0 (.slice f t o items.length c ex) (.put 3 (.ptr fs 0 0) (.put 4 (.ptr fr 0 0) (.put 5 (.int .i64 (i : Int)) (.put 23 (.int .i64 (((j + 1 : Nat) : Int) - 1)) .nil))))) ?_ ⟨rfl, rfl, rfl, rfl, congrArg (fun z => some (AV.int .i64 z)) (by omega), trivial⟩
            exact ih2 (j + 1) A21 (by omega) ⟨by omega, p20⟩
          · refine wg_exit rfl ?_
            repeat (first
              | refine wg_seq ?_
              | refine wg_skip ?_
              | refine wg_block ?_
              | refine wg_scope ?_
              | refine wg_inBlock ?_
              | refine wg_inScope ?_
              | refine wg_region ?_
              | refine wo_nil ?_
              | refine wo_move rfl rfl ?_
              | refine wo_assign rfl rfl ?_
              | refine wo_fieldAddr rfl rfl rfl ?_
              | refine wo_nilCheck rfl rfl ?_
              | refine wo_extract rfl rfl rfl ?_
              | refine wo_load rfl rfl rfl rfl (by assumption) rfl ?_
              | refine wo_eql rfl rfl rfl ?_
              | refine wo_neq rfl rfl rfl ?_
              | refine wo_lss rfl rfl rfl ?_
              | refine wo_gtr rfl rfl rfl ?_
              | refine wo_leq rfl rfl rfl ?_
              | refine wo_geq rfl rfl rfl ?_
              | refine wo_not rfl rfl ?_
              | refine wo_lenStr rfl rfl rfl ?_
              | refine wo_len rfl rfl rfl rfl ?_
              | refine wo_buildSlice rfl rfl rfl ?_
              | refine wo_build rfl rfl rfl ?_
              | refine wo_pick rfl rfl rfl ?_
              | refine wo_strEq rfl rfl rfl ?_
              | refine wo_boolEq rfl rfl rfl rfl ?_
              | refine wo_boolNe rfl rfl rfl rfl ?_
              | refine wo_strNe rfl rfl rfl ?_
              | refine wo_on rfl ?_
              | refine wo_off rfl rfl ?_
              | refine wo_offn rfl ?_)
            refine wo_add rfl rfl rfl (by omega) (by omega) ?_
            repeat (first
              | refine wg_seq ?_
              | refine wg_skip ?_
              | refine wg_block ?_
              | refine wg_scope ?_
              | refine wg_inBlock ?_
              | refine wg_inScope ?_
              | refine wg_region ?_
              | refine wo_nil ?_
              | refine wo_move rfl rfl ?_
              | refine wo_assign rfl rfl ?_
              | refine wo_fieldAddr rfl rfl rfl ?_
              | refine wo_nilCheck rfl rfl ?_
              | refine wo_extract rfl rfl rfl ?_
              | refine wo_load rfl rfl rfl rfl (by assumption) rfl ?_
              | refine wo_eql rfl rfl rfl ?_
              | refine wo_neq rfl rfl rfl ?_
              | refine wo_lss rfl rfl rfl ?_
              | refine wo_gtr rfl rfl rfl ?_
              | refine wo_leq rfl rfl rfl ?_
              | refine wo_geq rfl rfl rfl ?_
              | refine wo_not rfl rfl ?_
              | refine wo_lenStr rfl rfl rfl ?_
              | refine wo_len rfl rfl rfl rfl ?_
              | refine wo_buildSlice rfl rfl rfl ?_
              | refine wo_build rfl rfl rfl ?_
              | refine wo_pick rfl rfl rfl ?_
              | refine wo_strEq rfl rfl rfl ?_
              | refine wo_boolEq rfl rfl rfl rfl ?_
              | refine wo_boolNe rfl rfl rfl rfl ?_
              | refine wo_strNe rfl rfl rfl ?_
              | refine wo_on rfl ?_
              | refine wo_off rfl rfl ?_
              | refine wo_offn rfl ?_)
            refine wg_inLoop ?_
            refine wg_le (.put 0 (.slice f t o items.length c ex) (.put 3 (.ptr fs 0 0) (.put 4 (.ptr fr 0 0) (.put 5 (.int .i64 ((i + 1 : Nat) : Int)) .nil)))) ?_ ⟨rfl, rfl, rfl, rfl, trivial⟩
            exact ih (i + 1, vs', vj', v', us) _ (by simp only; omega) ⟨hil, p20⟩
  · refine wg_exit rfl ?_
    repeat (first
      | refine wg_seq ?_
      | refine wg_skip ?_
      | refine wg_block ?_
      | refine wg_scope ?_
      | refine wg_inBlock ?_
      | refine wg_inScope ?_
      | refine wg_region ?_
      | refine wo_nil ?_
      | refine wo_move rfl rfl ?_
      | refine wo_assign rfl rfl ?_
      | refine wo_fieldAddr rfl rfl rfl ?_
      | refine wo_nilCheck rfl rfl ?_
      | refine wo_extract rfl rfl rfl ?_
      | refine wo_load rfl rfl rfl rfl (by assumption) rfl ?_
      | refine wo_eql rfl rfl rfl ?_
      | refine wo_neq rfl rfl rfl ?_
      | refine wo_lss rfl rfl rfl ?_
      | refine wo_gtr rfl rfl rfl ?_
      | refine wo_leq rfl rfl rfl ?_
      | refine wo_geq rfl rfl rfl ?_
      | refine wo_not rfl rfl ?_
      | refine wo_lenStr rfl rfl rfl ?_
      | refine wo_len rfl rfl rfl rfl ?_
      | refine wo_buildSlice rfl rfl rfl ?_
      | refine wo_build rfl rfl rfl ?_
      | refine wo_pick rfl rfl rfl ?_
      | refine wo_strEq rfl rfl rfl ?_
      | refine wo_boolEq rfl rfl rfl rfl ?_
      | refine wo_boolNe rfl rfl rfl rfl ?_
      | refine wo_strNe rfl rfl rfl ?_
      | refine wo_on rfl ?_
      | refine wo_off rfl rfl ?_
      | refine wo_offn rfl ?_)
    exact wg_ret rfl rfl
end Go.Proofs.Ytejmdglmldjliaa.Ae
