/-
  MORE OF A SCHEDULER, by the rules: New, Spawn, Join, End.
-/
import Derived.Test.YtejmdglmldjliaaAiSyS1
namespace Go.Proofs.Ytejmdglmldjliaa.Ae
open Go.AE
set_option linter.unusedVariables false
set_option maxRecDepth 100000

theorem snew_spec {K : FuncId} {A : AW} (hw : Wf A) : CallP (ES K) 32 [] A fun r A1 => r = .ptr A.nxt 0 0 ∧ Sc A1 A.nxt .nils .nils [] ∧ Only A A1 none' := by
  refine call_of rfl rfl rfl ?_
  repeat (first
    | refine wg_seq ?_
    | refine wg_skip ?_
    | refine wg_block ?_
    | refine wg_scope ?_
    | refine wg_inBlock ?_
    | refine wg_inScope ?_
    | refine wg_region ?_
    | refine wo_nil ?_
    | refine wo_move rfl rfl ?_
    | refine wo_assign rfl rfl ?_
    | refine wo_fieldAddr rfl rfl rfl ?_
    | refine wo_nilCheck rfl rfl ?_
    | refine wo_extract rfl rfl rfl ?_
    | refine wo_load rfl rfl rfl rfl (by assumption) rfl ?_
    | refine wo_eql rfl rfl rfl ?_
    | refine wo_neq rfl rfl rfl ?_
    | refine wo_lss rfl rfl rfl ?_
    | refine wo_gtr rfl rfl rfl ?_
    | refine wo_leq rfl rfl rfl ?_
    | refine wo_geq rfl rfl rfl ?_
    | refine wo_not rfl rfl ?_
    | refine wo_lenStr rfl rfl rfl ?_
    | refine wo_len rfl rfl rfl rfl ?_
    | refine wo_buildSlice rfl rfl rfl ?_
    | refine wo_build rfl rfl rfl ?_
    | refine wo_pick rfl rfl rfl ?_
    | refine wo_strEq rfl rfl rfl ?_
    | refine wo_boolEq rfl rfl rfl rfl ?_
    | refine wo_boolNe rfl rfl rfl rfl ?_
    | refine wo_strNe rfl rfl rfl ?_
    | refine wo_on rfl ?_
    | refine wo_off rfl rfl ?_
    | refine wo_offn rfl ?_)
  refine wo_box rfl rfl rfl rfl ?_
  repeat (first
    | refine wg_seq ?_
    | refine wg_skip ?_
    | refine wg_block ?_
    | refine wg_scope ?_
    | refine wg_inBlock ?_
    | refine wg_inScope ?_
    | refine wg_region ?_
    | refine wo_nil ?_
    | refine wo_move rfl rfl ?_
    | refine wo_assign rfl rfl ?_
    | refine wo_fieldAddr rfl rfl rfl ?_
    | refine wo_nilCheck rfl rfl ?_
    | refine wo_extract rfl rfl rfl ?_
    | refine wo_load rfl rfl rfl rfl (by assumption) rfl ?_
    | refine wo_eql rfl rfl rfl ?_
    | refine wo_neq rfl rfl rfl ?_
    | refine wo_lss rfl rfl rfl ?_
    | refine wo_gtr rfl rfl rfl ?_
    | refine wo_leq rfl rfl rfl ?_
    | refine wo_geq rfl rfl rfl ?_
    | refine wo_not rfl rfl ?_
    | refine wo_lenStr rfl rfl rfl ?_
    | refine wo_len rfl rfl rfl rfl ?_
    | refine wo_buildSlice rfl rfl rfl ?_
    | refine wo_build rfl rfl rfl ?_
    | refine wo_pick rfl rfl rfl ?_
    | refine wo_strEq rfl rfl rfl ?_
    | refine wo_boolEq rfl rfl rfl rfl ?_
    | refine wo_boolNe rfl rfl rfl rfl ?_
    | refine wo_strNe rfl rfl rfl ?_
    | refine wo_on rfl ?_
    | refine wo_off rfl rfl ?_
    | refine wo_offn rfl ?_)
  exact wg_ret rfl ⟨rfl, ⟨by rw [AW.add_get, if_pos rfl]; rfl, .inl ⟨rfl, rfl, rfl⟩, .inl ⟨rfl, rfl, rfl⟩, fun h => h, fun h => h, fun _ h _ => h⟩, Only.add hw _⟩

/-- A thread more: both rows have been appended to. -/
theorem Sc.spawn {A A1 A3 : AW} {fs : Nat} {vs vj vs1 vj1 : AV} {ts : List Th} (hw : Wf A) (h : Sc A fs vs vj ts) (g1 : Grew A A1 1 vs vs1 (ts.length + 1) (stOf ts ++ [.int .i64 1]))
    (g2 : Grew (A1.put fs (.cells 0 false 2 [vs1, vj])) A3 1 vj vj1 (ts.length + 1) (joOf ts ++ [.int .i64 0])) :
    A3.heap.get fs = some (.cells 0 false 2 [vs1, vj]) ∧ SStep A (A3.put fs (.cells 0 false 2 [vs1, vj1])) fs vs vj vs1 vj1 (ts ++ [(1, 0)]) := by
  have uf := hw _ _ h.cell
  have us := h.st.under hw
  have uj := h.jo.under hw
  have o1 : ¬ vs1.isFam fs := fun e => by
    rcases g1.grow fs e with h' | h'
    · exact h.os h'
    · omega
  have c1 := g1.only.keep fs _ h.cell h.os
  have op1 : Only A1 (A1.put fs (.cells 0 false 2 [vs1, vj])) (one fs) := Only.put g1.only.wf (g1.only.wf _ _ c1)
  have d1 : Disj vs1.isFam vj.isFam := fun g h1 h2 => by
    rcases g1.grow g h1 with h' | h'
    · exact h.dj g h' h2
    · have := uj g h2
      omega
  have b1 := g1.buf.keep op1 fun g hg e => by cases e; exact o1 hg
  have b2 := b1.keep g2.only d1
  have hn : A.nxt ≤ (A1.put fs (.cells 0 false 2 [vs1, vj])).nxt := g1.only.nxt
  have o2 : ¬ vj1.isFam fs := fun e => by
    rcases g2.grow fs e with h' | h'
    · exact h.oj h'
    · omega
  have c3 : A3.heap.get fs = some (.cells 0 false 2 [vs1, vj]) := g2.only.keep fs _ (by rw [AW.put_get, if_pos rfl]) h.oj
  have op2 : Only A3 (A3.put fs (.cells 0 false 2 [vs1, vj1])) (one fs) := Only.put g2.only.wf (g2.only.wf _ _ c3)
  have us1 := b1.under op1.wf
  refine ⟨c3, ⟨by simp, ?_, ?_, o1, o2, fun g h1 h2 => ?_⟩, ⟨op2.wf, Nat.le_trans hn (Nat.le_trans g2.only.nxt op2.nxt), fun g F hg hnf => ?_⟩, fun g hg => ?_⟩
  · have := b2.keep op2 fun g hg e => by cases e; exact o1 hg
    simpa [stOf, ints] using this
  · have := g2.buf.keep op2 fun g hg e => by cases e; exact o2 hg
    simpa [joOf, ints] using this
  · rcases g2.grow g h2 with h' | h'
    · exact d1 g h1 h'
    · have := us1 g h1
      omega
  · have k1 := g1.only.keep g F hg fun e => hnf (.inr (.inl e))
    have k2 := op1.keep g F k1 fun e => hnf (.inl e)
    have k3 := g2.only.keep g F k2 fun e => hnf (.inr (.inr e))
    exact op2.keep g F k3 fun e => hnf (.inl e)
  · rcases hg with hg | hg | hg
    · exact .inl (.inl hg)
    · rcases g1.grow g hg with h' | h'
      · exact .inl (.inr (.inl h'))
      · exact .inr h'
    · rcases g2.grow g hg with h' | h'
      · exact .inl (.inr (.inr h'))
      · exact .inr (Nat.le_trans hn h')

def spawnT (ts : List Th) : List Th × Int × Int := if 12 ≤ ts.length then (ts, 0, 140) else (ts ++ [(1, 0)], (ts.length : Int) + 1, 0)
theorem spawn_spec {K : FuncId} {A : AW} {fs : Nat} {vs vj : AV} {ts : List Th} (hw : Wf A) (h : Sc A fs vs vj ts) :
    CallP (ES K) 33 [.ptr fs 0 0] A fun r A1 => r = .tuple [.int .i64 (spawnT ts).2.1, .int .i64 (spawnT ts).2.2] ∧ ∃ vs' vj', SStep A A1 fs vs vj vs' vj' (spawnT ts).1 := by
  unfold spawnT
  refine call_of rfl rfl rfl ?_
  have hc := h.cell
  repeat (first
    | refine wg_seq ?_
    | refine wg_skip ?_
    | refine wg_block ?_
    | refine wg_scope ?_
    | refine wg_inBlock ?_
    | refine wg_inScope ?_
    | refine wg_region ?_
    | refine wo_nil ?_
    | refine wo_move rfl rfl ?_
    | refine wo_assign rfl rfl ?_
    | refine wo_fieldAddr rfl rfl rfl ?_
    | refine wo_nilCheck rfl rfl ?_
    | refine wo_extract rfl rfl rfl ?_
    | refine wo_load rfl rfl rfl rfl (by assumption) rfl ?_
    | refine wo_eql rfl rfl rfl ?_
    | refine wo_neq rfl rfl rfl ?_
    | refine wo_lss rfl rfl rfl ?_
    | refine wo_gtr rfl rfl rfl ?_
    | refine wo_leq rfl rfl rfl ?_
    | refine wo_geq rfl rfl rfl ?_
    | refine wo_not rfl rfl ?_
    | refine wo_lenStr rfl rfl rfl ?_
    | refine wo_len rfl rfl rfl rfl ?_
    | refine wo_buildSlice rfl rfl rfl ?_
    | refine wo_build rfl rfl rfl ?_
    | refine wo_pick rfl rfl rfl ?_
    | refine wo_strEq rfl rfl rfl ?_
    | refine wo_boolEq rfl rfl rfl rfl ?_
    | refine wo_boolNe rfl rfl rfl rfl ?_
    | refine wo_strNe rfl rfl rfl ?_
    | refine wo_on rfl ?_
    | refine wo_off rfl rfl ?_
    | refine wo_offn rfl ?_)
  refine wo_call rfl rfl orc_cons rfl (len_spec h) ?_
  rintro r A1 ⟨rfl, rfl⟩
  repeat (first
    | refine wg_seq ?_
    | refine wg_skip ?_
    | refine wg_block ?_
    | refine wg_scope ?_
    | refine wg_inBlock ?_
    | refine wg_inScope ?_
    | refine wg_region ?_
    | refine wo_nil ?_
    | refine wo_move rfl rfl ?_
    | refine wo_assign rfl rfl ?_
    | refine wo_fieldAddr rfl rfl rfl ?_
    | refine wo_nilCheck rfl rfl ?_
    | refine wo_extract rfl rfl rfl ?_
    | refine wo_load rfl rfl rfl rfl (by assumption) rfl ?_
    | refine wo_eql rfl rfl rfl ?_
    | refine wo_neq rfl rfl rfl ?_
    | refine wo_lss rfl rfl rfl ?_
    | refine wo_gtr rfl rfl rfl ?_
    | refine wo_leq rfl rfl rfl ?_
    | refine wo_geq rfl rfl rfl ?_
    | refine wo_not rfl rfl ?_
    | refine wo_lenStr rfl rfl rfl ?_
    | refine wo_len rfl rfl rfl rfl ?_
    | refine wo_buildSlice rfl rfl rfl ?_
    | refine wo_build rfl rfl rfl ?_
    | refine wo_pick rfl rfl rfl ?_
    | refine wo_strEq rfl rfl rfl ?_
    | refine wo_boolEq rfl rfl rfl rfl ?_
    | refine wo_boolNe rfl rfl rfl rfl ?_
    | refine wo_strNe rfl rfl rfl ?_
    | refine wo_on rfl ?_
    | refine wo_off rfl rfl ?_
    | refine wo_offn rfl ?_)
  refine wg_dec rfl (fun h12 => ?_) fun h12 => ?_
  · have h12 : 12 ≤ ts.length := by
      have : (12 : Int) ≤ (ts.length : Int) := h12
      omega
    rw [if_pos h12]
    repeat (first
      | refine wg_seq ?_
      | refine wg_skip ?_
      | refine wg_block ?_
      | refine wg_scope ?_
      | refine wg_inBlock ?_
      | refine wg_inScope ?_
      | refine wg_region ?_
      | refine wo_nil ?_
      | refine wo_move rfl rfl ?_
      | refine wo_assign rfl rfl ?_
      | refine wo_fieldAddr rfl rfl rfl ?_
      | refine wo_nilCheck rfl rfl ?_
      | refine wo_extract rfl rfl rfl ?_
      | refine wo_load rfl rfl rfl rfl (by assumption) rfl ?_
      | refine wo_eql rfl rfl rfl ?_
      | refine wo_neq rfl rfl rfl ?_
      | refine wo_lss rfl rfl rfl ?_
      | refine wo_gtr rfl rfl rfl ?_
      | refine wo_leq rfl rfl rfl ?_
      | refine wo_geq rfl rfl rfl ?_
      | refine wo_not rfl rfl ?_
      | refine wo_lenStr rfl rfl rfl ?_
      | refine wo_len rfl rfl rfl rfl ?_
      | refine wo_buildSlice rfl rfl rfl ?_
      | refine wo_build rfl rfl rfl ?_
      | refine wo_pick rfl rfl rfl ?_
      | refine wo_strEq rfl rfl rfl ?_
      | refine wo_boolEq rfl rfl rfl rfl ?_
      | refine wo_boolNe rfl rfl rfl rfl ?_
      | refine wo_strNe rfl rfl rfl ?_
      | refine wo_on rfl ?_
      | refine wo_off rfl rfl ?_
      | refine wo_offn rfl ?_)
    exact wg_ret rfl ⟨rfl, vs, vj, SStep.refl hw h⟩
  · have h12 : ¬ 12 ≤ ts.length := by
      have : ¬ (12 : Int) ≤ (ts.length : Int) := h12
      omega
    rw [if_neg h12]
    repeat (first
      | refine wg_seq ?_
      | refine wg_skip ?_
      | refine wg_block ?_
      | refine wg_scope ?_
      | refine wg_inBlock ?_
      | refine wg_inScope ?_
      | refine wg_region ?_
      | refine wo_nil ?_
      | refine wo_move rfl rfl ?_
      | refine wo_assign rfl rfl ?_
      | refine wo_fieldAddr rfl rfl rfl ?_
      | refine wo_nilCheck rfl rfl ?_
      | refine wo_extract rfl rfl rfl ?_
      | refine wo_load rfl rfl rfl rfl (by assumption) rfl ?_
      | refine wo_eql rfl rfl rfl ?_
      | refine wo_neq rfl rfl rfl ?_
      | refine wo_lss rfl rfl rfl ?_
      | refine wo_gtr rfl rfl rfl ?_
      | refine wo_leq rfl rfl rfl ?_
      | refine wo_geq rfl rfl rfl ?_
      | refine wo_not rfl rfl ?_
      | refine wo_lenStr rfl rfl rfl ?_
      | refine wo_len rfl rfl rfl rfl ?_
      | refine wo_buildSlice rfl rfl rfl ?_
      | refine wo_build rfl rfl rfl ?_
      | refine wo_pick rfl rfl rfl ?_
      | refine wo_strEq rfl rfl rfl ?_
      | refine wo_boolEq rfl rfl rfl rfl ?_
      | refine wo_boolNe rfl rfl rfl rfl ?_
      | refine wo_strNe rfl rfl rfl ?_
      | refine wo_on rfl ?_
      | refine wo_off rfl rfl ?_
      | refine wo_offn rfl ?_)
    refine wo_append rfl rfl rfl rfl rfl (append_one (de := d3) rfl rfl rfl rfl hw h.st rfl (by decide) (room_of (by omega) (by decide))) ?_
    intro vs1 A2 g1
    have g1 : Grew A1 A2 1 vs vs1 (ts.length + 1) (stOf ts ++ [.int .i64 1]) := g1
    have c1 := g1.only.keep fs _ hc h.os
    repeat (first
      | refine wg_seq ?_
      | refine wg_skip ?_
      | refine wg_block ?_
      | refine wg_scope ?_
      | refine wg_inBlock ?_
      | refine wg_inScope ?_
      | refine wg_region ?_
      | refine wo_nil ?_
      | refine wo_move rfl rfl ?_
      | refine wo_assign rfl rfl ?_
      | refine wo_fieldAddr rfl rfl rfl ?_
      | refine wo_nilCheck rfl rfl ?_
      | refine wo_extract rfl rfl rfl ?_
      | refine wo_load rfl rfl rfl rfl (by assumption) rfl ?_
      | refine wo_eql rfl rfl rfl ?_
      | refine wo_neq rfl rfl rfl ?_
      | refine wo_lss rfl rfl rfl ?_
      | refine wo_gtr rfl rfl rfl ?_
      | refine wo_leq rfl rfl rfl ?_
      | refine wo_geq rfl rfl rfl ?_
      | refine wo_not rfl rfl ?_
      | refine wo_lenStr rfl rfl rfl ?_
      | refine wo_len rfl rfl rfl rfl ?_
      | refine wo_buildSlice rfl rfl rfl ?_
      | refine wo_build rfl rfl rfl ?_
      | refine wo_pick rfl rfl rfl ?_
      | refine wo_strEq rfl rfl rfl ?_
      | refine wo_boolEq rfl rfl rfl rfl ?_
      | refine wo_boolNe rfl rfl rfl rfl ?_
      | refine wo_strNe rfl rfl rfl ?_
      | refine wo_on rfl ?_
      | refine wo_off rfl rfl ?_
      | refine wo_offn rfl ?_)
    refine wo_store rfl rfl g1.buf.cells rfl rfl rfl c1 rfl ?_
    refine wo_A (fun A3 => A3 = A2.put fs (.cells 0 false 2 [vs1, vj])) rfl ?_
    intro A3 hA3
    have c3 : A3.heap.get fs = some (.cells 0 false 2 [vs1, vj]) := by rw [hA3]; simp
    have op1 : Only A2 A3 (one fs) := by rw [hA3]; exact Only.put g1.only.wf (g1.only.wf _ _ c1)
    have bj : Buf A3 1 vj ts.length (joOf ts) := (h.jo.keep g1.only h.dj.symm).keep op1 fun g hg e => by cases e; exact h.oj hg
    repeat (first
      | refine wg_seq ?_
      | refine wg_skip ?_
      | refine wg_block ?_
      | refine wg_scope ?_
      | refine wg_inBlock ?_
      | refine wg_inScope ?_
      | refine wg_region ?_
      | refine wo_nil ?_
      | refine wo_move rfl rfl ?_
      | refine wo_assign rfl rfl ?_
      | refine wo_fieldAddr rfl rfl rfl ?_
      | refine wo_nilCheck rfl rfl ?_
      | refine wo_extract rfl rfl rfl ?_
      | refine wo_load rfl rfl rfl rfl (by assumption) rfl ?_
      | refine wo_eql rfl rfl rfl ?_
      | refine wo_neq rfl rfl rfl ?_
      | refine wo_lss rfl rfl rfl ?_
      | refine wo_gtr rfl rfl rfl ?_
      | refine wo_leq rfl rfl rfl ?_
      | refine wo_geq rfl rfl rfl ?_
      | refine wo_not rfl rfl ?_
      | refine wo_lenStr rfl rfl rfl ?_
      | refine wo_len rfl rfl rfl rfl ?_
      | refine wo_buildSlice rfl rfl rfl ?_
      | refine wo_build rfl rfl rfl ?_
      | refine wo_pick rfl rfl rfl ?_
      | refine wo_strEq rfl rfl rfl ?_
      | refine wo_boolEq rfl rfl rfl rfl ?_
      | refine wo_boolNe rfl rfl rfl rfl ?_
      | refine wo_strNe rfl rfl rfl ?_
      | refine wo_on rfl ?_
      | refine wo_off rfl rfl ?_
      | refine wo_offn rfl ?_)
    refine wo_append rfl rfl rfl rfl rfl (append_one (de := d3) rfl rfl rfl rfl op1.wf bj rfl (by decide) (room_of (by omega) (by decide))) ?_
    intro vj1 A4 g2
    have g2 : Grew A3 A4 1 vj vj1 (ts.length + 1) (joOf ts ++ [.int .i64 0]) := g2
    have g2' := g2
    rw [hA3] at g2'
    obtain ⟨c4, st⟩ := h.spawn hw g1 g2'
    repeat (first
      | refine wg_seq ?_
      | refine wg_skip ?_
      | refine wg_block ?_
      | refine wg_scope ?_
      | refine wg_inBlock ?_
      | refine wg_inScope ?_
      | refine wg_region ?_
      | refine wo_nil ?_
      | refine wo_move rfl rfl ?_
      | refine wo_assign rfl rfl ?_
      | refine wo_fieldAddr rfl rfl rfl ?_
      | refine wo_nilCheck rfl rfl ?_
      | refine wo_extract rfl rfl rfl ?_
      | refine wo_load rfl rfl rfl rfl (by assumption) rfl ?_
      | refine wo_eql rfl rfl rfl ?_
      | refine wo_neq rfl rfl rfl ?_
      | refine wo_lss rfl rfl rfl ?_
      | refine wo_gtr rfl rfl rfl ?_
      | refine wo_leq rfl rfl rfl ?_
      | refine wo_geq rfl rfl rfl ?_
      | refine wo_not rfl rfl ?_
      | refine wo_lenStr rfl rfl rfl ?_
      | refine wo_len rfl rfl rfl rfl ?_
      | refine wo_buildSlice rfl rfl rfl ?_
      | refine wo_build rfl rfl rfl ?_
      | refine wo_pick rfl rfl rfl ?_
      | refine wo_strEq rfl rfl rfl ?_
      | refine wo_boolEq rfl rfl rfl rfl ?_
      | refine wo_boolNe rfl rfl rfl rfl ?_
      | refine wo_strNe rfl rfl rfl ?_
      | refine wo_on rfl ?_
      | refine wo_off rfl rfl ?_
      | refine wo_offn rfl ?_)
    refine wo_store rfl rfl g2.buf.cells rfl rfl rfl c4 rfl ?_
    repeat (first
      | refine wg_seq ?_
      | refine wg_skip ?_
      | refine wg_block ?_
      | refine wg_scope ?_
      | refine wg_inBlock ?_
      | refine wg_inScope ?_
      | refine wg_region ?_
      | refine wo_nil ?_
      | refine wo_move rfl rfl ?_
      | refine wo_assign rfl rfl ?_
      | refine wo_fieldAddr rfl rfl rfl ?_
      | refine wo_nilCheck rfl rfl ?_
      | refine wo_extract rfl rfl rfl ?_
      | refine wo_load rfl rfl rfl rfl (by assumption) rfl ?_
      | refine wo_eql rfl rfl rfl ?_
      | refine wo_neq rfl rfl rfl ?_
      | refine wo_lss rfl rfl rfl ?_
      | refine wo_gtr rfl rfl rfl ?_
      | refine wo_leq rfl rfl rfl ?_
      | refine wo_geq rfl rfl rfl ?_
      | refine wo_not rfl rfl ?_
      | refine wo_lenStr rfl rfl rfl ?_
      | refine wo_len rfl rfl rfl rfl ?_
      | refine wo_buildSlice rfl rfl rfl ?_
      | refine wo_build rfl rfl rfl ?_
      | refine wo_pick rfl rfl rfl ?_
      | refine wo_strEq rfl rfl rfl ?_
      | refine wo_boolEq rfl rfl rfl rfl ?_
      | refine wo_boolNe rfl rfl rfl rfl ?_
      | refine wo_strNe rfl rfl rfl ?_
      | refine wo_on rfl ?_
      | refine wo_off rfl rfl ?_
      | refine wo_offn rfl ?_)
    refine wo_call rfl rfl orc_cons rfl (len_spec st.sc) ?_
    rintro r A5 ⟨rfl, rfl⟩
    repeat (first
      | refine wg_seq ?_
      | refine wg_skip ?_
      | refine wg_block ?_
      | refine wg_scope ?_
      | refine wg_inBlock ?_
      | refine wg_inScope ?_
      | refine wg_region ?_
      | refine wo_nil ?_
      | refine wo_move rfl rfl ?_
      | refine wo_assign rfl rfl ?_
      | refine wo_fieldAddr rfl rfl rfl ?_
      | refine wo_nilCheck rfl rfl ?_
      | refine wo_extract rfl rfl rfl ?_
      | refine wo_load rfl rfl rfl rfl (by assumption) rfl ?_
      | refine wo_eql rfl rfl rfl ?_
      | refine wo_neq rfl rfl rfl ?_
      | refine wo_lss rfl rfl rfl ?_
      | refine wo_gtr rfl rfl rfl ?_
      | refine wo_leq rfl rfl rfl ?_
      | refine wo_geq rfl rfl rfl ?_
      | refine wo_not rfl rfl ?_
      | refine wo_lenStr rfl rfl rfl ?_
      | refine wo_len rfl rfl rfl rfl ?_
      | refine wo_buildSlice rfl rfl rfl ?_
      | refine wo_build rfl rfl rfl ?_
      | refine wo_pick rfl rfl rfl ?_
      | refine wo_strEq rfl rfl rfl ?_
      | refine wo_boolEq rfl rfl rfl rfl ?_
      | refine wo_boolNe rfl rfl rfl rfl ?_
      | refine wo_strNe rfl rfl rfl ?_
      | refine wo_on rfl ?_
      | refine wo_off rfl rfl ?_
      | refine wo_offn rfl ?_)
    refine wg_ret rfl ⟨?_, vs1, vj1, st⟩
    simp only [List.length_append, List.length_singleton]
    rfl

/-- Joining: the threads behind it, whether the other one has ended, the error. -/
def joinT (ts : List Th) (id other : Int) : List Th × Bool × Int :=
  if stT ts id ≠ 1 ∨ stT ts other = 0 then (ts, false, 140) else if stT ts other = 5 then (ts, true, 0) else (ts.set (id.toNat - 1) (4, other), false, 0)
theorem join_spec {K : FuncId} {A : AW} {fs : Nat} {vs vj : AV} {ts : List Th} {id other : Int} (hw : Wf A) (h : Sc A fs vs vj ts) (h1 : -9223372036854775808 ≤ id) (h2 : id < 9223372036854775808) (h3 : -9223372036854775808 ≤ other) (h4 : other < 9223372036854775808) :
    CallP (ES K) 34 [.ptr fs 0 0, .int .i64 id, .int .i64 other] A fun r A1 => r = .tuple [.bool (joinT ts id other).2.1, .int .i64 (joinT ts id other).2.2] ∧ SStep A A1 fs vs vj vs vj (joinT ts id other).1 := by
  unfold joinT
  refine call_of rfl rfl rfl ?_
  have hc := h.cell
  repeat (first
    | refine wo_nil ?_
    | refine wo_move rfl rfl ?_
    | refine wo_assign rfl rfl ?_
    | refine wo_fieldAddr rfl rfl rfl ?_
    | refine wo_nilCheck rfl rfl ?_
    | refine wo_extract rfl rfl rfl ?_
    | refine wo_load rfl rfl rfl rfl (by assumption) rfl ?_
    | refine wo_eql rfl rfl rfl ?_
    | refine wo_neq rfl rfl rfl ?_
    | refine wo_lss rfl rfl rfl ?_
    | refine wo_gtr rfl rfl rfl ?_
    | refine wo_leq rfl rfl rfl ?_
    | refine wo_geq rfl rfl rfl ?_
    | refine wo_not rfl rfl ?_
    | refine wo_lenStr rfl rfl rfl ?_
    | refine wo_len rfl rfl rfl rfl ?_
    | refine wo_buildSlice rfl rfl rfl ?_
    | refine wo_build rfl rfl rfl ?_
    | refine wo_pick rfl rfl rfl ?_
    | refine wo_strEq rfl rfl rfl ?_
    | refine wo_boolEq rfl rfl rfl rfl ?_
    | refine wo_boolNe rfl rfl rfl rfl ?_
    | refine wo_strNe rfl rfl rfl ?_
    | refine wo_on rfl ?_
    | refine wo_off rfl rfl ?_
    | refine wo_offn rfl ?_)
  repeat (first
    | refine wg_seq ?_
    | refine wg_skip ?_
    | refine wg_block ?_
    | refine wg_scope ?_
    | refine wg_inBlock ?_
    | refine wg_inScope ?_)
  refine wg_region ?_
  repeat (first
    | refine wo_nil ?_
    | refine wo_move rfl rfl ?_
    | refine wo_assign rfl rfl ?_
    | refine wo_fieldAddr rfl rfl rfl ?_
    | refine wo_nilCheck rfl rfl ?_
    | refine wo_extract rfl rfl rfl ?_
    | refine wo_load rfl rfl rfl rfl (by assumption) rfl ?_
    | refine wo_eql rfl rfl rfl ?_
    | refine wo_neq rfl rfl rfl ?_
    | refine wo_lss rfl rfl rfl ?_
    | refine wo_gtr rfl rfl rfl ?_
    | refine wo_leq rfl rfl rfl ?_
    | refine wo_geq rfl rfl rfl ?_
    | refine wo_not rfl rfl ?_
    | refine wo_lenStr rfl rfl rfl ?_
    | refine wo_len rfl rfl rfl rfl ?_
    | refine wo_buildSlice rfl rfl rfl ?_
    | refine wo_build rfl rfl rfl ?_
    | refine wo_pick rfl rfl rfl ?_
    | refine wo_strEq rfl rfl rfl ?_
    | refine wo_boolEq rfl rfl rfl rfl ?_
    | refine wo_boolNe rfl rfl rfl rfl ?_
    | refine wo_strNe rfl rfl rfl ?_
    | refine wo_on rfl ?_
    | refine wo_off rfl rfl ?_
    | refine wo_offn rfl ?_)
  repeat (first
    | refine wg_seq ?_
    | refine wg_skip ?_
    | refine wg_block ?_
    | refine wg_scope ?_
    | refine wg_inBlock ?_
    | refine wg_inScope ?_)
  refine wg_regionTo (.put 0 (.ptr fs 0 0) (.put 1 (.int .i64 id) (.put 2 (.int .i64 other) (.put 17 (.bool (decide (stT ts id ≠ 1 ∨ stT ts other = 0))) .nil)))) ?_ ?_
  · repeat (first
      | refine wo_nil ?_
      | refine wo_move rfl rfl ?_
      | refine wo_assign rfl rfl ?_
      | refine wo_fieldAddr rfl rfl rfl ?_
      | refine wo_nilCheck rfl rfl ?_
      | refine wo_extract rfl rfl rfl ?_
      | refine wo_load rfl rfl rfl rfl (by assumption) rfl ?_
      | refine wo_eql rfl rfl rfl ?_
      | refine wo_neq rfl rfl rfl ?_
      | refine wo_lss rfl rfl rfl ?_
      | refine wo_gtr rfl rfl rfl ?_
      | refine wo_leq rfl rfl rfl ?_
      | refine wo_geq rfl rfl rfl ?_
      | refine wo_not rfl rfl ?_
      | refine wo_lenStr rfl rfl rfl ?_
      | refine wo_len rfl rfl rfl rfl ?_
      | refine wo_buildSlice rfl rfl rfl ?_
      | refine wo_build rfl rfl rfl ?_
      | refine wo_pick rfl rfl rfl ?_
      | refine wo_strEq rfl rfl rfl ?_
      | refine wo_boolEq rfl rfl rfl rfl ?_
      | refine wo_boolNe rfl rfl rfl rfl ?_
      | refine wo_strNe rfl rfl rfl ?_
      | refine wo_on rfl ?_
      | refine wo_off rfl rfl ?_
      | refine wo_offn rfl ?_)
    refine wo_call rfl rfl orc_cons rfl (state_spec h h1 h2) ?_
    rintro r A1 ⟨rfl, rfl⟩
    repeat (first
      | refine wo_nil ?_
      | refine wo_move rfl rfl ?_
      | refine wo_assign rfl rfl ?_
      | refine wo_fieldAddr rfl rfl rfl ?_
      | refine wo_nilCheck rfl rfl ?_
      | refine wo_extract rfl rfl rfl ?_
      | refine wo_load rfl rfl rfl rfl (by assumption) rfl ?_
      | refine wo_eql rfl rfl rfl ?_
      | refine wo_neq rfl rfl rfl ?_
      | refine wo_lss rfl rfl rfl ?_
      | refine wo_gtr rfl rfl rfl ?_
      | refine wo_leq rfl rfl rfl ?_
      | refine wo_geq rfl rfl rfl ?_
      | refine wo_not rfl rfl ?_
      | refine wo_lenStr rfl rfl rfl ?_
      | refine wo_len rfl rfl rfl rfl ?_
      | refine wo_buildSlice rfl rfl rfl ?_
      | refine wo_build rfl rfl rfl ?_
      | refine wo_pick rfl rfl rfl ?_
      | refine wo_strEq rfl rfl rfl ?_
      | refine wo_boolEq rfl rfl rfl rfl ?_
      | refine wo_boolNe rfl rfl rfl rfl ?_
      | refine wo_strNe rfl rfl rfl ?_
      | refine wo_on rfl ?_
      | refine wo_off rfl rfl ?_
      | refine wo_offn rfl ?_)
    by_cases c1 : stT ts id ≠ 1
    · refine wo_is 12 true rfl (decide_eq_true c1) ?_
      repeat (first
        | refine wo_nil ?_
        | refine wo_move rfl rfl ?_
        | refine wo_assign rfl rfl ?_
        | refine wo_fieldAddr rfl rfl rfl ?_
        | refine wo_nilCheck rfl rfl ?_
        | refine wo_extract rfl rfl rfl ?_
        | refine wo_load rfl rfl rfl rfl (by assumption) rfl ?_
        | refine wo_eql rfl rfl rfl ?_
        | refine wo_neq rfl rfl rfl ?_
        | refine wo_lss rfl rfl rfl ?_
        | refine wo_gtr rfl rfl rfl ?_
        | refine wo_leq rfl rfl rfl ?_
        | refine wo_geq rfl rfl rfl ?_
        | refine wo_not rfl rfl ?_
        | refine wo_lenStr rfl rfl rfl ?_
        | refine wo_len rfl rfl rfl rfl ?_
        | refine wo_buildSlice rfl rfl rfl ?_
        | refine wo_build rfl rfl rfl ?_
        | refine wo_pick rfl rfl rfl ?_
        | refine wo_strEq rfl rfl rfl ?_
        | refine wo_boolEq rfl rfl rfl rfl ?_
        | refine wo_boolNe rfl rfl rfl rfl ?_
        | refine wo_strNe rfl rfl rfl ?_
        | refine wo_on rfl ?_
        | refine wo_off rfl rfl ?_
        | refine wo_offn rfl ?_)
      exact ⟨rfl, rfl, rfl, rfl, congrArg (fun x => some (AV.bool x)) (decide_eq_true (.inl c1)).symm, trivial⟩
    · refine wo_is 12 false rfl (decide_eq_false c1) ?_
      repeat (first
        | refine wo_nil ?_
        | refine wo_move rfl rfl ?_
        | refine wo_assign rfl rfl ?_
        | refine wo_fieldAddr rfl rfl rfl ?_
        | refine wo_nilCheck rfl rfl ?_
        | refine wo_extract rfl rfl rfl ?_
        | refine wo_load rfl rfl rfl rfl (by assumption) rfl ?_
        | refine wo_eql rfl rfl rfl ?_
        | refine wo_neq rfl rfl rfl ?_
        | refine wo_lss rfl rfl rfl ?_
        | refine wo_gtr rfl rfl rfl ?_
        | refine wo_leq rfl rfl rfl ?_
        | refine wo_geq rfl rfl rfl ?_
        | refine wo_not rfl rfl ?_
        | refine wo_lenStr rfl rfl rfl ?_
        | refine wo_len rfl rfl rfl rfl ?_
        | refine wo_buildSlice rfl rfl rfl ?_
        | refine wo_build rfl rfl rfl ?_
        | refine wo_pick rfl rfl rfl ?_
        | refine wo_strEq rfl rfl rfl ?_
        | refine wo_boolEq rfl rfl rfl rfl ?_
        | refine wo_boolNe rfl rfl rfl rfl ?_
        | refine wo_strNe rfl rfl rfl ?_
        | refine wo_on rfl ?_
        | refine wo_off rfl rfl ?_
        | refine wo_offn rfl ?_)
      refine wo_call rfl rfl orc_cons rfl (state_spec h h3 h4) ?_
      rintro r A2 ⟨rfl, rfl⟩
      repeat (first
        | refine wo_nil ?_
        | refine wo_move rfl rfl ?_
        | refine wo_assign rfl rfl ?_
        | refine wo_fieldAddr rfl rfl rfl ?_
        | refine wo_nilCheck rfl rfl ?_
        | refine wo_extract rfl rfl rfl ?_
        | refine wo_load rfl rfl rfl rfl (by assumption) rfl ?_
        | refine wo_eql rfl rfl rfl ?_
        | refine wo_neq rfl rfl rfl ?_
        | refine wo_lss rfl rfl rfl ?_
        | refine wo_gtr rfl rfl rfl ?_
        | refine wo_leq rfl rfl rfl ?_
        | refine wo_geq rfl rfl rfl ?_
        | refine wo_not rfl rfl ?_
        | refine wo_lenStr rfl rfl rfl ?_
        | refine wo_len rfl rfl rfl rfl ?_
        | refine wo_buildSlice rfl rfl rfl ?_
        | refine wo_build rfl rfl rfl ?_
        | refine wo_pick rfl rfl rfl ?_
        | refine wo_strEq rfl rfl rfl ?_
        | refine wo_boolEq rfl rfl rfl rfl ?_
        | refine wo_boolNe rfl rfl rfl rfl ?_
        | refine wo_strNe rfl rfl rfl ?_
        | refine wo_on rfl ?_
        | refine wo_off rfl rfl ?_
        | refine wo_offn rfl ?_)
      exact ⟨rfl, rfl, rfl, rfl, congrArg (fun x => some (AV.bool x)) (decide_eq_decide.2 ⟨fun h => .inr h, fun h => h.resolve_left c1⟩), trivial⟩
  refine wg_dec rfl (fun hbad => ?_) fun hok => ?_
  · rw [if_pos hbad]
    repeat (first
      | refine wg_seq ?_
      | refine wg_skip ?_
      | refine wg_block ?_
      | refine wg_scope ?_
      | refine wg_inBlock ?_
      | refine wg_inScope ?_
      | refine wg_region ?_
      | refine wo_nil ?_
      | refine wo_move rfl rfl ?_
      | refine wo_assign rfl rfl ?_
      | refine wo_fieldAddr rfl rfl rfl ?_
      | refine wo_nilCheck rfl rfl ?_
      | refine wo_extract rfl rfl rfl ?_
      | refine wo_load rfl rfl rfl rfl (by assumption) rfl ?_
      | refine wo_eql rfl rfl rfl ?_
      | refine wo_neq rfl rfl rfl ?_
      | refine wo_lss rfl rfl rfl ?_
      | refine wo_gtr rfl rfl rfl ?_
      | refine wo_leq rfl rfl rfl ?_
      | refine wo_geq rfl rfl rfl ?_
      | refine wo_not rfl rfl ?_
      | refine wo_lenStr rfl rfl rfl ?_
      | refine wo_len rfl rfl rfl rfl ?_
      | refine wo_buildSlice rfl rfl rfl ?_
      | refine wo_build rfl rfl rfl ?_
      | refine wo_pick rfl rfl rfl ?_
      | refine wo_strEq rfl rfl rfl ?_
      | refine wo_boolEq rfl rfl rfl rfl ?_
      | refine wo_boolNe rfl rfl rfl rfl ?_
      | refine wo_strNe rfl rfl rfl ?_
      | refine wo_on rfl ?_
      | refine wo_off rfl rfl ?_
      | refine wo_offn rfl ?_)
    exact wg_ret rfl ⟨rfl, SStep.refl hw h⟩
  rw [if_neg hok]
  repeat (first
    | refine wg_seq ?_
    | refine wg_skip ?_
    | refine wg_block ?_
    | refine wg_scope ?_
    | refine wg_inBlock ?_
    | refine wg_inScope ?_
    | refine wg_region ?_
    | refine wo_nil ?_
    | refine wo_move rfl rfl ?_
    | refine wo_assign rfl rfl ?_
    | refine wo_fieldAddr rfl rfl rfl ?_
    | refine wo_nilCheck rfl rfl ?_
    | refine wo_extract rfl rfl rfl ?_
    | refine wo_load rfl rfl rfl rfl (by assumption) rfl ?_
    | refine wo_eql rfl rfl rfl ?_
    | refine wo_neq rfl rfl rfl ?_
    | refine wo_lss rfl rfl rfl ?_
    | refine wo_gtr rfl rfl rfl ?_
    | refine wo_leq rfl rfl rfl ?_
    | refine wo_geq rfl rfl rfl ?_
    | refine wo_not rfl rfl ?_
    | refine wo_lenStr rfl rfl rfl ?_
    | refine wo_len rfl rfl rfl rfl ?_
    | refine wo_buildSlice rfl rfl rfl ?_
    | refine wo_build rfl rfl rfl ?_
    | refine wo_pick rfl rfl rfl ?_
    | refine wo_strEq rfl rfl rfl ?_
    | refine wo_boolEq rfl rfl rfl rfl ?_
    | refine wo_boolNe rfl rfl rfl rfl ?_
    | refine wo_strNe rfl rfl rfl ?_
    | refine wo_on rfl ?_
    | refine wo_off rfl rfl ?_
    | refine wo_offn rfl ?_)
  refine wo_call rfl rfl orc_cons rfl (state_spec h h3 h4) ?_
  rintro r A1 ⟨rfl, rfl⟩
  repeat (first
    | refine wg_seq ?_
    | refine wg_skip ?_
    | refine wg_block ?_
    | refine wg_scope ?_
    | refine wg_inBlock ?_
    | refine wg_inScope ?_
    | refine wg_region ?_
    | refine wo_nil ?_
    | refine wo_move rfl rfl ?_
    | refine wo_assign rfl rfl ?_
    | refine wo_fieldAddr rfl rfl rfl ?_
    | refine wo_nilCheck rfl rfl ?_
    | refine wo_extract rfl rfl rfl ?_
    | refine wo_load rfl rfl rfl rfl (by assumption) rfl ?_
    | refine wo_eql rfl rfl rfl ?_
    | refine wo_neq rfl rfl rfl ?_
    | refine wo_lss rfl rfl rfl ?_
    | refine wo_gtr rfl rfl rfl ?_
    | refine wo_leq rfl rfl rfl ?_
    | refine wo_geq rfl rfl rfl ?_
    | refine wo_not rfl rfl ?_
    | refine wo_lenStr rfl rfl rfl ?_
    | refine wo_len rfl rfl rfl rfl ?_
    | refine wo_buildSlice rfl rfl rfl ?_
    | refine wo_build rfl rfl rfl ?_
    | refine wo_pick rfl rfl rfl ?_
    | refine wo_strEq rfl rfl rfl ?_
    | refine wo_boolEq rfl rfl rfl rfl ?_
    | refine wo_boolNe rfl rfl rfl rfl ?_
    | refine wo_strNe rfl rfl rfl ?_
    | refine wo_on rfl ?_
    | refine wo_off rfl rfl ?_
    | refine wo_offn rfl ?_)
  refine wg_dec rfl (fun h5 => ?_) fun h5 => ?_
  · have h5 : stT ts other = 5 := h5
    rw [if_pos h5]
    repeat (first
      | refine wg_seq ?_
      | refine wg_skip ?_
      | refine wg_block ?_
      | refine wg_scope ?_
      | refine wg_inBlock ?_
      | refine wg_inScope ?_
      | refine wg_region ?_
      | refine wo_nil ?_
      | refine wo_move rfl rfl ?_
      | refine wo_assign rfl rfl ?_
      | refine wo_fieldAddr rfl rfl rfl ?_
      | refine wo_nilCheck rfl rfl ?_
      | refine wo_extract rfl rfl rfl ?_
      | refine wo_load rfl rfl rfl rfl (by assumption) rfl ?_
      | refine wo_eql rfl rfl rfl ?_
      | refine wo_neq rfl rfl rfl ?_
      | refine wo_lss rfl rfl rfl ?_
      | refine wo_gtr rfl rfl rfl ?_
      | refine wo_leq rfl rfl rfl ?_
      | refine wo_geq rfl rfl rfl ?_
      | refine wo_not rfl rfl ?_
      | refine wo_lenStr rfl rfl rfl ?_
      | refine wo_len rfl rfl rfl rfl ?_
      | refine wo_buildSlice rfl rfl rfl ?_
      | refine wo_build rfl rfl rfl ?_
      | refine wo_pick rfl rfl rfl ?_
      | refine wo_strEq rfl rfl rfl ?_
      | refine wo_boolEq rfl rfl rfl rfl ?_
      | refine wo_boolNe rfl rfl rfl rfl ?_
      | refine wo_strNe rfl rfl rfl ?_
      | refine wo_on rfl ?_
      | refine wo_off rfl rfl ?_
      | refine wo_offn rfl ?_)
    exact wg_ret rfl ⟨rfl, SStep.refl hw h⟩
  have h5 : ¬ stT ts other = 5 := h5
  rw [if_neg h5]
  obtain ⟨i, a, b, rfl, hi⟩ := id_in (ts := ts) (id := id) fun e => hok (.inl (by rw [stT_out e]; decide))
  have hil := (List.getElem?_eq_some_iff.1 hi).1
  obtain ⟨f, t, rfl, hf, hl⟩ := h.st.slice (by omega)
  have e1 : ((i : Int) + 1).toNat - 1 = i := by omega
  rw [e1]
  have st1 := h.setSt rfl hw hi 4
  have hi1 : (ts.set i (4, b))[i]? = some (4, b) := by rw [List.getElem?_set, if_pos rfl, if_pos hil]
  obtain ⟨f2, t2, rfl, hf2, hl2⟩ := h.jo.slice (by omega)
  have hf2' : (A1.put f (.cells t false 1 (stOf (ts.set i (4, b))))).heap.get f2 = some (.cells t2 false 1 (joOf ts)) := by
    rw [AW.put_get, if_neg fun e => h.dj f rfl e.symm]
    exact hf2
  have st2 := st1.sc.setJo (List.length_set ..).symm st1.only.wf hi1 other
  rw [List.set_set] at st2
  repeat (first
    | refine wg_seq ?_
    | refine wg_skip ?_
    | refine wg_block ?_
    | refine wg_scope ?_
    | refine wg_inBlock ?_
    | refine wg_inScope ?_
    | refine wg_region ?_
    | refine wo_nil ?_
    | refine wo_move rfl rfl ?_
    | refine wo_assign rfl rfl ?_
    | refine wo_fieldAddr rfl rfl rfl ?_
    | refine wo_nilCheck rfl rfl ?_
    | refine wo_extract rfl rfl rfl ?_
    | refine wo_load rfl rfl rfl rfl (by assumption) rfl ?_
    | refine wo_eql rfl rfl rfl ?_
    | refine wo_neq rfl rfl rfl ?_
    | refine wo_lss rfl rfl rfl ?_
    | refine wo_gtr rfl rfl rfl ?_
    | refine wo_leq rfl rfl rfl ?_
    | refine wo_geq rfl rfl rfl ?_
    | refine wo_not rfl rfl ?_
    | refine wo_lenStr rfl rfl rfl ?_
    | refine wo_len rfl rfl rfl rfl ?_
    | refine wo_buildSlice rfl rfl rfl ?_
    | refine wo_build rfl rfl rfl ?_
    | refine wo_pick rfl rfl rfl ?_
    | refine wo_strEq rfl rfl rfl ?_
    | refine wo_boolEq rfl rfl rfl rfl ?_
    | refine wo_boolNe rfl rfl rfl rfl ?_
    | refine wo_strNe rfl rfl rfl ?_
    | refine wo_on rfl ?_
    | refine wo_off rfl rfl ?_
    | refine wo_offn rfl ?_)
  refine wo_sub rfl rfl rfl (by omega) (by omega) ?_
  refine wo_indexAddr i rfl rfl rfl rfl (by omega) hil ?_
  refine wo_store (cs' := stOf (ts.set i (4, b))) rfl rfl rfl rfl rfl rfl hf ?_ ?_
  · rw [show Nat.add 0 (Nat.mul i d3.size) = i from by show 0 + i * 1 = i; omega, ← stOf_set 4 b]
    exact putN_set (by rw [stOf_len]; exact hil)
  have hc1 := st1.sc.cell
  repeat (first
    | refine wg_seq ?_
    | refine wg_skip ?_
    | refine wg_block ?_
    | refine wg_scope ?_
    | refine wg_inBlock ?_
    | refine wg_inScope ?_
    | refine wg_region ?_
    | refine wo_nil ?_
    | refine wo_move rfl rfl ?_
    | refine wo_assign rfl rfl ?_
    | refine wo_fieldAddr rfl rfl rfl ?_
    | refine wo_nilCheck rfl rfl ?_
    | refine wo_extract rfl rfl rfl ?_
    | refine wo_load rfl rfl rfl rfl (by assumption) rfl ?_
    | refine wo_eql rfl rfl rfl ?_
    | refine wo_neq rfl rfl rfl ?_
    | refine wo_lss rfl rfl rfl ?_
    | refine wo_gtr rfl rfl rfl ?_
    | refine wo_leq rfl rfl rfl ?_
    | refine wo_geq rfl rfl rfl ?_
    | refine wo_not rfl rfl ?_
    | refine wo_lenStr rfl rfl rfl ?_
    | refine wo_len rfl rfl rfl rfl ?_
    | refine wo_buildSlice rfl rfl rfl ?_
    | refine wo_build rfl rfl rfl ?_
    | refine wo_pick rfl rfl rfl ?_
    | refine wo_strEq rfl rfl rfl ?_
    | refine wo_boolEq rfl rfl rfl rfl ?_
    | refine wo_boolNe rfl rfl rfl rfl ?_
    | refine wo_strNe rfl rfl rfl ?_
    | refine wo_on rfl ?_
    | refine wo_off rfl rfl ?_
    | refine wo_offn rfl ?_)
  refine wo_sub rfl rfl rfl (by omega) (by omega) ?_
  repeat (first
    | refine wg_seq ?_
    | refine wg_skip ?_
    | refine wg_block ?_
    | refine wg_scope ?_
    | refine wg_inBlock ?_
    | refine wg_inScope ?_
    | refine wg_region ?_
    | refine wo_nil ?_
    | refine wo_move rfl rfl ?_
    | refine wo_assign rfl rfl ?_
    | refine wo_fieldAddr rfl rfl rfl ?_
    | refine wo_nilCheck rfl rfl ?_
    | refine wo_extract rfl rfl rfl ?_
    | refine wo_load rfl rfl rfl rfl (by assumption) rfl ?_
    | refine wo_eql rfl rfl rfl ?_
    | refine wo_neq rfl rfl rfl ?_
    | refine wo_lss rfl rfl rfl ?_
    | refine wo_gtr rfl rfl rfl ?_
    | refine wo_leq rfl rfl rfl ?_
    | refine wo_geq rfl rfl rfl ?_
    | refine wo_not rfl rfl ?_
    | refine wo_lenStr rfl rfl rfl ?_
    | refine wo_len rfl rfl rfl rfl ?_
    | refine wo_buildSlice rfl rfl rfl ?_
    | refine wo_build rfl rfl rfl ?_
    | refine wo_pick rfl rfl rfl ?_
    | refine wo_strEq rfl rfl rfl ?_
    | refine wo_boolEq rfl rfl rfl rfl ?_
    | refine wo_boolNe rfl rfl rfl rfl ?_
    | refine wo_strNe rfl rfl rfl ?_
    | refine wo_on rfl ?_
    | refine wo_off rfl rfl ?_
    | refine wo_offn rfl ?_)
  refine wo_indexAddr i rfl rfl rfl rfl (by omega) hil ?_
  refine wo_store (cs' := joOf (ts.set i (4, other))) rfl rfl rfl rfl rfl rfl hf2' ?_ ?_
  · rw [show Nat.add 0 (Nat.mul i d3.size) = i from by show 0 + i * 1 = i; omega, ← joOf_set 4 other]
    exact putN_set (by rw [joOf_len]; exact hil)
  repeat (first
    | refine wg_seq ?_
    | refine wg_skip ?_
    | refine wg_block ?_
    | refine wg_scope ?_
    | refine wg_inBlock ?_
    | refine wg_inScope ?_
    | refine wg_region ?_
    | refine wo_nil ?_
    | refine wo_move rfl rfl ?_
    | refine wo_assign rfl rfl ?_
    | refine wo_fieldAddr rfl rfl rfl ?_
    | refine wo_nilCheck rfl rfl ?_
    | refine wo_extract rfl rfl rfl ?_
    | refine wo_load rfl rfl rfl rfl (by assumption) rfl ?_
    | refine wo_eql rfl rfl rfl ?_
    | refine wo_neq rfl rfl rfl ?_
    | refine wo_lss rfl rfl rfl ?_
    | refine wo_gtr rfl rfl rfl ?_
    | refine wo_leq rfl rfl rfl ?_
    | refine wo_geq rfl rfl rfl ?_
    | refine wo_not rfl rfl ?_
    | refine wo_lenStr rfl rfl rfl ?_
    | refine wo_len rfl rfl rfl rfl ?_
    | refine wo_buildSlice rfl rfl rfl ?_
    | refine wo_build rfl rfl rfl ?_
    | refine wo_pick rfl rfl rfl ?_
    | refine wo_strEq rfl rfl rfl ?_
    | refine wo_boolEq rfl rfl rfl rfl ?_
    | refine wo_boolNe rfl rfl rfl rfl ?_
    | refine wo_strNe rfl rfl rfl ?_
    | refine wo_on rfl ?_
    | refine wo_off rfl rfl ?_
    | refine wo_offn rfl ?_)
  exact wg_ret rfl ⟨rfl, st1.trans hw st2⟩
end Go.Proofs.Ytejmdglmldjliaa.Ae
