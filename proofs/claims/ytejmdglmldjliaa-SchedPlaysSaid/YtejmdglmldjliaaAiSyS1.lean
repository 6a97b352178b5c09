/-
  A SCHEDULER'S FUNCTIONS, by the rules: what it is; Len, State, Spawn, Set, Join.
-/
import Derived.Test.YtejmdglmldjliaaAiSyTab
import Derived.Test.YtejmdglmldjliaaAiSy5
namespace Go.Proofs.Ytejmdglmldjliaa.Ae
open Go.AE
set_option linter.unusedVariables false
set_option maxRecDepth 100000

/-! ### Threads -/
abbrev Th := Int × Int
def ints (l : List Int) : List AV := l.map fun z => .int .i64 z
def stOf (ts : List Th) : List AV := ints (ts.map (·.1))
def joOf (ts : List Th) : List AV := ints (ts.map (·.2))
/-- A thread's state. -/
def stT (ts : List Th) (id : Int) : Int := if id < 1 ∨ (ts.length : Int) < id then 0 else (ts.getD (id.toNat - 1) (0, 0)).1
def foot (fs : Nat) (vs vj : AV) : Nat → Prop := both (one fs) (both vs.isFam vj.isFam)
/-- A scheduler of the threads ts. -/
structure Sc (A : AW) (fs : Nat) (vs vj : AV) (ts : List Th) : Prop where
  cell : A.heap.get fs = some (.cells 0 false 2 [vs, vj])
  st : Buf A 1 vs ts.length (stOf ts)
  jo : Buf A 1 vj ts.length (joOf ts)
  os : ¬ vs.isFam fs
  oj : ¬ vj.isFam fs
  dj : Disj vs.isFam vj.isFam
theorem Sc.keep {A A1 : AW} {fs : Nat} {vs vj : AV} {ts : List Th} {T : Nat → Prop} (h : Sc A fs vs vj ts) (ho : Only A A1 T) (hd : Disj (foot fs vs vj) T) : Sc A1 fs vs vj ts :=
  ⟨ho.keep fs _ h.cell (hd fs (.inl rfl)), h.st.keep ho fun g hg => hd g (.inr (.inl hg)), h.jo.keep ho fun g hg => hd g (.inr (.inr hg)), h.os, h.oj, h.dj⟩
theorem Sc.under {A : AW} {fs : Nat} {vs vj : AV} {ts : List Th} (hw : Wf A) (h : Sc A fs vs vj ts) : Under A (foot fs vs vj) := fun g hg => by
  rcases hg with hg | hg | hg
  · cases hg; exact hw _ _ h.cell
  · exact h.st.under hw g hg
  · exact h.jo.under hw g hg
/-- It is a scheduler of the threads ts now. -/
structure SStep (A A1 : AW) (fs : Nat) (vs vj vs' vj' : AV) (ts : List Th) : Prop where
  sc : Sc A1 fs vs' vj' ts
  only : Only A A1 (foot fs vs vj)
  grow : Grow A (foot fs vs vj) (foot fs vs' vj')
theorem SStep.refl {A : AW} {fs : Nat} {vs vj : AV} {ts : List Th} (hw : Wf A) (h : Sc A fs vs vj ts) : SStep A A fs vs vj vs vj ts := ⟨h, Only.refl hw _, Grow.refl _ _⟩
theorem SStep.trans {A A1 A2 : AW} {fs : Nat} {vs vj v1 w1 v2 w2 : AV} {ts us : List Th} (hw : Wf A) (h : SStep A A1 fs vs vj v1 w1 ts) (k : SStep A1 A2 fs v1 w1 v2 w2 us) : SStep A A2 fs vs vj v2 w2 us :=
  ⟨k.sc, h.only.trans hw k.only h.grow, h.grow.trans k.grow h.only.nxt⟩

theorem ints_get {l : List Int} {i : Nat} {z : Int} (h : l[i]? = some z) : nth (ints l) i = some (.int .i64 z) := by
  rw [nth_eq]
  unfold ints
  rw [List.getElem?_map, h]
  rfl
theorem ints_set (l : List Int) (i : Nat) (z : Int) : (ints l).set i (.int .i64 z) = ints (l.set i z) := by
  unfold ints
  rw [List.map_set]
theorem ints_len (l : List Int) : (ints l).length = l.length := by simp [ints]
theorem stOf_len (ts : List Th) : (stOf ts).length = ts.length := by simp [stOf, ints]
theorem joOf_len (ts : List Th) : (joOf ts).length = ts.length := by simp [joOf, ints]
theorem stOf_get {ts : List Th} {i : Nat} {a b : Int} (h : ts[i]? = some (a, b)) : nth (stOf ts) i = some (.int .i64 a) := ints_get (by rw [List.getElem?_map, h]; rfl)
theorem joOf_get {ts : List Th} {i : Nat} {a b : Int} (h : ts[i]? = some (a, b)) : nth (joOf ts) i = some (.int .i64 b) := ints_get (by rw [List.getElem?_map, h]; rfl)
theorem stOf_set {ts : List Th} {i : Nat} (x y : Int) : (stOf ts).set i (.int .i64 x) = stOf (ts.set i (x, y)) := by
  unfold stOf
  rw [ints_set, List.map_set]
theorem joOf_set {ts : List Th} {i : Nat} (x y : Int) : (joOf ts).set i (.int .i64 y) = joOf (ts.set i (x, y)) := by
  unfold joOf
  rw [ints_set, List.map_set]
/-- The other list does not tell. -/
theorem joOf_same {ts : List Th} {i : Nat} {a b : Int} (h : ts[i]? = some (a, b)) (x : Int) : joOf (ts.set i (x, b)) = joOf ts := by
  unfold joOf
  rw [List.map_set]
  congr 1
  apply List.ext_getElem?
  intro j
  by_cases e : i = j
  · subst e
    rw [List.getElem?_set]
    have hl : i < (ts.map (·.2)).length := by rw [List.length_map]; exact (List.getElem?_eq_some_iff.1 h).1
    rw [if_pos rfl, if_pos hl, List.getElem?_map, h]
    rfl
  · rw [List.getElem?_set, if_neg e]
theorem len_spec {K : FuncId} {A : AW} {fs : Nat} {vs vj : AV} {ts : List Th} (h : Sc A fs vs vj ts) : CallP (ES K) 48 [.ptr fs 0 0] A fun r A1 => r = .int .i64 (ts.length : Int) ∧ A1 = A := by
  refine call_of rfl rfl rfl ?_
  have hc := h.cell
  repeat (first
    | refine wg_seq ?_
    | refine wg_skip ?_
    | refine wg_block ?_
    | refine wg_scope ?_
    | refine wg_inBlock ?_
    | refine wg_inScope ?_
    | refine wg_region ?_
    | refine wo_nil ?_
    | refine wo_move rfl rfl ?_
    | refine wo_assign rfl rfl ?_
    | refine wo_fieldAddr rfl rfl rfl ?_
    | refine wo_nilCheck rfl rfl ?_
    | refine wo_extract rfl rfl rfl ?_
    | refine wo_load rfl rfl rfl rfl (by assumption) rfl ?_
    | refine wo_eql rfl rfl rfl ?_
    | refine wo_neq rfl rfl rfl ?_
    | refine wo_lss rfl rfl rfl ?_
    | refine wo_gtr rfl rfl rfl ?_
    | refine wo_leq rfl rfl rfl ?_
    | refine wo_geq rfl rfl rfl ?_
    | refine wo_not rfl rfl ?_
    | refine wo_lenStr rfl rfl rfl ?_
    | refine wo_len rfl rfl rfl rfl ?_
    | refine wo_buildSlice rfl rfl rfl ?_
    | refine wo_build rfl rfl rfl ?_
    | refine wo_pick rfl rfl rfl ?_
    | refine wo_strEq rfl rfl rfl ?_
    | refine wo_boolEq rfl rfl rfl rfl ?_
    | refine wo_boolNe rfl rfl rfl rfl ?_
    | refine wo_strNe rfl rfl rfl ?_
    | refine wo_on rfl ?_
    | refine wo_off rfl rfl ?_
    | refine wo_offn rfl ?_)
  refine wo_len rfl rfl rfl h.st.lenV ?_
  repeat (first
    | refine wg_seq ?_
    | refine wg_skip ?_
    | refine wg_block ?_
    | refine wg_scope ?_
    | refine wg_inBlock ?_
    | refine wg_inScope ?_
    | refine wg_region ?_
    | refine wo_nil ?_
    | refine wo_move rfl rfl ?_
    | refine wo_assign rfl rfl ?_
    | refine wo_fieldAddr rfl rfl rfl ?_
    | refine wo_nilCheck rfl rfl ?_
    | refine wo_extract rfl rfl rfl ?_
    | refine wo_load rfl rfl rfl rfl (by assumption) rfl ?_
    | refine wo_eql rfl rfl rfl ?_
    | refine wo_neq rfl rfl rfl ?_
    | refine wo_lss rfl rfl rfl ?_
    | refine wo_gtr rfl rfl rfl ?_
    | refine wo_leq rfl rfl rfl ?_
    | refine wo_geq rfl rfl rfl ?_
    | refine wo_not rfl rfl ?_
    | refine wo_lenStr rfl rfl rfl ?_
    | refine wo_len rfl rfl rfl rfl ?_
    | refine wo_buildSlice rfl rfl rfl ?_
    | refine wo_build rfl rfl rfl ?_
    | refine wo_pick rfl rfl rfl ?_
    | refine wo_strEq rfl rfl rfl ?_
    | refine wo_boolEq rfl rfl rfl rfl ?_
    | refine wo_boolNe rfl rfl rfl rfl ?_
    | refine wo_strNe rfl rfl rfl ?_
    | refine wo_on rfl ?_
    | refine wo_off rfl rfl ?_
    | refine wo_offn rfl ?_)
  exact wg_ret rfl ⟨rfl, rfl⟩

theorem stT_out {ts : List Th} {id : Int} (h : id < 1 ∨ (ts.length : Int) < id) : stT ts id = 0 := if_pos h
theorem stT_in {ts : List Th} {i : Nat} {a b : Int} (h : ts[i]? = some (a, b)) : stT ts ((i : Int) + 1) = a := by
  have hi := (List.getElem?_eq_some_iff.1 h).1
  unfold stT
  rw [if_neg (by omega), show ((i : Int) + 1).toNat - 1 = i from by omega, List.getD_eq_getElem?_getD, h]
  rfl
theorem id_in {ts : List Th} {id : Int} (h : ¬ (id < 1 ∨ (ts.length : Int) < id)) : ∃ (i : Nat) (a b : Int), id = (i : Int) + 1 ∧ ts[i]? = some (a, b) := by
  have hi : id.toNat - 1 < ts.length := by omega
  refine ⟨id.toNat - 1, (ts[id.toNat - 1]).1, (ts[id.toNat - 1]).2, by omega, ?_⟩
  rw [List.getElem?_eq_getElem hi]

theorem state_spec {K : FuncId} {A : AW} {fs : Nat} {vs vj : AV} {ts : List Th} {id : Int} (h : Sc A fs vs vj ts) (h1 : -9223372036854775808 ≤ id) (h2 : id < 9223372036854775808) :
    CallP (ES K) 35 [.ptr fs 0 0, .int .i64 id] A fun r A1 => r = .int .i64 (stT ts id) ∧ A1 = A := by
  refine call_of rfl rfl rfl ?_
  have hc := h.cell
  repeat (first
    | refine wo_nil ?_
    | refine wo_move rfl rfl ?_
    | refine wo_assign rfl rfl ?_
    | refine wo_fieldAddr rfl rfl rfl ?_
    | refine wo_nilCheck rfl rfl ?_
    | refine wo_extract rfl rfl rfl ?_
    | refine wo_load rfl rfl rfl rfl (by assumption) rfl ?_
    | refine wo_eql rfl rfl rfl ?_
    | refine wo_neq rfl rfl rfl ?_
    | refine wo_lss rfl rfl rfl ?_
    | refine wo_gtr rfl rfl rfl ?_
    | refine wo_leq rfl rfl rfl ?_
    | refine wo_geq rfl rfl rfl ?_
    | refine wo_not rfl rfl ?_
    | refine wo_lenStr rfl rfl rfl ?_
    | refine wo_len rfl rfl rfl rfl ?_
    | refine wo_buildSlice rfl rfl rfl ?_
    | refine wo_build rfl rfl rfl ?_
    | refine wo_pick rfl rfl rfl ?_
    | refine wo_strEq rfl rfl rfl ?_
    | refine wo_boolEq rfl rfl rfl rfl ?_
    | refine wo_boolNe rfl rfl rfl rfl ?_
    | refine wo_strNe rfl rfl rfl ?_
    | refine wo_on rfl ?_
    | refine wo_off rfl rfl ?_
    | refine wo_offn rfl ?_)
  repeat (first
    | refine wg_seq ?_
    | refine wg_skip ?_
    | refine wg_block ?_
    | refine wg_scope ?_
    | refine wg_inBlock ?_
    | refine wg_inScope ?_)
  refine wg_region ?_
  repeat (first
    | refine wo_nil ?_
    | refine wo_move rfl rfl ?_
    | refine wo_assign rfl rfl ?_
    | refine wo_fieldAddr rfl rfl rfl ?_
    | refine wo_nilCheck rfl rfl ?_
    | refine wo_extract rfl rfl rfl ?_
    | refine wo_load rfl rfl rfl rfl (by assumption) rfl ?_
    | refine wo_eql rfl rfl rfl ?_
    | refine wo_neq rfl rfl rfl ?_
    | refine wo_lss rfl rfl rfl ?_
    | refine wo_gtr rfl rfl rfl ?_
    | refine wo_leq rfl rfl rfl ?_
    | refine wo_geq rfl rfl rfl ?_
    | refine wo_not rfl rfl ?_
    | refine wo_lenStr rfl rfl rfl ?_
    | refine wo_len rfl rfl rfl rfl ?_
    | refine wo_buildSlice rfl rfl rfl ?_
    | refine wo_build rfl rfl rfl ?_
    | refine wo_pick rfl rfl rfl ?_
    | refine wo_strEq rfl rfl rfl ?_
    | refine wo_boolEq rfl rfl rfl rfl ?_
    | refine wo_boolNe rfl rfl rfl rfl ?_
    | refine wo_strNe rfl rfl rfl ?_
    | refine wo_on rfl ?_
    | refine wo_off rfl rfl ?_
    | refine wo_offn rfl ?_)
  repeat (first
    | refine wg_seq ?_
    | refine wg_skip ?_
    | refine wg_block ?_
    | refine wg_scope ?_
    | refine wg_inBlock ?_
    | refine wg_inScope ?_)
  refine wg_regionTo (.put 0 (.ptr fs 0 0) (.put 1 (.int .i64 id) (.put 12 (.bool (decide (id < 1 ∨ (ts.length : Int) < id))) .nil))) ?_ ?_
  · repeat (first
      | refine wo_nil ?_
      | refine wo_move rfl rfl ?_
      | refine wo_assign rfl rfl ?_
      | refine wo_fieldAddr rfl rfl rfl ?_
      | refine wo_nilCheck rfl rfl ?_
      | refine wo_extract rfl rfl rfl ?_
      | refine wo_load rfl rfl rfl rfl (by assumption) rfl ?_
      | refine wo_eql rfl rfl rfl ?_
      | refine wo_neq rfl rfl rfl ?_
      | refine wo_lss rfl rfl rfl ?_
      | refine wo_gtr rfl rfl rfl ?_
      | refine wo_leq rfl rfl rfl ?_
      | refine wo_geq rfl rfl rfl ?_
      | refine wo_not rfl rfl ?_
      | refine wo_lenStr rfl rfl rfl ?_
      | refine wo_len rfl rfl rfl rfl ?_
      | refine wo_buildSlice rfl rfl rfl ?_
      | refine wo_build rfl rfl rfl ?_
      | refine wo_pick rfl rfl rfl ?_
      | refine wo_strEq rfl rfl rfl ?_
      | refine wo_boolEq rfl rfl rfl rfl ?_
      | refine wo_boolNe rfl rfl rfl rfl ?_
      | refine wo_strNe rfl rfl rfl ?_
      | refine wo_on rfl ?_
      | refine wo_off rfl rfl ?_
      | refine wo_offn rfl ?_)
    by_cases h3 : id < 1
    · refine wo_is 7 true rfl (decide_eq_true h3) ?_
      repeat (first
        | refine wo_nil ?_
        | refine wo_move rfl rfl ?_
        | refine wo_assign rfl rfl ?_
        | refine wo_fieldAddr rfl rfl rfl ?_
        | refine wo_nilCheck rfl rfl ?_
        | refine wo_extract rfl rfl rfl ?_
        | refine wo_load rfl rfl rfl rfl (by assumption) rfl ?_
        | refine wo_eql rfl rfl rfl ?_
        | refine wo_neq rfl rfl rfl ?_
        | refine wo_lss rfl rfl rfl ?_
        | refine wo_gtr rfl rfl rfl ?_
        | refine wo_leq rfl rfl rfl ?_
        | refine wo_geq rfl rfl rfl ?_
        | refine wo_not rfl rfl ?_
        | refine wo_lenStr rfl rfl rfl ?_
        | refine wo_len rfl rfl rfl rfl ?_
        | refine wo_buildSlice rfl rfl rfl ?_
        | refine wo_build rfl rfl rfl ?_
        | refine wo_pick rfl rfl rfl ?_
        | refine wo_strEq rfl rfl rfl ?_
        | refine wo_boolEq rfl rfl rfl rfl ?_
        | refine wo_boolNe rfl rfl rfl rfl ?_
        | refine wo_strNe rfl rfl rfl ?_
        | refine wo_on rfl ?_
        | refine wo_off rfl rfl ?_
        | refine wo_offn rfl ?_)
      exact ⟨rfl, rfl, rfl, congrArg (fun x => some (AV.bool x)) (decide_eq_true (.inl h3)).symm, trivial⟩
    · refine wo_is 7 false rfl (decide_eq_false h3) ?_
      repeat (first
        | refine wo_nil ?_
        | refine wo_move rfl rfl ?_
        | refine wo_assign rfl rfl ?_
        | refine wo_fieldAddr rfl rfl rfl ?_
        | refine wo_nilCheck rfl rfl ?_
        | refine wo_extract rfl rfl rfl ?_
        | refine wo_load rfl rfl rfl rfl (by assumption) rfl ?_
        | refine wo_eql rfl rfl rfl ?_
        | refine wo_neq rfl rfl rfl ?_
        | refine wo_lss rfl rfl rfl ?_
        | refine wo_gtr rfl rfl rfl ?_
        | refine wo_leq rfl rfl rfl ?_
        | refine wo_geq rfl rfl rfl ?_
        | refine wo_not rfl rfl ?_
        | refine wo_lenStr rfl rfl rfl ?_
        | refine wo_len rfl rfl rfl rfl ?_
        | refine wo_buildSlice rfl rfl rfl ?_
        | refine wo_build rfl rfl rfl ?_
        | refine wo_pick rfl rfl rfl ?_
        | refine wo_strEq rfl rfl rfl ?_
        | refine wo_boolEq rfl rfl rfl rfl ?_
        | refine wo_boolNe rfl rfl rfl rfl ?_
        | refine wo_strNe rfl rfl rfl ?_
        | refine wo_on rfl ?_
        | refine wo_off rfl rfl ?_
        | refine wo_offn rfl ?_)
      refine wo_call rfl rfl orc_cons rfl (len_spec h) ?_
      rintro r A1 ⟨rfl, rfl⟩
      repeat (first
        | refine wo_nil ?_
        | refine wo_move rfl rfl ?_
        | refine wo_assign rfl rfl ?_
        | refine wo_fieldAddr rfl rfl rfl ?_
        | refine wo_nilCheck rfl rfl ?_
        | refine wo_extract rfl rfl rfl ?_
        | refine wo_load rfl rfl rfl rfl (by assumption) rfl ?_
        | refine wo_eql rfl rfl rfl ?_
        | refine wo_neq rfl rfl rfl ?_
        | refine wo_lss rfl rfl rfl ?_
        | refine wo_gtr rfl rfl rfl ?_
        | refine wo_leq rfl rfl rfl ?_
        | refine wo_geq rfl rfl rfl ?_
        | refine wo_not rfl rfl ?_
        | refine wo_lenStr rfl rfl rfl ?_
        | refine wo_len rfl rfl rfl rfl ?_
        | refine wo_buildSlice rfl rfl rfl ?_
        | refine wo_build rfl rfl rfl ?_
        | refine wo_pick rfl rfl rfl ?_
        | refine wo_strEq rfl rfl rfl ?_
        | refine wo_boolEq rfl rfl rfl rfl ?_
        | refine wo_boolNe rfl rfl rfl rfl ?_
        | refine wo_strNe rfl rfl rfl ?_
        | refine wo_on rfl ?_
        | refine wo_off rfl rfl ?_
        | refine wo_offn rfl ?_)
      exact ⟨rfl, rfl, rfl, congrArg (fun x => some (AV.bool x)) (decide_eq_decide.2 (by omega)), trivial⟩
  refine wg_dec rfl (fun hout => ?_) fun hin => ?_
  · rw [stT_out hout]
    repeat (first
      | refine wg_seq ?_
      | refine wg_skip ?_
      | refine wg_block ?_
      | refine wg_scope ?_
      | refine wg_inBlock ?_
      | refine wg_inScope ?_
      | refine wg_region ?_
      | refine wo_nil ?_
      | refine wo_move rfl rfl ?_
      | refine wo_assign rfl rfl ?_
      | refine wo_fieldAddr rfl rfl rfl ?_
      | refine wo_nilCheck rfl rfl ?_
      | refine wo_extract rfl rfl rfl ?_
      | refine wo_load rfl rfl rfl rfl (by assumption) rfl ?_
      | refine wo_eql rfl rfl rfl ?_
      | refine wo_neq rfl rfl rfl ?_
      | refine wo_lss rfl rfl rfl ?_
      | refine wo_gtr rfl rfl rfl ?_
      | refine wo_leq rfl rfl rfl ?_
      | refine wo_geq rfl rfl rfl ?_
      | refine wo_not rfl rfl ?_
      | refine wo_lenStr rfl rfl rfl ?_
      | refine wo_len rfl rfl rfl rfl ?_
      | refine wo_buildSlice rfl rfl rfl ?_
      | refine wo_build rfl rfl rfl ?_
      | refine wo_pick rfl rfl rfl ?_
      | refine wo_strEq rfl rfl rfl ?_
      | refine wo_boolEq rfl rfl rfl rfl ?_
      | refine wo_boolNe rfl rfl rfl rfl ?_
      | refine wo_strNe rfl rfl rfl ?_
      | refine wo_on rfl ?_
      | refine wo_off rfl rfl ?_
      | refine wo_offn rfl ?_)
    exact wg_ret rfl ⟨rfl, rfl⟩
  · obtain ⟨i, a, b, rfl, hi⟩ := id_in hin
    have hil := (List.getElem?_eq_some_iff.1 hi).1
    rw [stT_in hi]
    obtain ⟨f, t, rfl, hf, _⟩ := h.st.slice (by omega)
    repeat (first
      | refine wg_seq ?_
      | refine wg_skip ?_
      | refine wg_block ?_
      | refine wg_scope ?_
      | refine wg_inBlock ?_
      | refine wg_inScope ?_
      | refine wg_region ?_
      | refine wo_nil ?_
      | refine wo_move rfl rfl ?_
      | refine wo_assign rfl rfl ?_
      | refine wo_fieldAddr rfl rfl rfl ?_
      | refine wo_nilCheck rfl rfl ?_
      | refine wo_extract rfl rfl rfl ?_
      | refine wo_load rfl rfl rfl rfl (by assumption) rfl ?_
      | refine wo_eql rfl rfl rfl ?_
      | refine wo_neq rfl rfl rfl ?_
      | refine wo_lss rfl rfl rfl ?_
      | refine wo_gtr rfl rfl rfl ?_
      | refine wo_leq rfl rfl rfl ?_
      | refine wo_geq rfl rfl rfl ?_
      | refine wo_not rfl rfl ?_
      | refine wo_lenStr rfl rfl rfl ?_
      | refine wo_len rfl rfl rfl rfl ?_
      | refine wo_buildSlice rfl rfl rfl ?_
      | refine wo_build rfl rfl rfl ?_
      | refine wo_pick rfl rfl rfl ?_
      | refine wo_strEq rfl rfl rfl ?_
      | refine wo_boolEq rfl rfl rfl rfl ?_
      | refine wo_boolNe rfl rfl rfl rfl ?_
      | refine wo_strNe rfl rfl rfl ?_
      | refine wo_on rfl ?_
      | refine wo_off rfl rfl ?_
      | refine wo_offn rfl ?_)
    refine wo_sub rfl rfl rfl (by omega) (by omega) ?_
    refine wo_indexAddr i rfl rfl rfl rfl (by omega) hil ?_
    refine wo_load (v := .int .i64 a) rfl rfl rfl rfl hf (by rw [show Nat.add 0 (Nat.mul i d3.size) = i from by show 0 + i * 1 = i; omega]; exact stOf_get hi) ?_
    repeat (first
      | refine wg_seq ?_
      | refine wg_skip ?_
      | refine wg_block ?_
      | refine wg_scope ?_
      | refine wg_inBlock ?_
      | refine wg_inScope ?_
      | refine wg_region ?_
      | refine wo_nil ?_
      | refine wo_move rfl rfl ?_
      | refine wo_assign rfl rfl ?_
      | refine wo_fieldAddr rfl rfl rfl ?_
      | refine wo_nilCheck rfl rfl ?_
      | refine wo_extract rfl rfl rfl ?_
      | refine wo_load rfl rfl rfl rfl (by assumption) rfl ?_
      | refine wo_eql rfl rfl rfl ?_
      | refine wo_neq rfl rfl rfl ?_
      | refine wo_lss rfl rfl rfl ?_
      | refine wo_gtr rfl rfl rfl ?_
      | refine wo_leq rfl rfl rfl ?_
      | refine wo_geq rfl rfl rfl ?_
      | refine wo_not rfl rfl ?_
      | refine wo_lenStr rfl rfl rfl ?_
      | refine wo_len rfl rfl rfl rfl ?_
      | refine wo_buildSlice rfl rfl rfl ?_
      | refine wo_build rfl rfl rfl ?_
      | refine wo_pick rfl rfl rfl ?_
      | refine wo_strEq rfl rfl rfl ?_
      | refine wo_boolEq rfl rfl rfl rfl ?_
      | refine wo_boolNe rfl rfl rfl rfl ?_
      | refine wo_strNe rfl rfl rfl ?_
      | refine wo_on rfl ?_
      | refine wo_off rfl rfl ?_
      | refine wo_offn rfl ?_)
    exact wg_ret rfl ⟨rfl, rfl⟩

/-- A state is stored. -/
theorem Sc.setSt {A : AW} {fs f t : Nat} {vj : AV} {ts : List Th} {i n : Nat} {a b : Int} (hn0 : n = ts.length) (hw : Wf A) (h : Sc A fs (.slice f t 0 n n false) vj ts) (hi : ts[i]? = some (a, b)) (x : Int) :
    SStep A (A.put f (.cells t false 1 (stOf (ts.set i (x, b))))) fs (.slice f t 0 n n false) vj (.slice f t 0 n n false) vj (ts.set i (x, b)) := by
  subst hn0
  have hn : 0 < ts.length := by have := (List.getElem?_eq_some_iff.1 hi).1; omega
  obtain ⟨f', t', e, hf, hl⟩ := h.st.slice hn
  cases e
  have op : Only A (A.put f (.cells t false 1 (stOf (ts.set i (x, b))))) (one f) := Only.put hw (hw _ _ hf)
  have hfs : fs ≠ f := fun e => h.os e
  refine ⟨⟨op.keep fs _ h.cell hfs, ?_, ?_, h.os, h.oj, h.dj⟩, op.mono fun g hg => .inr (.inl hg), Grow.refl _ _⟩
  · rw [List.length_set]
    have := h.st.put (cs' := stOf (ts.set i (x, b))) (by rw [stOf_len, stOf_len, List.length_set])
    exact this
  · rw [List.length_set, joOf_same hi]
    exact h.jo.keep op fun g hg e => h.dj g (by cases e; exact rfl) hg
/-- Whom it joins is stored. -/
theorem Sc.setJo {A : AW} {fs f t : Nat} {vs : AV} {ts : List Th} {i n : Nat} {a b : Int} (hn0 : n = ts.length) (hw : Wf A) (h : Sc A fs vs (.slice f t 0 n n false) ts) (hi : ts[i]? = some (a, b)) (y : Int) :
    SStep A (A.put f (.cells t false 1 (joOf (ts.set i (a, y))))) fs vs (.slice f t 0 n n false) vs (.slice f t 0 n n false) (ts.set i (a, y)) := by
  subst hn0
  have hn : 0 < ts.length := by have := (List.getElem?_eq_some_iff.1 hi).1; omega
  obtain ⟨f', t', e, hf, hl⟩ := h.jo.slice hn
  cases e
  have op : Only A (A.put f (.cells t false 1 (joOf (ts.set i (a, y))))) (one f) := Only.put hw (hw _ _ hf)
  have hfs : fs ≠ f := fun e => h.oj e
  have hst : stOf (ts.set i (a, y)) = stOf ts := by
    unfold stOf
    rw [List.map_set]
    congr 1
    apply List.ext_getElem?
    intro j
    by_cases e : i = j
    · subst e
      rw [List.getElem?_set]
      have hl : i < (ts.map (·.1)).length := by rw [List.length_map]; exact (List.getElem?_eq_some_iff.1 hi).1
      rw [if_pos rfl, if_pos hl, List.getElem?_map, hi]
      rfl
    · rw [List.getElem?_set, if_neg e]
  refine ⟨⟨op.keep fs _ h.cell hfs, ?_, ?_, h.os, h.oj, h.dj⟩, op.mono fun g hg => .inr (.inr hg), Grow.refl _ _⟩
  · rw [List.length_set, hst]
    exact h.st.keep op fun g hg e => h.dj g hg (by cases e; exact rfl)
  · rw [List.length_set]
    exact h.jo.put (cs' := joOf (ts.set i (a, y))) (by rw [joOf_len, joOf_len, List.length_set])

/-- Setting a state: the threads behind it, the error. -/
def setT (ts : List Th) (id s : Int) : List Th × Int :=
  if stT ts id = 0 ∨ stT ts id = 5 ∨ stT ts id = 4 ∨ s < 1 ∨ 3 < s then (ts, 140) else (ts.set (id.toNat - 1) (s, (ts.getD (id.toNat - 1) (0, 0)).2), 0)
theorem set_spec {K : FuncId} {A : AW} {fs : Nat} {vs vj : AV} {ts : List Th} {id s : Int} (hw : Wf A) (h : Sc A fs vs vj ts) (h1 : -9223372036854775808 ≤ id) (h2 : id < 9223372036854775808) :
    CallP (ES K) 36 [.ptr fs 0 0, .int .i64 id, .int .i64 s] A fun r A1 => r = .int .i64 (setT ts id s).2 ∧ SStep A A1 fs vs vj vs vj (setT ts id s).1 := by
  refine call_of rfl rfl rfl ?_
  have hc := h.cell
  repeat (first
    | refine wg_seq ?_
    | refine wg_skip ?_
    | refine wg_block ?_
    | refine wg_scope ?_
    | refine wg_inBlock ?_
    | refine wg_inScope ?_
    | refine wg_region ?_
    | refine wo_nil ?_
    | refine wo_move rfl rfl ?_
    | refine wo_assign rfl rfl ?_
    | refine wo_fieldAddr rfl rfl rfl ?_
    | refine wo_nilCheck rfl rfl ?_
    | refine wo_extract rfl rfl rfl ?_
    | refine wo_load rfl rfl rfl rfl (by assumption) rfl ?_
    | refine wo_eql rfl rfl rfl ?_
    | refine wo_neq rfl rfl rfl ?_
    | refine wo_lss rfl rfl rfl ?_
    | refine wo_gtr rfl rfl rfl ?_
    | refine wo_leq rfl rfl rfl ?_
    | refine wo_geq rfl rfl rfl ?_
    | refine wo_not rfl rfl ?_
    | refine wo_lenStr rfl rfl rfl ?_
    | refine wo_len rfl rfl rfl rfl ?_
    | refine wo_buildSlice rfl rfl rfl ?_
    | refine wo_build rfl rfl rfl ?_
    | refine wo_pick rfl rfl rfl ?_
    | refine wo_strEq rfl rfl rfl ?_
    | refine wo_boolEq rfl rfl rfl rfl ?_
    | refine wo_boolNe rfl rfl rfl rfl ?_
    | refine wo_strNe rfl rfl rfl ?_
    | refine wo_on rfl ?_
    | refine wo_off rfl rfl ?_
    | refine wo_offn rfl ?_)
  refine wo_call rfl rfl orc_cons rfl (state_spec h h1 h2) ?_
  rintro r A1 ⟨rfl, rfl⟩
  repeat (first
    | refine wo_nil ?_
    | refine wo_move rfl rfl ?_
    | refine wo_assign rfl rfl ?_
    | refine wo_fieldAddr rfl rfl rfl ?_
    | refine wo_nilCheck rfl rfl ?_
    | refine wo_extract rfl rfl rfl ?_
    | refine wo_load rfl rfl rfl rfl (by assumption) rfl ?_
    | refine wo_eql rfl rfl rfl ?_
    | refine wo_neq rfl rfl rfl ?_
    | refine wo_lss rfl rfl rfl ?_
    | refine wo_gtr rfl rfl rfl ?_
    | refine wo_leq rfl rfl rfl ?_
    | refine wo_geq rfl rfl rfl ?_
    | refine wo_not rfl rfl ?_
    | refine wo_lenStr rfl rfl rfl ?_
    | refine wo_len rfl rfl rfl rfl ?_
    | refine wo_buildSlice rfl rfl rfl ?_
    | refine wo_build rfl rfl rfl ?_
    | refine wo_pick rfl rfl rfl ?_
    | refine wo_strEq rfl rfl rfl ?_
    | refine wo_boolEq rfl rfl rfl rfl ?_
    | refine wo_boolNe rfl rfl rfl rfl ?_
    | refine wo_strNe rfl rfl rfl ?_
    | refine wo_on rfl ?_
    | refine wo_off rfl rfl ?_
    | refine wo_offn rfl ?_)
  repeat (first
    | refine wg_seq ?_
    | refine wg_skip ?_
    | refine wg_block ?_
    | refine wg_scope ?_
    | refine wg_inBlock ?_
    | refine wg_inScope ?_)
  refine wg_regionTo (.put 0 (.ptr fs 0 0) (.put 1 (.int .i64 id) (.put 2 (.int .i64 s) (.put 28 (.bool (decide (stT ts id = 0 ∨ stT ts id = 5 ∨ stT ts id = 4 ∨ s < 1 ∨ 3 < s))) .nil)))) ?_ ?_
  · repeat (first
      | refine wo_nil ?_
      | refine wo_move rfl rfl ?_
      | refine wo_assign rfl rfl ?_
      | refine wo_fieldAddr rfl rfl rfl ?_
      | refine wo_nilCheck rfl rfl ?_
      | refine wo_extract rfl rfl rfl ?_
      | refine wo_load rfl rfl rfl rfl (by assumption) rfl ?_
      | refine wo_eql rfl rfl rfl ?_
      | refine wo_neq rfl rfl rfl ?_
      | refine wo_lss rfl rfl rfl ?_
      | refine wo_gtr rfl rfl rfl ?_
      | refine wo_leq rfl rfl rfl ?_
      | refine wo_geq rfl rfl rfl ?_
      | refine wo_not rfl rfl ?_
      | refine wo_lenStr rfl rfl rfl ?_
      | refine wo_len rfl rfl rfl rfl ?_
      | refine wo_buildSlice rfl rfl rfl ?_
      | refine wo_build rfl rfl rfl ?_
      | refine wo_pick rfl rfl rfl ?_
      | refine wo_strEq rfl rfl rfl ?_
      | refine wo_boolEq rfl rfl rfl rfl ?_
      | refine wo_boolNe rfl rfl rfl rfl ?_
      | refine wo_strNe rfl rfl rfl ?_
      | refine wo_on rfl ?_
      | refine wo_off rfl rfl ?_
      | refine wo_offn rfl ?_)
    by_cases c1 : stT ts id = 0
    · refine wo_is 13 true rfl (decide_eq_true c1) ?_
      repeat (first
        | refine wo_nil ?_
        | refine wo_move rfl rfl ?_
        | refine wo_assign rfl rfl ?_
        | refine wo_fieldAddr rfl rfl rfl ?_
        | refine wo_nilCheck rfl rfl ?_
        | refine wo_extract rfl rfl rfl ?_
        | refine wo_load rfl rfl rfl rfl (by assumption) rfl ?_
        | refine wo_eql rfl rfl rfl ?_
        | refine wo_neq rfl rfl rfl ?_
        | refine wo_lss rfl rfl rfl ?_
        | refine wo_gtr rfl rfl rfl ?_
        | refine wo_leq rfl rfl rfl ?_
        | refine wo_geq rfl rfl rfl ?_
        | refine wo_not rfl rfl ?_
        | refine wo_lenStr rfl rfl rfl ?_
        | refine wo_len rfl rfl rfl rfl ?_
        | refine wo_buildSlice rfl rfl rfl ?_
        | refine wo_build rfl rfl rfl ?_
        | refine wo_pick rfl rfl rfl ?_
        | refine wo_strEq rfl rfl rfl ?_
        | refine wo_boolEq rfl rfl rfl rfl ?_
        | refine wo_boolNe rfl rfl rfl rfl ?_
        | refine wo_strNe rfl rfl rfl ?_
        | refine wo_on rfl ?_
        | refine wo_off rfl rfl ?_
        | refine wo_offn rfl ?_)
      exact ⟨rfl, rfl, rfl, rfl, congrArg (fun x => some (AV.bool x)) (decide_eq_true (.inl c1)).symm, trivial⟩
    refine wo_is 13 false rfl (decide_eq_false c1) ?_
    repeat (first
      | refine wo_nil ?_
      | refine wo_move rfl rfl ?_
      | refine wo_assign rfl rfl ?_
      | refine wo_fieldAddr rfl rfl rfl ?_
      | refine wo_nilCheck rfl rfl ?_
      | refine wo_extract rfl rfl rfl ?_
      | refine wo_load rfl rfl rfl rfl (by assumption) rfl ?_
      | refine wo_eql rfl rfl rfl ?_
      | refine wo_neq rfl rfl rfl ?_
      | refine wo_lss rfl rfl rfl ?_
      | refine wo_gtr rfl rfl rfl ?_
      | refine wo_leq rfl rfl rfl ?_
      | refine wo_geq rfl rfl rfl ?_
      | refine wo_not rfl rfl ?_
      | refine wo_lenStr rfl rfl rfl ?_
      | refine wo_len rfl rfl rfl rfl ?_
      | refine wo_buildSlice rfl rfl rfl ?_
      | refine wo_build rfl rfl rfl ?_
      | refine wo_pick rfl rfl rfl ?_
      | refine wo_strEq rfl rfl rfl ?_
      | refine wo_boolEq rfl rfl rfl rfl ?_
      | refine wo_boolNe rfl rfl rfl rfl ?_
      | refine wo_strNe rfl rfl rfl ?_
      | refine wo_on rfl ?_
      | refine wo_off rfl rfl ?_
      | refine wo_offn rfl ?_)
    by_cases c2 : stT ts id = 5
    · refine wo_is 17 true rfl (decide_eq_true c2) ?_
      repeat (first
        | refine wo_nil ?_
        | refine wo_move rfl rfl ?_
        | refine wo_assign rfl rfl ?_
        | refine wo_fieldAddr rfl rfl rfl ?_
        | refine wo_nilCheck rfl rfl ?_
        | refine wo_extract rfl rfl rfl ?_
        | refine wo_load rfl rfl rfl rfl (by assumption) rfl ?_
        | refine wo_eql rfl rfl rfl ?_
        | refine wo_neq rfl rfl rfl ?_
        | refine wo_lss rfl rfl rfl ?_
        | refine wo_gtr rfl rfl rfl ?_
        | refine wo_leq rfl rfl rfl ?_
        | refine wo_geq rfl rfl rfl ?_
        | refine wo_not rfl rfl ?_
        | refine wo_lenStr rfl rfl rfl ?_
        | refine wo_len rfl rfl rfl rfl ?_
        | refine wo_buildSlice rfl rfl rfl ?_
        | refine wo_build rfl rfl rfl ?_
        | refine wo_pick rfl rfl rfl ?_
        | refine wo_strEq rfl rfl rfl ?_
        | refine wo_boolEq rfl rfl rfl rfl ?_
        | refine wo_boolNe rfl rfl rfl rfl ?_
        | refine wo_strNe rfl rfl rfl ?_
        | refine wo_on rfl ?_
        | refine wo_off rfl rfl ?_
        | refine wo_offn rfl ?_)
      exact ⟨rfl, rfl, rfl, rfl, congrArg (fun x => some (AV.bool x)) (decide_eq_true (.inr (.inl c2))).symm, trivial⟩
    refine wo_is 17 false rfl (decide_eq_false c2) ?_
    repeat (first
      | refine wo_nil ?_
      | refine wo_move rfl rfl ?_
      | refine wo_assign rfl rfl ?_
      | refine wo_fieldAddr rfl rfl rfl ?_
      | refine wo_nilCheck rfl rfl ?_
      | refine wo_extract rfl rfl rfl ?_
      | refine wo_load rfl rfl rfl rfl (by assumption) rfl ?_
      | refine wo_eql rfl rfl rfl ?_
      | refine wo_neq rfl rfl rfl ?_
      | refine wo_lss rfl rfl rfl ?_
      | refine wo_gtr rfl rfl rfl ?_
      | refine wo_leq rfl rfl rfl ?_
      | refine wo_geq rfl rfl rfl ?_
      | refine wo_not rfl rfl ?_
      | refine wo_lenStr rfl rfl rfl ?_
      | refine wo_len rfl rfl rfl rfl ?_
      | refine wo_buildSlice rfl rfl rfl ?_
      | refine wo_build rfl rfl rfl ?_
      | refine wo_pick rfl rfl rfl ?_
      | refine wo_strEq rfl rfl rfl ?_
      | refine wo_boolEq rfl rfl rfl rfl ?_
      | refine wo_boolNe rfl rfl rfl rfl ?_
      | refine wo_strNe rfl rfl rfl ?_
      | refine wo_on rfl ?_
      | refine wo_off rfl rfl ?_
      | refine wo_offn rfl ?_)
    by_cases c3 : stT ts id = 4
    · refine wo_is 21 true rfl (decide_eq_true c3) ?_
      repeat (first
        | refine wo_nil ?_
        | refine wo_move rfl rfl ?_
        | refine wo_assign rfl rfl ?_
        | refine wo_fieldAddr rfl rfl rfl ?_
        | refine wo_nilCheck rfl rfl ?_
        | refine wo_extract rfl rfl rfl ?_
        | refine wo_load rfl rfl rfl rfl (by assumption) rfl ?_
        | refine wo_eql rfl rfl rfl ?_
        | refine wo_neq rfl rfl rfl ?_
        | refine wo_lss rfl rfl rfl ?_
        | refine wo_gtr rfl rfl rfl ?_
        | refine wo_leq rfl rfl rfl ?_
        | refine wo_geq rfl rfl rfl ?_
        | refine wo_not rfl rfl ?_
        | refine wo_lenStr rfl rfl rfl ?_
        | refine wo_len rfl rfl rfl rfl ?_
        | refine wo_buildSlice rfl rfl rfl ?_
        | refine wo_build rfl rfl rfl ?_
        | refine wo_pick rfl rfl rfl ?_
        | refine wo_strEq rfl rfl rfl ?_
        | refine wo_boolEq rfl rfl rfl rfl ?_
        | refine wo_boolNe rfl rfl rfl rfl ?_
        | refine wo_strNe rfl rfl rfl ?_
        | refine wo_on rfl ?_
        | refine wo_off rfl rfl ?_
        | refine wo_offn rfl ?_)
      exact ⟨rfl, rfl, rfl, rfl, congrArg (fun x => some (AV.bool x)) (decide_eq_true (.inr (.inr (.inl c3)))).symm, trivial⟩
    refine wo_is 21 false rfl (decide_eq_false c3) ?_
    repeat (first
      | refine wo_nil ?_
      | refine wo_move rfl rfl ?_
      | refine wo_assign rfl rfl ?_
      | refine wo_fieldAddr rfl rfl rfl ?_
      | refine wo_nilCheck rfl rfl ?_
      | refine wo_extract rfl rfl rfl ?_
      | refine wo_load rfl rfl rfl rfl (by assumption) rfl ?_
      | refine wo_eql rfl rfl rfl ?_
      | refine wo_neq rfl rfl rfl ?_
      | refine wo_lss rfl rfl rfl ?_
      | refine wo_gtr rfl rfl rfl ?_
      | refine wo_leq rfl rfl rfl ?_
      | refine wo_geq rfl rfl rfl ?_
      | refine wo_not rfl rfl ?_
      | refine wo_lenStr rfl rfl rfl ?_
      | refine wo_len rfl rfl rfl rfl ?_
      | refine wo_buildSlice rfl rfl rfl ?_
      | refine wo_build rfl rfl rfl ?_
      | refine wo_pick rfl rfl rfl ?_
      | refine wo_strEq rfl rfl rfl ?_
      | refine wo_boolEq rfl rfl rfl rfl ?_
      | refine wo_boolNe rfl rfl rfl rfl ?_
      | refine wo_strNe rfl rfl rfl ?_
      | refine wo_on rfl ?_
      | refine wo_off rfl rfl ?_
      | refine wo_offn rfl ?_)
    by_cases c4 : s < 1
    · refine wo_is 25 true rfl (decide_eq_true c4) ?_
      repeat (first
        | refine wo_nil ?_
        | refine wo_move rfl rfl ?_
        | refine wo_assign rfl rfl ?_
        | refine wo_fieldAddr rfl rfl rfl ?_
        | refine wo_nilCheck rfl rfl ?_
        | refine wo_extract rfl rfl rfl ?_
        | refine wo_load rfl rfl rfl rfl (by assumption) rfl ?_
        | refine wo_eql rfl rfl rfl ?_
        | refine wo_neq rfl rfl rfl ?_
        | refine wo_lss rfl rfl rfl ?_
        | refine wo_gtr rfl rfl rfl ?_
        | refine wo_leq rfl rfl rfl ?_
        | refine wo_geq rfl rfl rfl ?_
        | refine wo_not rfl rfl ?_
        | refine wo_lenStr rfl rfl rfl ?_
        | refine wo_len rfl rfl rfl rfl ?_
        | refine wo_buildSlice rfl rfl rfl ?_
        | refine wo_build rfl rfl rfl ?_
        | refine wo_pick rfl rfl rfl ?_
        | refine wo_strEq rfl rfl rfl ?_
        | refine wo_boolEq rfl rfl rfl rfl ?_
        | refine wo_boolNe rfl rfl rfl rfl ?_
        | refine wo_strNe rfl rfl rfl ?_
        | refine wo_on rfl ?_
        | refine wo_off rfl rfl ?_
        | refine wo_offn rfl ?_)
      exact ⟨rfl, rfl, rfl, rfl, congrArg (fun x => some (AV.bool x)) (decide_eq_true (.inr (.inr (.inr (.inl c4))))).symm, trivial⟩
    refine wo_is 25 false rfl (decide_eq_false c4) ?_
    repeat (first
      | refine wo_nil ?_
      | refine wo_move rfl rfl ?_
      | refine wo_assign rfl rfl ?_
      | refine wo_fieldAddr rfl rfl rfl ?_
      | refine wo_nilCheck rfl rfl ?_
      | refine wo_extract rfl rfl rfl ?_
      | refine wo_load rfl rfl rfl rfl (by assumption) rfl ?_
      | refine wo_eql rfl rfl rfl ?_
      | refine wo_neq rfl rfl rfl ?_
      | refine wo_lss rfl rfl rfl ?_
      | refine wo_gtr rfl rfl rfl ?_
      | refine wo_leq rfl rfl rfl ?_
      | refine wo_geq rfl rfl rfl ?_
      | refine wo_not rfl rfl ?_
      | refine wo_lenStr rfl rfl rfl ?_
      | refine wo_len rfl rfl rfl rfl ?_
      | refine wo_buildSlice rfl rfl rfl ?_
      | refine wo_build rfl rfl rfl ?_
      | refine wo_pick rfl rfl rfl ?_
      | refine wo_strEq rfl rfl rfl ?_
      | refine wo_boolEq rfl rfl rfl rfl ?_
      | refine wo_boolNe rfl rfl rfl rfl ?_
      | refine wo_strNe rfl rfl rfl ?_
      | refine wo_on rfl ?_
      | refine wo_off rfl rfl ?_
      | refine wo_offn rfl ?_)
    exact ⟨rfl, rfl, rfl, rfl, congrArg (fun x => some (AV.bool x)) (decide_eq_decide.2 ⟨fun h => .inr (.inr (.inr (.inr h))), fun h => by simpa [c1, c2, c3, c4] using h⟩), trivial⟩
  unfold setT
  refine wg_dec rfl (fun hbad => ?_) fun hok => ?_
  · rw [if_pos hbad]
    repeat (first
      | refine wg_seq ?_
      | refine wg_skip ?_
      | refine wg_block ?_
      | refine wg_scope ?_
      | refine wg_inBlock ?_
      | refine wg_inScope ?_
      | refine wg_region ?_
      | refine wo_nil ?_
      | refine wo_move rfl rfl ?_
      | refine wo_assign rfl rfl ?_
      | refine wo_fieldAddr rfl rfl rfl ?_
      | refine wo_nilCheck rfl rfl ?_
      | refine wo_extract rfl rfl rfl ?_
      | refine wo_load rfl rfl rfl rfl (by assumption) rfl ?_
      | refine wo_eql rfl rfl rfl ?_
      | refine wo_neq rfl rfl rfl ?_
      | refine wo_lss rfl rfl rfl ?_
      | refine wo_gtr rfl rfl rfl ?_
      | refine wo_leq rfl rfl rfl ?_
      | refine wo_geq rfl rfl rfl ?_
      | refine wo_not rfl rfl ?_
      | refine wo_lenStr rfl rfl rfl ?_
      | refine wo_len rfl rfl rfl rfl ?_
      | refine wo_buildSlice rfl rfl rfl ?_
      | refine wo_build rfl rfl rfl ?_
      | refine wo_pick rfl rfl rfl ?_
      | refine wo_strEq rfl rfl rfl ?_
      | refine wo_boolEq rfl rfl rfl rfl ?_
      | refine wo_boolNe rfl rfl rfl rfl ?_
      | refine wo_strNe rfl rfl rfl ?_
      | refine wo_on rfl ?_
      | refine wo_off rfl rfl ?_
      | refine wo_offn rfl ?_)
    exact wg_ret rfl ⟨rfl, SStep.refl hw h⟩
  · rw [if_neg hok]
    obtain ⟨i, a, b, rfl, hi⟩ := id_in fun e => hok (.inl (stT_out e))
    have hil := (List.getElem?_eq_some_iff.1 hi).1
    obtain ⟨f, t, rfl, hf, hl⟩ := h.st.slice (by omega)
    have e1 : ((i : Int) + 1).toNat - 1 = i := by omega
    have e2 : (ts.getD i (0, 0)).2 = b := by rw [List.getD_eq_getElem?_getD, hi]; rfl
    rw [e1, e2]
    repeat (first
      | refine wg_seq ?_
      | refine wg_skip ?_
      | refine wg_block ?_
      | refine wg_scope ?_
      | refine wg_inBlock ?_
      | refine wg_inScope ?_
      | refine wg_region ?_
      | refine wo_nil ?_
      | refine wo_move rfl rfl ?_
      | refine wo_assign rfl rfl ?_
      | refine wo_fieldAddr rfl rfl rfl ?_
      | refine wo_nilCheck rfl rfl ?_
      | refine wo_extract rfl rfl rfl ?_
      | refine wo_load rfl rfl rfl rfl (by assumption) rfl ?_
      | refine wo_eql rfl rfl rfl ?_
      | refine wo_neq rfl rfl rfl ?_
      | refine wo_lss rfl rfl rfl ?_
      | refine wo_gtr rfl rfl rfl ?_
      | refine wo_leq rfl rfl rfl ?_
      | refine wo_geq rfl rfl rfl ?_
      | refine wo_not rfl rfl ?_
      | refine wo_lenStr rfl rfl rfl ?_
      | refine wo_len rfl rfl rfl rfl ?_
      | refine wo_buildSlice rfl rfl rfl ?_
      | refine wo_build rfl rfl rfl ?_
      | refine wo_pick rfl rfl rfl ?_
      | refine wo_strEq rfl rfl rfl ?_
      | refine wo_boolEq rfl rfl rfl rfl ?_
      | refine wo_boolNe rfl rfl rfl rfl ?_
      | refine wo_strNe rfl rfl rfl ?_
      | refine wo_on rfl ?_
      | refine wo_off rfl rfl ?_
      | refine wo_offn rfl ?_)
    refine wo_sub rfl rfl rfl (by omega) (by omega) ?_
    repeat (first
      | refine wg_seq ?_
      | refine wg_skip ?_
      | refine wg_block ?_
      | refine wg_scope ?_
      | refine wg_inBlock ?_
      | refine wg_inScope ?_
      | refine wg_region ?_
      | refine wo_nil ?_
      | refine wo_move rfl rfl ?_
      | refine wo_assign rfl rfl ?_
      | refine wo_fieldAddr rfl rfl rfl ?_
      | refine wo_nilCheck rfl rfl ?_
      | refine wo_extract rfl rfl rfl ?_
      | refine wo_load rfl rfl rfl rfl (by assumption) rfl ?_
      | refine wo_eql rfl rfl rfl ?_
      | refine wo_neq rfl rfl rfl ?_
      | refine wo_lss rfl rfl rfl ?_
      | refine wo_gtr rfl rfl rfl ?_
      | refine wo_leq rfl rfl rfl ?_
      | refine wo_geq rfl rfl rfl ?_
      | refine wo_not rfl rfl ?_
      | refine wo_lenStr rfl rfl rfl ?_
      | refine wo_len rfl rfl rfl rfl ?_
      | refine wo_buildSlice rfl rfl rfl ?_
      | refine wo_build rfl rfl rfl ?_
      | refine wo_pick rfl rfl rfl ?_
      | refine wo_strEq rfl rfl rfl ?_
      | refine wo_boolEq rfl rfl rfl rfl ?_
      | refine wo_boolNe rfl rfl rfl rfl ?_
      | refine wo_strNe rfl rfl rfl ?_
      | refine wo_on rfl ?_
      | refine wo_off rfl rfl ?_
      | refine wo_offn rfl ?_)
    refine wo_indexAddr i rfl rfl rfl rfl (by omega) hil ?_
    refine wo_store (cs' := stOf (ts.set i (s, b))) rfl rfl rfl rfl rfl rfl hf ?_ ?_
    · rw [show Nat.add 0 (Nat.mul i d3.size) = i from by show 0 + i * 1 = i; omega, putN_set (by rw [stOf_len]; exact hil), stOf_set s b]
    repeat (first
      | refine wg_seq ?_
      | refine wg_skip ?_
      | refine wg_block ?_
      | refine wg_scope ?_
      | refine wg_inBlock ?_
      | refine wg_inScope ?_
      | refine wg_region ?_
      | refine wo_nil ?_
      | refine wo_move rfl rfl ?_
      | refine wo_assign rfl rfl ?_
      | refine wo_fieldAddr rfl rfl rfl ?_
      | refine wo_nilCheck rfl rfl ?_
      | refine wo_extract rfl rfl rfl ?_
      | refine wo_load rfl rfl rfl rfl (by assumption) rfl ?_
      | refine wo_eql rfl rfl rfl ?_
      | refine wo_neq rfl rfl rfl ?_
      | refine wo_lss rfl rfl rfl ?_
      | refine wo_gtr rfl rfl rfl ?_
      | refine wo_leq rfl rfl rfl ?_
      | refine wo_geq rfl rfl rfl ?_
      | refine wo_not rfl rfl ?_
      | refine wo_lenStr rfl rfl rfl ?_
      | refine wo_len rfl rfl rfl rfl ?_
      | refine wo_buildSlice rfl rfl rfl ?_
      | refine wo_build rfl rfl rfl ?_
      | refine wo_pick rfl rfl rfl ?_
      | refine wo_strEq rfl rfl rfl ?_
      | refine wo_boolEq rfl rfl rfl rfl ?_
      | refine wo_boolNe rfl rfl rfl rfl ?_
      | refine wo_strNe rfl rfl rfl ?_
      | refine wo_on rfl ?_
      | refine wo_off rfl rfl ?_
      | refine wo_offn rfl ?_)
    exact wg_ret rfl ⟨rfl, h.setSt rfl hw hi s⟩
end Go.Proofs.Ytejmdglmldjliaa.Ae
