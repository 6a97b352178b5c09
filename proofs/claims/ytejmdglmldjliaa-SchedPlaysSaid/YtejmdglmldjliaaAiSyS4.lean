/-
  A THREAD'S END, by the rules.
-/
import Derived.Test.YtejmdglmldjliaaAiSyS3
namespace Go.Proofs.Ytejmdglmldjliaa.Ae
open Go.AE
set_option linter.unusedVariables false
set_option maxRecDepth 100000

def wakes (id : Int) (th : Th) : Bool := decide (th.1 = 4 ∧ th.2 = id)
def wake (id : Int) (th : Th) : Th := if wakes id th = true then (1, th.2) else th
/-- The first k have been looked at. -/
def mix (id : Int) (ts : List Th) (k : Nat) : List Th := (ts.take k).map (wake id) ++ ts.drop k
theorem mix_len (id : Int) (ts : List Th) (k : Nat) : (mix id ts k).length = ts.length := by
  unfold mix
  rw [List.length_append, List.length_map, List.length_take, List.length_drop]
  omega
theorem mix_get {id : Int} {ts : List Th} {k : Nat} {th : Th} (h : ts[k]? = some th) : (mix id ts k)[k]? = some th := by
  have hk := (List.getElem?_eq_some_iff.1 h).1
  unfold mix
  rw [List.getElem?_append_right (by rw [List.length_map, List.length_take]; omega), List.length_map, List.length_take, List.getElem?_drop]
  rw [show k + (k - min k ts.length) = k from by omega]
  exact h
theorem mix_set {id : Int} {ts : List Th} {k : Nat} {th : Th} (h : ts[k]? = some th) : (mix id ts k).set k (wake id th) = mix id ts (k + 1) := by
  have hk := (List.getElem?_eq_some_iff.1 h).1
  unfold mix
  have e : ((ts.take k).map (wake id)).length = k := by rw [List.length_map, List.length_take]; omega
  have hd : ts.drop k = th :: ts.drop (k + 1) := by
    rw [List.getElem?_eq_getElem hk, Option.some.injEq] at h
    rw [← h]
    exact List.drop_eq_getElem_cons hk
  rw [List.set_append_right _ _ (by omega), e, Nat.sub_self, hd, List.set_cons_zero, List.take_add_one, h]
  simp
theorem mix_all (id : Int) (ts : List Th) : mix id ts ts.length = ts.map (wake id) := by
  unfold mix
  rw [List.take_length, List.drop_length, List.append_nil]

theorem set_same {α : Type} {l : List α} {i : Nat} {x : α} (h : l[i]? = some x) : l.set i x = l := by
  apply List.ext_getElem?
  intro j
  by_cases e : i = j
  · subst e
    rw [List.getElem?_set, if_pos rfl, if_pos (List.getElem?_eq_some_iff.1 h).1, h]
  · rw [List.getElem?_set, if_neg e]

/-- Ending: the threads behind it, who is ready by that, the error. -/
def endT (ts : List Th) (id : Int) : List Th × List Int × Int :=
  if stT ts id ≠ 1 then (ts, [], 140) else
    let ts1 := ts.set (id.toNat - 1) (5, (ts.getD (id.toNat - 1) (0, 0)).2)
    (ts1.map (wake id), selK (wakes id) ts1 ts1.length, 0)
/-- What holds at the head of the loop. -/
structure EInv (A A1 : AW) (fs : Nat) (vs vj vo : AV) (id : Int) (ts : List Th) (k : Nat) : Prop where
  le : k ≤ ts.length
  st : SStep A A1 fs vs vj vs vj (mix id ts k)
  buf : Buf A1 1 vo (selK (wakes id) ts k).length (ints (selK (wakes id) ts k))
  own : ∀ g, vo.isFam g → A.nxt ≤ g
theorem end_spec {K : FuncId} {A : AW} {fs : Nat} {vs vj : AV} {ts : List Th} {id : Int} (hw : Wf A) (h : Sc A fs vs vj ts) (hl : ts.length < 1000000) (h1 : -9223372036854775808 ≤ id) (h2 : id < 9223372036854775808) :
    CallP (ES K) 37 [.ptr fs 0 0, .int .i64 id] A fun r A1 => ∃ vo, r = .tuple [vo, .int .i64 (endT ts id).2.2] ∧ SStep A A1 fs vs vj vs vj (endT ts id).1 ∧
      Buf A1 1 vo (endT ts id).2.1.length (ints (endT ts id).2.1) ∧ ∀ g, vo.isFam g → A.nxt ≤ g := by
  unfold endT
  refine call_of rfl rfl rfl ?_
  have hc := h.cell
  repeat (first
    | refine wg_seq ?_
    | refine wg_skip ?_
    | refine wg_block ?_
    | refine wg_scope ?_
    | refine wg_inBlock ?_
    | refine wg_inScope ?_
    | refine wg_region ?_
    | refine wo_nil ?_
    | refine wo_move rfl rfl ?_
    | refine wo_assign rfl rfl ?_
    | refine wo_fieldAddr rfl rfl rfl ?_
    | refine wo_nilCheck rfl rfl ?_
    | refine wo_extract rfl rfl rfl ?_
    | refine wo_load rfl rfl rfl rfl (by assumption) rfl ?_
    | refine wo_eql rfl rfl rfl ?_
    | refine wo_neq rfl rfl rfl ?_
    | refine wo_lss rfl rfl rfl ?_
    | refine wo_gtr rfl rfl rfl ?_
    | refine wo_leq rfl rfl rfl ?_
    | refine wo_geq rfl rfl rfl ?_
    | refine wo_not rfl rfl ?_
    | refine wo_lenStr rfl rfl rfl ?_
    | refine wo_len rfl rfl rfl rfl ?_
    | refine wo_buildSlice rfl rfl rfl ?_
    | refine wo_build rfl rfl rfl ?_
    | refine wo_pick rfl rfl rfl ?_
    | refine wo_strEq rfl rfl rfl ?_
    | refine wo_boolEq rfl rfl rfl rfl ?_
    | refine wo_boolNe rfl rfl rfl rfl ?_
    | refine wo_strNe rfl rfl rfl ?_
    | refine wo_on rfl ?_
    | refine wo_off rfl rfl ?_
    | refine wo_offn rfl ?_)
  refine wo_call rfl rfl orc_cons rfl (state_spec h h1 h2) ?_
  rintro r A1 ⟨rfl, rfl⟩
  repeat (first
    | refine wg_seq ?_
    | refine wg_skip ?_
    | refine wg_block ?_
    | refine wg_scope ?_
    | refine wg_inBlock ?_
    | refine wg_inScope ?_
    | refine wg_region ?_
    | refine wo_nil ?_
    | refine wo_move rfl rfl ?_
    | refine wo_assign rfl rfl ?_
    | refine wo_fieldAddr rfl rfl rfl ?_
    | refine wo_nilCheck rfl rfl ?_
    | refine wo_extract rfl rfl rfl ?_
    | refine wo_load rfl rfl rfl rfl (by assumption) rfl ?_
    | refine wo_eql rfl rfl rfl ?_
    | refine wo_neq rfl rfl rfl ?_
    | refine wo_lss rfl rfl rfl ?_
    | refine wo_gtr rfl rfl rfl ?_
    | refine wo_leq rfl rfl rfl ?_
    | refine wo_geq rfl rfl rfl ?_
    | refine wo_not rfl rfl ?_
    | refine wo_lenStr rfl rfl rfl ?_
    | refine wo_len rfl rfl rfl rfl ?_
    | refine wo_buildSlice rfl rfl rfl ?_
    | refine wo_build rfl rfl rfl ?_
    | refine wo_pick rfl rfl rfl ?_
    | refine wo_strEq rfl rfl rfl ?_
    | refine wo_boolEq rfl rfl rfl rfl ?_
    | refine wo_boolNe rfl rfl rfl rfl ?_
    | refine wo_strNe rfl rfl rfl ?_
    | refine wo_on rfl ?_
    | refine wo_off rfl rfl ?_
    | refine wo_offn rfl ?_)
  refine wg_dec rfl (fun hbad => ?_) fun hok => ?_
  · have hbad : stT ts id ≠ 1 := hbad
    rw [if_pos hbad]
    repeat (first
      | refine wg_seq ?_
      | refine wg_skip ?_
      | refine wg_block ?_
      | refine wg_scope ?_
      | refine wg_inBlock ?_
      | refine wg_inScope ?_
      | refine wg_region ?_
      | refine wo_nil ?_
      | refine wo_move rfl rfl ?_
      | refine wo_assign rfl rfl ?_
      | refine wo_fieldAddr rfl rfl rfl ?_
      | refine wo_nilCheck rfl rfl ?_
      | refine wo_extract rfl rfl rfl ?_
      | refine wo_load rfl rfl rfl rfl (by assumption) rfl ?_
      | refine wo_eql rfl rfl rfl ?_
      | refine wo_neq rfl rfl rfl ?_
      | refine wo_lss rfl rfl rfl ?_
      | refine wo_gtr rfl rfl rfl ?_
      | refine wo_leq rfl rfl rfl ?_
      | refine wo_geq rfl rfl rfl ?_
      | refine wo_not rfl rfl ?_
      | refine wo_lenStr rfl rfl rfl ?_
      | refine wo_len rfl rfl rfl rfl ?_
      | refine wo_buildSlice rfl rfl rfl ?_
      | refine wo_build rfl rfl rfl ?_
      | refine wo_pick rfl rfl rfl ?_
      | refine wo_strEq rfl rfl rfl ?_
      | refine wo_boolEq rfl rfl rfl rfl ?_
      | refine wo_boolNe rfl rfl rfl rfl ?_
      | refine wo_strNe rfl rfl rfl ?_
      | refine wo_on rfl ?_
      | refine wo_off rfl rfl ?_
      | refine wo_offn rfl ?_)
    exact wg_ret rfl ⟨.nils, rfl, SStep.refl hw h, .inl ⟨rfl, rfl, rfl⟩, fun g h => h.elim⟩
  have hok : ¬ stT ts id ≠ 1 := hok
  rw [if_neg hok]
  obtain ⟨i, a, b, rfl, hi⟩ := id_in (ts := ts) (id := id) fun e => hok (by rw [stT_out e]; decide)
  have hil := (List.getElem?_eq_some_iff.1 hi).1
  obtain ⟨f, t, rfl, hf, hl'⟩ := h.st.slice (by omega)
  have e1 : ((i : Int) + 1).toNat - 1 = i := by omega
  have e2 : (ts.getD i (0, 0)).2 = b := by rw [List.getD_eq_getElem?_getD, hi]; rfl
  rw [e1, e2]
  have st1 := h.setSt rfl hw hi 5
  have hle : (ts.set i (5, b)).length = ts.length := List.length_set ..
  generalize hts1 : ts.set i (5, b) = ts1 at st1 hle
  obtain ⟨f2, t2, rfl, hf2, hl2⟩ := h.jo.slice (by omega)
  repeat (first
    | refine wg_seq ?_
    | refine wg_skip ?_
    | refine wg_block ?_
    | refine wg_scope ?_
    | refine wg_inBlock ?_
    | refine wg_inScope ?_
    | refine wg_region ?_
    | refine wo_nil ?_
    | refine wo_move rfl rfl ?_
    | refine wo_assign rfl rfl ?_
    | refine wo_fieldAddr rfl rfl rfl ?_
    | refine wo_nilCheck rfl rfl ?_
    | refine wo_extract rfl rfl rfl ?_
    | refine wo_load rfl rfl rfl rfl (by assumption) rfl ?_
    | refine wo_eql rfl rfl rfl ?_
    | refine wo_neq rfl rfl rfl ?_
    | refine wo_lss rfl rfl rfl ?_
    | refine wo_gtr rfl rfl rfl ?_
    | refine wo_leq rfl rfl rfl ?_
    | refine wo_geq rfl rfl rfl ?_
    | refine wo_not rfl rfl ?_
    | refine wo_lenStr rfl rfl rfl ?_
    | refine wo_len rfl rfl rfl rfl ?_
    | refine wo_buildSlice rfl rfl rfl ?_
    | refine wo_build rfl rfl rfl ?_
    | refine wo_pick rfl rfl rfl ?_
    | refine wo_strEq rfl rfl rfl ?_
    | refine wo_boolEq rfl rfl rfl rfl ?_
    | refine wo_boolNe rfl rfl rfl rfl ?_
    | refine wo_strNe rfl rfl rfl ?_
    | refine wo_on rfl ?_
    | refine wo_off rfl rfl ?_
    | refine wo_offn rfl ?_)
  refine wo_sub rfl rfl rfl (by omega) (by omega) ?_
  refine wo_indexAddr i rfl rfl rfl rfl (by omega) hil ?_
  refine wo_store (cs' := stOf ts1) rfl rfl rfl rfl rfl rfl hf ?_ ?_
  · rw [show Nat.add 0 (Nat.mul i d3.size) = i from by show 0 + i * 1 = i; omega, ← hts1, ← stOf_set 5 b]
    exact putN_set (by rw [stOf_len]; exact hil)
  have hc1 := st1.sc.cell
  repeat (first
    | refine wg_seq ?_
    | refine wg_skip ?_
    | refine wg_block ?_
    | refine wg_scope ?_
    | refine wg_inBlock ?_
    | refine wg_inScope ?_
    | refine wg_region ?_
    | refine wo_nil ?_
    | refine wo_move rfl rfl ?_
    | refine wo_assign rfl rfl ?_
    | refine wo_fieldAddr rfl rfl rfl ?_
    | refine wo_nilCheck rfl rfl ?_
    | refine wo_extract rfl rfl rfl ?_
    | refine wo_load rfl rfl rfl rfl (by assumption) rfl ?_
    | refine wo_eql rfl rfl rfl ?_
    | refine wo_neq rfl rfl rfl ?_
    | refine wo_lss rfl rfl rfl ?_
    | refine wo_gtr rfl rfl rfl ?_
    | refine wo_leq rfl rfl rfl ?_
    | refine wo_geq rfl rfl rfl ?_
    | refine wo_not rfl rfl ?_
    | refine wo_lenStr rfl rfl rfl ?_
    | refine wo_len rfl rfl rfl rfl ?_
    | refine wo_buildSlice rfl rfl rfl ?_
    | refine wo_build rfl rfl rfl ?_
    | refine wo_pick rfl rfl rfl ?_
    | refine wo_strEq rfl rfl rfl ?_
    | refine wo_boolEq rfl rfl rfl rfl ?_
    | refine wo_boolNe rfl rfl rfl rfl ?_
    | refine wo_strNe rfl rfl rfl ?_
    | refine wo_on rfl ?_
    | refine wo_off rfl rfl ?_
    | refine wo_offn rfl ?_)
  refine wg_loop ?_
  refine wg_le (.put 0 (.ptr fs 0 0) (.put 1 (.int .i64 ((i : Int) + 1)) (.put 6 .nils (.put 23 (.slice f t 0 ts.length ts.length false) (.put 24 (.int .i64 (ts.length : Int)) (.put 25 (.int .i64 ((0 : Nat) : Int)) .nil)))))) ?_ ⟨rfl, rfl, rfl, rfl, rfl, rfl, trivial⟩
  generalize hid : (i : Int) + 1 = id at h1 h2
  clear hok hi e1 e2
  refine wg_ind (ι := Nat × AV) (fun i => ts.length - i.1) (fun i => .put 0 (.ptr fs 0 0) (.put 1 (.int .i64 id) (.put 6 i.2 (.put 23 (.slice f t 0 ts.length ts.length false) (.put 24 (.int .i64 (ts.length : Int)) (.put 25 (.int .i64 (i.1 : Int)) .nil))))))
    (fun i A2 => EInv A1 A2 fs (.slice f t 0 ts.length ts.length false) (.slice f2 t2 0 ts.length ts.length false) i.2 id ts1 i.1) ?_ (0, .nils) _ ⟨Nat.zero_le _, by simpa [mix] using st1, .inl ⟨rfl, rfl, rfl⟩, fun g h => h.elim⟩
  clear st1 hc1
  rintro ⟨k, vo⟩ A2 inv ih
  have inv : EInv A1 A2 fs (.slice f t 0 ts.length ts.length false) (.slice f2 t2 0 ts.length ts.length false) vo id ts1 k := inv
  have hkl := inv.le
  have hc2 := inv.st.sc.cell
  have hml := mix_len id ts1 k
  have hsl := selK_len (wakes id) ts1 k
  have uA := h.under hw
  have dvo : Disj (foot fs (.slice f t 0 ts.length ts.length false) (.slice f2 t2 0 ts.length ts.length false)) vo.isFam := fun g hg e => by
    have := inv.own g e
    have := uA g hg
    omega
  repeat (first
    | refine wg_seq ?_
    | refine wg_skip ?_
    | refine wg_block ?_
    | refine wg_scope ?_
    | refine wg_inBlock ?_
    | refine wg_inScope ?_
    | refine wg_region ?_
    | refine wo_nil ?_
    | refine wo_move rfl rfl ?_
    | refine wo_assign rfl rfl ?_
    | refine wo_fieldAddr rfl rfl rfl ?_
    | refine wo_nilCheck rfl rfl ?_
    | refine wo_extract rfl rfl rfl ?_
    | refine wo_load rfl rfl rfl rfl (by assumption) rfl ?_
    | refine wo_eql rfl rfl rfl ?_
    | refine wo_neq rfl rfl rfl ?_
    | refine wo_lss rfl rfl rfl ?_
    | refine wo_gtr rfl rfl rfl ?_
    | refine wo_leq rfl rfl rfl ?_
    | refine wo_geq rfl rfl rfl ?_
    | refine wo_not rfl rfl ?_
    | refine wo_lenStr rfl rfl rfl ?_
    | refine wo_len rfl rfl rfl rfl ?_
    | refine wo_buildSlice rfl rfl rfl ?_
    | refine wo_build rfl rfl rfl ?_
    | refine wo_pick rfl rfl rfl ?_
    | refine wo_strEq rfl rfl rfl ?_
    | refine wo_boolEq rfl rfl rfl rfl ?_
    | refine wo_boolNe rfl rfl rfl rfl ?_
    | refine wo_strNe rfl rfl rfl ?_
    | refine wo_on rfl ?_
    | refine wo_off rfl rfl ?_
    | refine wo_offn rfl ?_)
  refine wg_dec rfl (fun hlt => ?_) fun hge => ?_
  · have hlt : k < ts.length := Int.ofNat_lt.1 hlt
    obtain ⟨x, y, hth⟩ : ∃ x y, ts1[k]? = some (x, y) := ⟨ts1[k].1, ts1[k].2, by rw [List.getElem?_eq_getElem (by omega)]⟩
    have hmk := mix_get (id := id) hth
    have bst := inv.st.sc.st
    have bjo := inv.st.sc.jo
    rw [hml, hle] at bst bjo
    obtain ⟨f', t', e', hf', _⟩ := bst.slice (by omega)
    cases e'
    obtain ⟨f', t', e', hf2', _⟩ := bjo.slice (by omega)
    cases e'
    repeat (first
      | refine wg_seq ?_
      | refine wg_skip ?_
      | refine wg_block ?_
      | refine wg_scope ?_
      | refine wg_inBlock ?_
      | refine wg_inScope ?_
      | refine wg_region ?_
      | refine wo_nil ?_
      | refine wo_move rfl rfl ?_
      | refine wo_assign rfl rfl ?_
      | refine wo_fieldAddr rfl rfl rfl ?_
      | refine wo_nilCheck rfl rfl ?_
      | refine wo_extract rfl rfl rfl ?_
      | refine wo_load rfl rfl rfl rfl (by assumption) rfl ?_
      | refine wo_eql rfl rfl rfl ?_
      | refine wo_neq rfl rfl rfl ?_
      | refine wo_lss rfl rfl rfl ?_
      | refine wo_gtr rfl rfl rfl ?_
      | refine wo_leq rfl rfl rfl ?_
      | refine wo_geq rfl rfl rfl ?_
      | refine wo_not rfl rfl ?_
      | refine wo_lenStr rfl rfl rfl ?_
      | refine wo_len rfl rfl rfl rfl ?_
      | refine wo_buildSlice rfl rfl rfl ?_
      | refine wo_build rfl rfl rfl ?_
      | refine wo_pick rfl rfl rfl ?_
      | refine wo_strEq rfl rfl rfl ?_
      | refine wo_boolEq rfl rfl rfl rfl ?_
      | refine wo_boolNe rfl rfl rfl rfl ?_
      | refine wo_strNe rfl rfl rfl ?_
      | refine wo_on rfl ?_
      | refine wo_off rfl rfl ?_
      | refine wo_offn rfl ?_)
    refine wo_indexAddr k rfl rfl rfl rfl rfl hlt ?_
    refine wo_load (v := .int .i64 x) rfl rfl rfl rfl hf' (by rw [show Nat.add 0 (Nat.mul k d3.size) = k from by show 0 + k * 1 = k; omega]; exact stOf_get hmk) ?_
    repeat (first
      | refine wo_nil ?_
      | refine wo_move rfl rfl ?_
      | refine wo_assign rfl rfl ?_
      | refine wo_fieldAddr rfl rfl rfl ?_
      | refine wo_nilCheck rfl rfl ?_
      | refine wo_extract rfl rfl rfl ?_
      | refine wo_load rfl rfl rfl rfl (by assumption) rfl ?_
      | refine wo_eql rfl rfl rfl ?_
      | refine wo_neq rfl rfl rfl ?_
      | refine wo_lss rfl rfl rfl ?_
      | refine wo_gtr rfl rfl rfl ?_
      | refine wo_leq rfl rfl rfl ?_
      | refine wo_geq rfl rfl rfl ?_
      | refine wo_not rfl rfl ?_
      | refine wo_lenStr rfl rfl rfl ?_
      | refine wo_len rfl rfl rfl rfl ?_
      | refine wo_buildSlice rfl rfl rfl ?_
      | refine wo_build rfl rfl rfl ?_
      | refine wo_pick rfl rfl rfl ?_
      | refine wo_strEq rfl rfl rfl ?_
      | refine wo_boolEq rfl rfl rfl rfl ?_
      | refine wo_boolNe rfl rfl rfl rfl ?_
      | refine wo_strNe rfl rfl rfl ?_
      | refine wo_on rfl ?_
      | refine wo_off rfl rfl ?_
      | refine wo_offn rfl ?_)
    repeat (first
      | refine wg_seq ?_
      | refine wg_skip ?_
      | refine wg_block ?_
      | refine wg_scope ?_
      | refine wg_inBlock ?_
      | refine wg_inScope ?_)
    refine wg_regionTo (.put 0 (.ptr fs 0 0) (.put 1 (.int .i64 id) (.put 6 vo (.put 7 (.int .i64 (k : Int)) (.put 23 (.slice f t 0 ts.length ts.length false) (.put 24 (.int .i64 (ts.length : Int)) (.put 25 (.int .i64 (k : Int)) (.put 42 (.bool (wakes id (x, y))) .nil)))))))) ?_ ?_
    · repeat (first
        | refine wo_nil ?_
        | refine wo_move rfl rfl ?_
        | refine wo_assign rfl rfl ?_
        | refine wo_fieldAddr rfl rfl rfl ?_
        | refine wo_nilCheck rfl rfl ?_
        | refine wo_extract rfl rfl rfl ?_
        | refine wo_load rfl rfl rfl rfl (by assumption) rfl ?_
        | refine wo_eql rfl rfl rfl ?_
        | refine wo_neq rfl rfl rfl ?_
        | refine wo_lss rfl rfl rfl ?_
        | refine wo_gtr rfl rfl rfl ?_
        | refine wo_leq rfl rfl rfl ?_
        | refine wo_geq rfl rfl rfl ?_
        | refine wo_not rfl rfl ?_
        | refine wo_lenStr rfl rfl rfl ?_
        | refine wo_len rfl rfl rfl rfl ?_
        | refine wo_buildSlice rfl rfl rfl ?_
        | refine wo_build rfl rfl rfl ?_
        | refine wo_pick rfl rfl rfl ?_
        | refine wo_strEq rfl rfl rfl ?_
        | refine wo_boolEq rfl rfl rfl rfl ?_
        | refine wo_boolNe rfl rfl rfl rfl ?_
        | refine wo_strNe rfl rfl rfl ?_
        | refine wo_on rfl ?_
        | refine wo_off rfl rfl ?_
        | refine wo_offn rfl ?_)
      by_cases h4 : x = 4
      · refine wo_is 32 true rfl (decide_eq_true h4) ?_
        repeat (first
          | refine wo_nil ?_
          | refine wo_move rfl rfl ?_
          | refine wo_assign rfl rfl ?_
          | refine wo_fieldAddr rfl rfl rfl ?_
          | refine wo_nilCheck rfl rfl ?_
          | refine wo_extract rfl rfl rfl ?_
          | refine wo_load rfl rfl rfl rfl (by assumption) rfl ?_
          | refine wo_eql rfl rfl rfl ?_
          | refine wo_neq rfl rfl rfl ?_
          | refine wo_lss rfl rfl rfl ?_
          | refine wo_gtr rfl rfl rfl ?_
          | refine wo_leq rfl rfl rfl ?_
          | refine wo_geq rfl rfl rfl ?_
          | refine wo_not rfl rfl ?_
          | refine wo_lenStr rfl rfl rfl ?_
          | refine wo_len rfl rfl rfl rfl ?_
          | refine wo_buildSlice rfl rfl rfl ?_
          | refine wo_build rfl rfl rfl ?_
          | refine wo_pick rfl rfl rfl ?_
          | refine wo_strEq rfl rfl rfl ?_
          | refine wo_boolEq rfl rfl rfl rfl ?_
          | refine wo_boolNe rfl rfl rfl rfl ?_
          | refine wo_strNe rfl rfl rfl ?_
          | refine wo_on rfl ?_
          | refine wo_off rfl rfl ?_
          | refine wo_offn rfl ?_)
        refine wo_indexAddr k rfl rfl rfl rfl rfl hlt ?_
        repeat (first
          | refine wo_nil ?_
          | refine wo_move rfl rfl ?_
          | refine wo_assign rfl rfl ?_
          | refine wo_fieldAddr rfl rfl rfl ?_
          | refine wo_nilCheck rfl rfl ?_
          | refine wo_extract rfl rfl rfl ?_
          | refine wo_load rfl rfl rfl rfl (by assumption) rfl ?_
          | refine wo_eql rfl rfl rfl ?_
          | refine wo_neq rfl rfl rfl ?_
          | refine wo_lss rfl rfl rfl ?_
          | refine wo_gtr rfl rfl rfl ?_
          | refine wo_leq rfl rfl rfl ?_
          | refine wo_geq rfl rfl rfl ?_
          | refine wo_not rfl rfl ?_
          | refine wo_lenStr rfl rfl rfl ?_
          | refine wo_len rfl rfl rfl rfl ?_
          | refine wo_buildSlice rfl rfl rfl ?_
          | refine wo_build rfl rfl rfl ?_
          | refine wo_pick rfl rfl rfl ?_
          | refine wo_strEq rfl rfl rfl ?_
          | refine wo_boolEq rfl rfl rfl rfl ?_
          | refine wo_boolNe rfl rfl rfl rfl ?_
          | refine wo_strNe rfl rfl rfl ?_
          | refine wo_on rfl ?_
          | refine wo_off rfl rfl ?_
          | refine wo_offn rfl ?_)
        refine wo_load (v := .int .i64 y) rfl rfl rfl rfl hf2' (by rw [show Nat.add 0 (Nat.mul k d3.size) = k from by show 0 + k * 1 = k; omega]; exact joOf_get hmk) ?_
        repeat (first
          | refine wo_nil ?_
          | refine wo_move rfl rfl ?_
          | refine wo_assign rfl rfl ?_
          | refine wo_fieldAddr rfl rfl rfl ?_
          | refine wo_nilCheck rfl rfl ?_
          | refine wo_extract rfl rfl rfl ?_
          | refine wo_load rfl rfl rfl rfl (by assumption) rfl ?_
          | refine wo_eql rfl rfl rfl ?_
          | refine wo_neq rfl rfl rfl ?_
          | refine wo_lss rfl rfl rfl ?_
          | refine wo_gtr rfl rfl rfl ?_
          | refine wo_leq rfl rfl rfl ?_
          | refine wo_geq rfl rfl rfl ?_
          | refine wo_not rfl rfl ?_
          | refine wo_lenStr rfl rfl rfl ?_
          | refine wo_len rfl rfl rfl rfl ?_
          | refine wo_buildSlice rfl rfl rfl ?_
          | refine wo_build rfl rfl rfl ?_
          | refine wo_pick rfl rfl rfl ?_
          | refine wo_strEq rfl rfl rfl ?_
          | refine wo_boolEq rfl rfl rfl rfl ?_
          | refine wo_boolNe rfl rfl rfl rfl ?_
          | refine wo_strNe rfl rfl rfl ?_
          | refine wo_on rfl ?_
          | refine wo_off rfl rfl ?_
          | refine wo_offn rfl ?_)
        exact ⟨rfl, rfl, rfl, rfl, rfl, rfl, rfl, rfl, congrArg (fun x => some (AV.bool x)) (decide_eq_decide.2 ⟨fun h => ⟨h4, h⟩, fun h => h.2⟩), trivial⟩
      · refine wo_is 32 false rfl (decide_eq_false h4) ?_
        repeat (first
          | refine wo_nil ?_
          | refine wo_move rfl rfl ?_
          | refine wo_assign rfl rfl ?_
          | refine wo_fieldAddr rfl rfl rfl ?_
          | refine wo_nilCheck rfl rfl ?_
          | refine wo_extract rfl rfl rfl ?_
          | refine wo_load rfl rfl rfl rfl (by assumption) rfl ?_
          | refine wo_eql rfl rfl rfl ?_
          | refine wo_neq rfl rfl rfl ?_
          | refine wo_lss rfl rfl rfl ?_
          | refine wo_gtr rfl rfl rfl ?_
          | refine wo_leq rfl rfl rfl ?_
          | refine wo_geq rfl rfl rfl ?_
          | refine wo_not rfl rfl ?_
          | refine wo_lenStr rfl rfl rfl ?_
          | refine wo_len rfl rfl rfl rfl ?_
          | refine wo_buildSlice rfl rfl rfl ?_
          | refine wo_build rfl rfl rfl ?_
          | refine wo_pick rfl rfl rfl ?_
          | refine wo_strEq rfl rfl rfl ?_
          | refine wo_boolEq rfl rfl rfl rfl ?_
          | refine wo_boolNe rfl rfl rfl rfl ?_
          | refine wo_strNe rfl rfl rfl ?_
          | refine wo_on rfl ?_
          | refine wo_off rfl rfl ?_
          | refine wo_offn rfl ?_)
        exact ⟨rfl, rfl, rfl, rfl, rfl, rfl, rfl, rfl, congrArg (fun x => some (AV.bool x)) (decide_eq_false fun h => h4 h.1).symm, trivial⟩
    refine wg_if rfl (fun hwk => ?_) fun hwk => ?_
    · have hws : (mix id ts1 k).set k (1, y) = mix id ts1 (k + 1) := by
        rw [← mix_set hth]
        unfold wake
        rw [if_pos hwk]
      have st2 := inv.st.sc.setSt (by rw [hml, hle]) inv.st.only.wf hmk 1
      rw [hws] at st2
      have st3 := inv.st.trans hw st2
      repeat (first
        | refine wg_seq ?_
        | refine wg_skip ?_
        | refine wg_block ?_
        | refine wg_scope ?_
        | refine wg_inBlock ?_
        | refine wg_inScope ?_
        | refine wg_region ?_
        | refine wo_nil ?_
        | refine wo_move rfl rfl ?_
        | refine wo_assign rfl rfl ?_
        | refine wo_fieldAddr rfl rfl rfl ?_
        | refine wo_nilCheck rfl rfl ?_
        | refine wo_extract rfl rfl rfl ?_
        | refine wo_load rfl rfl rfl rfl (by assumption) rfl ?_
        | refine wo_eql rfl rfl rfl ?_
        | refine wo_neq rfl rfl rfl ?_
        | refine wo_lss rfl rfl rfl ?_
        | refine wo_gtr rfl rfl rfl ?_
        | refine wo_leq rfl rfl rfl ?_
        | refine wo_geq rfl rfl rfl ?_
        | refine wo_not rfl rfl ?_
        | refine wo_lenStr rfl rfl rfl ?_
        | refine wo_len rfl rfl rfl rfl ?_
        | refine wo_buildSlice rfl rfl rfl ?_
        | refine wo_build rfl rfl rfl ?_
        | refine wo_pick rfl rfl rfl ?_
        | refine wo_strEq rfl rfl rfl ?_
        | refine wo_boolEq rfl rfl rfl rfl ?_
        | refine wo_boolNe rfl rfl rfl rfl ?_
        | refine wo_strNe rfl rfl rfl ?_
        | refine wo_on rfl ?_
        | refine wo_off rfl rfl ?_
        | refine wo_offn rfl ?_)
      refine wo_indexAddr k rfl rfl rfl rfl rfl hlt ?_
      refine wo_store (cs' := stOf (mix id ts1 (k + 1))) rfl rfl rfl rfl rfl rfl hf' ?_ ?_
      · rw [show Nat.add 0 (Nat.mul k d3.size) = k from by show 0 + k * 1 = k; omega, ← hws, ← stOf_set 1 y]
        exact putN_set (by rw [stOf_len, hml]; omega)
      have hb3 := inv.buf.keep st2.only dvo.symm
      repeat (first
        | refine wg_seq ?_
        | refine wg_skip ?_
        | refine wg_block ?_
        | refine wg_scope ?_
        | refine wg_inBlock ?_
        | refine wg_inScope ?_
        | refine wg_region ?_
        | refine wo_nil ?_
        | refine wo_move rfl rfl ?_
        | refine wo_assign rfl rfl ?_
        | refine wo_fieldAddr rfl rfl rfl ?_
        | refine wo_nilCheck rfl rfl ?_
        | refine wo_extract rfl rfl rfl ?_
        | refine wo_load rfl rfl rfl rfl (by assumption) rfl ?_
        | refine wo_eql rfl rfl rfl ?_
        | refine wo_neq rfl rfl rfl ?_
        | refine wo_lss rfl rfl rfl ?_
        | refine wo_gtr rfl rfl rfl ?_
        | refine wo_leq rfl rfl rfl ?_
        | refine wo_geq rfl rfl rfl ?_
        | refine wo_not rfl rfl ?_
        | refine wo_lenStr rfl rfl rfl ?_
        | refine wo_len rfl rfl rfl rfl ?_
        | refine wo_buildSlice rfl rfl rfl ?_
        | refine wo_build rfl rfl rfl ?_
        | refine wo_pick rfl rfl rfl ?_
        | refine wo_strEq rfl rfl rfl ?_
        | refine wo_boolEq rfl rfl rfl rfl ?_
        | refine wo_boolNe rfl rfl rfl rfl ?_
        | refine wo_strNe rfl rfl rfl ?_
        | refine wo_on rfl ?_
        | refine wo_off rfl rfl ?_
        | refine wo_offn rfl ?_)
      refine wo_add rfl rfl rfl (by omega) (by omega) ?_
      repeat (first
        | refine wg_seq ?_
        | refine wg_skip ?_
        | refine wg_block ?_
        | refine wg_scope ?_
        | refine wg_inBlock ?_
        | refine wg_inScope ?_
        | refine wg_region ?_
        | refine wo_nil ?_
        | refine wo_move rfl rfl ?_
        | refine wo_assign rfl rfl ?_
        | refine wo_fieldAddr rfl rfl rfl ?_
        | refine wo_nilCheck rfl rfl ?_
        | refine wo_extract rfl rfl rfl ?_
        | refine wo_load rfl rfl rfl rfl (by assumption) rfl ?_
        | refine wo_eql rfl rfl rfl ?_
        | refine wo_neq rfl rfl rfl ?_
        | refine wo_lss rfl rfl rfl ?_
        | refine wo_gtr rfl rfl rfl ?_
        | refine wo_leq rfl rfl rfl ?_
        | refine wo_geq rfl rfl rfl ?_
        | refine wo_not rfl rfl ?_
        | refine wo_lenStr rfl rfl rfl ?_
        | refine wo_len rfl rfl rfl rfl ?_
        | refine wo_buildSlice rfl rfl rfl ?_
        | refine wo_build rfl rfl rfl ?_
        | refine wo_pick rfl rfl rfl ?_
        | refine wo_strEq rfl rfl rfl ?_
        | refine wo_boolEq rfl rfl rfl rfl ?_
        | refine wo_boolNe rfl rfl rfl rfl ?_
        | refine wo_strNe rfl rfl rfl ?_
        | refine wo_on rfl ?_
        | refine wo_off rfl rfl ?_
        | refine wo_offn rfl ?_)
      refine wo_append rfl rfl rfl rfl rfl (append_one (de := d3) rfl rfl rfl rfl st2.only.wf hb3 rfl (by decide) (room_of (by omega) (by decide))) ?_
      intro vo1 A4 g
      have gb : Buf A4 1 vo1 ((selK (wakes id) ts1 k).length + 1) (ints (selK (wakes id) ts1 k) ++ [.int .i64 ((k : Int) + 1)]) := g.buf
      repeat (first
        | refine wg_seq ?_
        | refine wg_skip ?_
        | refine wg_block ?_
        | refine wg_scope ?_
        | refine wg_inBlock ?_
        | refine wg_inScope ?_
        | refine wg_region ?_
        | refine wo_nil ?_
        | refine wo_move rfl rfl ?_
        | refine wo_assign rfl rfl ?_
        | refine wo_fieldAddr rfl rfl rfl ?_
        | refine wo_nilCheck rfl rfl ?_
        | refine wo_extract rfl rfl rfl ?_
        | refine wo_load rfl rfl rfl rfl (by assumption) rfl ?_
        | refine wo_eql rfl rfl rfl ?_
        | refine wo_neq rfl rfl rfl ?_
        | refine wo_lss rfl rfl rfl ?_
        | refine wo_gtr rfl rfl rfl ?_
        | refine wo_leq rfl rfl rfl ?_
        | refine wo_geq rfl rfl rfl ?_
        | refine wo_not rfl rfl ?_
        | refine wo_lenStr rfl rfl rfl ?_
        | refine wo_len rfl rfl rfl rfl ?_
        | refine wo_buildSlice rfl rfl rfl ?_
        | refine wo_build rfl rfl rfl ?_
        | refine wo_pick rfl rfl rfl ?_
        | refine wo_strEq rfl rfl rfl ?_
        | refine wo_boolEq rfl rfl rfl rfl ?_
        | refine wo_boolNe rfl rfl rfl rfl ?_
        | refine wo_strNe rfl rfl rfl ?_
        | refine wo_on rfl ?_
        | refine wo_off rfl rfl ?_
        | refine wo_offn rfl ?_)
      refine wo_add rfl rfl rfl (by omega) (by omega) ?_
      repeat (first
        | refine wg_seq ?_
        | refine wg_skip ?_
        | refine wg_block ?_
        | refine wg_scope ?_
        | refine wg_inBlock ?_
        | refine wg_inScope ?_
        | refine wg_region ?_
        | refine wo_nil ?_
        | refine wo_move rfl rfl ?_
        | refine wo_assign rfl rfl ?_
        | refine wo_fieldAddr rfl rfl rfl ?_
        | refine wo_nilCheck rfl rfl ?_
        | refine wo_extract rfl rfl rfl ?_
        | refine wo_load rfl rfl rfl rfl (by assumption) rfl ?_
        | refine wo_eql rfl rfl rfl ?_
        | refine wo_neq rfl rfl rfl ?_
        | refine wo_lss rfl rfl rfl ?_
        | refine wo_gtr rfl rfl rfl ?_
        | refine wo_leq rfl rfl rfl ?_
        | refine wo_geq rfl rfl rfl ?_
        | refine wo_not rfl rfl ?_
        | refine wo_lenStr rfl rfl rfl ?_
        | refine wo_len rfl rfl rfl rfl ?_
        | refine wo_buildSlice rfl rfl rfl ?_
        | refine wo_build rfl rfl rfl ?_
        | refine wo_pick rfl rfl rfl ?_
        | refine wo_strEq rfl rfl rfl ?_
        | refine wo_boolEq rfl rfl rfl rfl ?_
        | refine wo_boolNe rfl rfl rfl rfl ?_
        | refine wo_strNe rfl rfl rfl ?_
        | refine wo_on rfl ?_
        | refine wo_off rfl rfl ?_
        | refine wo_offn rfl ?_)
      refine wg_inLoop ?_
      refine wg_le (.put 0 (.ptr fs 0 0) (.put 1 (.int .i64 id) (.put 6 vo1 (.put 23 (.slice f t 0 ts.length ts.length false) (.put 24 (.int .i64 (ts.length : Int)) (.put 25 (.int .i64 ((k + 1 : Nat) : Int)) .nil)))))) ?_ ⟨rfl, rfl, rfl, rfl, rfl, rfl, trivial⟩
      refine ih (k + 1, vo1) A4 (by simp only; omega) ⟨by simp only; omega, ⟨st3.sc.keep g.only dvo, ⟨g.only.wf, Nat.le_trans st3.only.nxt g.only.nxt, fun q F hq hn => g.only.keep q F (st3.only.keep q F hq hn) fun e => by
        have := inv.own q e
        have := hw q F hq
        omega⟩, Grow.refl _ _⟩, ?_, fun q hq => ?_⟩
      · simp only [selK_yes hth hwk]
        rw [ints_snoc] at gb
        simpa using gb
      · rcases g.grow q hq with h' | h'
        · exact inv.own q h'
        · exact Nat.le_trans st3.only.nxt h'
    · have hws : mix id ts1 (k + 1) = mix id ts1 k := by
        rw [← mix_set hth]
        unfold wake
        rw [if_neg (by rw [hwk]; decide)]
        exact set_same hmk
      repeat (first
        | refine wg_seq ?_
        | refine wg_skip ?_
        | refine wg_block ?_
        | refine wg_scope ?_
        | refine wg_inBlock ?_
        | refine wg_inScope ?_
        | refine wg_region ?_
        | refine wo_nil ?_
        | refine wo_move rfl rfl ?_
        | refine wo_assign rfl rfl ?_
        | refine wo_fieldAddr rfl rfl rfl ?_
        | refine wo_nilCheck rfl rfl ?_
        | refine wo_extract rfl rfl rfl ?_
        | refine wo_load rfl rfl rfl rfl (by assumption) rfl ?_
        | refine wo_eql rfl rfl rfl ?_
        | refine wo_neq rfl rfl rfl ?_
        | refine wo_lss rfl rfl rfl ?_
        | refine wo_gtr rfl rfl rfl ?_
        | refine wo_leq rfl rfl rfl ?_
        | refine wo_geq rfl rfl rfl ?_
        | refine wo_not rfl rfl ?_
        | refine wo_lenStr rfl rfl rfl ?_
        | refine wo_len rfl rfl rfl rfl ?_
        | refine wo_buildSlice rfl rfl rfl ?_
        | refine wo_build rfl rfl rfl ?_
        | refine wo_pick rfl rfl rfl ?_
        | refine wo_strEq rfl rfl rfl ?_
        | refine wo_boolEq rfl rfl rfl rfl ?_
        | refine wo_boolNe rfl rfl rfl rfl ?_
        | refine wo_strNe rfl rfl rfl ?_
        | refine wo_on rfl ?_
        | refine wo_off rfl rfl ?_
        | refine wo_offn rfl ?_)
      refine wo_add rfl rfl rfl (by omega) (by omega) ?_
      repeat (first
        | refine wg_seq ?_
        | refine wg_skip ?_
        | refine wg_block ?_
        | refine wg_scope ?_
        | refine wg_inBlock ?_
        | refine wg_inScope ?_
        | refine wg_region ?_
        | refine wo_nil ?_
        | refine wo_move rfl rfl ?_
        | refine wo_assign rfl rfl ?_
        | refine wo_fieldAddr rfl rfl rfl ?_
        | refine wo_nilCheck rfl rfl ?_
        | refine wo_extract rfl rfl rfl ?_
        | refine wo_load rfl rfl rfl rfl (by assumption) rfl ?_
        | refine wo_eql rfl rfl rfl ?_
        | refine wo_neq rfl rfl rfl ?_
        | refine wo_lss rfl rfl rfl ?_
        | refine wo_gtr rfl rfl rfl ?_
        | refine wo_leq rfl rfl rfl ?_
        | refine wo_geq rfl rfl rfl ?_
        | refine wo_not rfl rfl ?_
        | refine wo_lenStr rfl rfl rfl ?_
        | refine wo_len rfl rfl rfl rfl ?_
        | refine wo_buildSlice rfl rfl rfl ?_
        | refine wo_build rfl rfl rfl ?_
        | refine wo_pick rfl rfl rfl ?_
        | refine wo_strEq rfl rfl rfl ?_
        | refine wo_boolEq rfl rfl rfl rfl ?_
        | refine wo_boolNe rfl rfl rfl rfl ?_
        | refine wo_strNe rfl rfl rfl ?_
        | refine wo_on rfl ?_
        | refine wo_off rfl rfl ?_
        | refine wo_offn rfl ?_)
      refine wg_inLoop ?_
      refine wg_le (.put 0 (.ptr fs 0 0) (.put 1 (.int .i64 id) (.put 6 vo (.put 23 (.slice f t 0 ts.length ts.length false) (.put 24 (.int .i64 (ts.length : Int)) (.put 25 (.int .i64 ((k + 1 : Nat) : Int)) .nil)))))) ?_ ⟨rfl, rfl, rfl, rfl, rfl, rfl, trivial⟩
      refine ih (k + 1, vo) A2 (by simp only; omega) ⟨by simp only; omega, ?_, ?_, inv.own⟩
      · simp only [hws]
        exact inv.st
      · simp only [selK_no hth hwk]
        exact inv.buf
  · have hge : k = ts1.length := by
      have : ¬ (k : Int) < (ts.length : Int) := hge
      omega
    have st := inv.st
    have hb := inv.buf
    rw [hge] at st hb
    rw [mix_all] at st
    refine wg_exit rfl ?_
    repeat (first
      | refine wg_seq ?_
      | refine wg_skip ?_
      | refine wg_block ?_
      | refine wg_scope ?_
      | refine wg_inBlock ?_
      | refine wg_inScope ?_
      | refine wg_region ?_
      | refine wo_nil ?_
      | refine wo_move rfl rfl ?_
      | refine wo_assign rfl rfl ?_
      | refine wo_fieldAddr rfl rfl rfl ?_
      | refine wo_nilCheck rfl rfl ?_
      | refine wo_extract rfl rfl rfl ?_
      | refine wo_load rfl rfl rfl rfl (by assumption) rfl ?_
      | refine wo_eql rfl rfl rfl ?_
      | refine wo_neq rfl rfl rfl ?_
      | refine wo_lss rfl rfl rfl ?_
      | refine wo_gtr rfl rfl rfl ?_
      | refine wo_leq rfl rfl rfl ?_
      | refine wo_geq rfl rfl rfl ?_
      | refine wo_not rfl rfl ?_
      | refine wo_lenStr rfl rfl rfl ?_
      | refine wo_len rfl rfl rfl rfl ?_
      | refine wo_buildSlice rfl rfl rfl ?_
      | refine wo_build rfl rfl rfl ?_
      | refine wo_pick rfl rfl rfl ?_
      | refine wo_strEq rfl rfl rfl ?_
      | refine wo_boolEq rfl rfl rfl rfl ?_
      | refine wo_boolNe rfl rfl rfl rfl ?_
      | refine wo_strNe rfl rfl rfl ?_
      | refine wo_on rfl ?_
      | refine wo_off rfl rfl ?_
      | refine wo_offn rfl ?_)
    exact wg_ret rfl ⟨vo, rfl, st, hb, inv.own⟩
end Go.Proofs.Ytejmdglmldjliaa.Ae
