/-
  INSTRUCTIONS ARE WRITTEN, by the rules: Put and the document's Put.
-/
import Derived.Test.YtokieeiohfcgdaaAiSyC1
import Derived.Test.YtokieeiohfcgdaaAiSyW4
import Derived.Test.YtokieeiohfcgdaaAiSy5
namespace Go.Proofs.Ytokieeiohfcgdaa.Ae
open Go.AE
set_option linter.unusedVariables false
set_option maxRecDepth 100000

theorem Only.fresh {A A1 A2 : AW} {T : Nat → Prop} (hw : Wf A) (h : Only A A1 none') (k : Only A1 A2 T) (ht : ∀ g, T g → A.nxt ≤ g) : Only A A2 none' :=
  h.trans hw (k.mono fun g hg => hg) fun g hg => .inr (ht g hg)

/-- An instruction: an op, a number. -/
abbrev In := Int × Int
def icl (x : In) : List AV := [.int .i64 x.1, .int .i64 x.2]
theorem icl_len (x : In) : (icl x).length = 2 := rfl
def ics (l : List In) : List AV := l.flatMap icl
theorem ics_len (l : List In) : (ics l).length = l.length * 2 := flat_len icl_len l
/-- An instruction's bytes. -/
def encI (x : In) : List Nat := x.1.toNat :: (if 0 < opd x.1 then grp x.2.toNat else [])
def putB (l : List In) (i : Nat) : List Nat := grp l.length ++ (l.take i).flatMap encI
/-- What Put gives: the bytes, the error. -/
def putL (l : List In) : List Nat × Int := if 200 < l.length then ([], 32) else if ∃ x ∈ l, ¬ isP x.1 x.2 then ([], 40) else (grp l.length ++ l.flatMap encI, 0)
theorem encI_len {x : In} (h : isP x.1 x.2) : (encI x).length ≤ 11 := by
  unfold encI
  split
  · rename_i h0
    have := h.2.2 (by omega)
    have := grp_len10 (n := x.2.toNat) (by omega)
    simp only [List.length_cons]
    omega
  · simp
theorem flat_le : ∀ {l : List In}, (∀ x ∈ l, isP x.1 x.2) → (l.flatMap encI).length ≤ l.length * 11
  | [], _ => Nat.le_refl _
  | x :: l, h => by
    have h1 := encI_len (h x (List.mem_cons_self ..))
    have h2 := flat_le (l := l) fun y hy => h y (List.mem_cons_of_mem _ hy)
    simp only [List.flatMap_cons, List.length_append, List.length_cons]
    omega
theorem putB_len {l : List In} {i : Nat} (h : ∀ x ∈ l.take i, isP x.1 x.2) (hl : l.length ≤ 200) : (putB l i).length ≤ 3000 := by
  have h1 := flat_le h
  have h2 := grp_len10 (n := l.length) (by omega)
  unfold putB
  rw [List.length_append]
  rw [List.length_take] at h1
  omega
theorem take_next {l : List In} {i : Nat} {x : In} (hx : l[i]? = some x) : l.take (i + 1) = l.take i ++ [x] := by
  rw [List.take_add_one, hx]
  rfl
theorem putB_next {l : List In} {i : Nat} {x : In} (hx : l[i]? = some x) : putB l (i + 1) = putB l i ++ encI x := by
  unfold putB
  rw [take_next hx, List.flatMap_append, List.append_assoc]
  simp
theorem ok_next {l : List In} {i : Nat} {x : In} (h : ∀ x ∈ l.take i, isP x.1 x.2) (hx : l[i]? = some x) (hp : isP x.1 x.2) : ∀ x ∈ l.take (i + 1), isP x.1 x.2 := by
  rw [take_next hx]
  intro y hy
  rcases List.mem_append.1 hy with hy | hy
  · exact h y hy
  · rw [List.mem_singleton] at hy
    rw [hy]
    exact hp
theorem putL_bad {l : List In} {i : Nat} {x : In} (hl : l.length ≤ 200) (hx : l[i]? = some x) (hp : ¬ isP x.1 x.2) : putL l = ([], 40) := by
  unfold putL
  rw [if_neg (by omega), if_pos ⟨x, List.mem_of_getElem? hx, hp⟩]
theorem putL_ok {l : List In} (hl : l.length ≤ 200) (h : ∀ x ∈ l.take l.length, isP x.1 x.2) : putL l = (putB l l.length, 0) := by
  unfold putL putB
  rw [List.take_length] at h ⊢
  rw [if_neg (by omega), if_neg]
  rintro ⟨x, hx, hp⟩
  exact hp (h x hx)
/-- What holds at the head of Put's loop. -/
structure PInv (A A1 : AW) (fw : Nat) (vw : AV) (l : List In) (i : Nat) : Prop where
  le : i ≤ l.length
  ok : ∀ x ∈ l.take i, isP x.1 x.2
  wr : Wr A1 fw vw (putB l i)
  only : Only A A1 none'
  own : ∀ g, both (one fw) vw.isFam g → A.nxt ≤ g
theorem PInv.next {A A1 A2 A3 : AW} {fw : Nat} {vw vw' : AV} {l : List In} {i : Nat} {x : In} (hw : Wf A) (inv : PInv A A1 fw vw l i) (hx : l[i]? = some x) (hp : isP x.1 x.2) (ho : Only A1 A2 none')
    (st : WStep A2 A3 fw vw vw' (putB l i) (encI x)) : PInv A A3 fw vw' l (i + 1) := by
  have hn := inv.only.nxt
  have hn2 := ho.nxt
  have h2 : Only A A2 none' := inv.only.same ho
  refine ⟨(List.getElem?_eq_some_iff.1 hx).1, ok_next inv.ok hx hp, by rw [putB_next hx]; exact st.wr, Only.fresh hw h2 st.only inv.own, fun g hg => ?_⟩
  rcases hg with hg | hg
  · exact inv.own g (.inl hg)
  · rcases st.grow g hg with h | h
    · exact inv.own g (.inr h)
    · omega
theorem put_spec {A : AW} {v : AV} {l : List In} (hw : Wf A) (hrow : Row A 2 v l.length (ics l)) (hlen : l.length < 9223372036854775808) :
    CallP (ES 35) 36 [v] A fun r A1 => ∃ vb, r = .tuple [vb, .int .i64 (putL l).2] ∧ Buf A1 1 vb (putL l).1.length (bys (putL l).1) ∧ Only A A1 none' ∧ Grow A none' vb.isFam := by
  refine call_of rfl rfl rfl ?_
  repeat (first | refine wg_seq ?_ | refine wg_skip ?_ | refine wg_block ?_ | refine wg_scope ?_ | refine wg_inBlock ?_ | refine wg_inScope ?_ | refine wg_region ?_ | refine wo_nil ?_ | refine wo_move rfl rfl ?_ | refine wo_assign rfl rfl ?_ | refine wo_fieldAddr rfl rfl rfl ?_ | refine wo_nilCheck rfl rfl ?_ | refine wo_extract rfl rfl rfl ?_ | refine wo_load rfl rfl rfl rfl (by assumption) rfl ?_ | refine wo_eql rfl rfl rfl ?_ | refine wo_neq rfl rfl rfl ?_ | refine wo_lss rfl rfl rfl ?_ | refine wo_gtr rfl rfl rfl ?_ | refine wo_leq rfl rfl rfl ?_ | refine wo_geq rfl rfl rfl ?_ | refine wo_not rfl rfl ?_ | refine wo_lenStr rfl rfl rfl ?_ | refine wo_len rfl rfl rfl rfl ?_ | refine wo_buildSlice rfl rfl rfl ?_ | refine wo_build rfl rfl rfl ?_ | refine wo_pick rfl rfl rfl ?_ | refine wo_strEq rfl rfl rfl ?_ | refine wo_boolEq rfl rfl rfl rfl ?_ | refine wo_boolNe rfl rfl rfl rfl ?_ | refine wo_strNe rfl rfl rfl ?_ | refine wo_on rfl ?_ | refine wo_off rfl rfl ?_ | refine wo_offn rfl ?_)
  refine wo_len rfl rfl rfl hrow.lenV ?_
  repeat (first | refine wg_seq ?_ | refine wg_skip ?_ | refine wg_block ?_ | refine wg_scope ?_ | refine wg_inBlock ?_ | refine wg_inScope ?_ | refine wg_region ?_ | refine wo_nil ?_ | refine wo_move rfl rfl ?_ | refine wo_assign rfl rfl ?_ | refine wo_fieldAddr rfl rfl rfl ?_ | refine wo_nilCheck rfl rfl ?_ | refine wo_extract rfl rfl rfl ?_ | refine wo_load rfl rfl rfl rfl (by assumption) rfl ?_ | refine wo_eql rfl rfl rfl ?_ | refine wo_neq rfl rfl rfl ?_ | refine wo_lss rfl rfl rfl ?_ | refine wo_gtr rfl rfl rfl ?_ | refine wo_leq rfl rfl rfl ?_ | refine wo_geq rfl rfl rfl ?_ | refine wo_not rfl rfl ?_ | refine wo_lenStr rfl rfl rfl ?_ | refine wo_len rfl rfl rfl rfl ?_ | refine wo_buildSlice rfl rfl rfl ?_ | refine wo_build rfl rfl rfl ?_ | refine wo_pick rfl rfl rfl ?_ | refine wo_strEq rfl rfl rfl ?_ | refine wo_boolEq rfl rfl rfl rfl ?_ | refine wo_boolNe rfl rfl rfl rfl ?_ | refine wo_strNe rfl rfl rfl ?_ | refine wo_on rfl ?_ | refine wo_off rfl rfl ?_ | refine wo_offn rfl ?_)
  refine wg_dec rfl (fun h => ?_) fun h => ?_
  · have h : 200 < l.length := by
      have : (200 : Int) < (l.length : Int) := h
      omega
    unfold putL
    rw [if_pos h]
    repeat (first | refine wg_seq ?_ | refine wg_skip ?_ | refine wg_block ?_ | refine wg_scope ?_ | refine wg_inBlock ?_ | refine wg_inScope ?_ | refine wg_region ?_ | refine wo_nil ?_ | refine wo_move rfl rfl ?_ | refine wo_assign rfl rfl ?_ | refine wo_fieldAddr rfl rfl rfl ?_ | refine wo_nilCheck rfl rfl ?_ | refine wo_extract rfl rfl rfl ?_ | refine wo_load rfl rfl rfl rfl (by assumption) rfl ?_ | refine wo_eql rfl rfl rfl ?_ | refine wo_neq rfl rfl rfl ?_ | refine wo_lss rfl rfl rfl ?_ | refine wo_gtr rfl rfl rfl ?_ | refine wo_leq rfl rfl rfl ?_ | refine wo_geq rfl rfl rfl ?_ | refine wo_not rfl rfl ?_ | refine wo_lenStr rfl rfl rfl ?_ | refine wo_len rfl rfl rfl rfl ?_ | refine wo_buildSlice rfl rfl rfl ?_ | refine wo_build rfl rfl rfl ?_ | refine wo_pick rfl rfl rfl ?_ | refine wo_strEq rfl rfl rfl ?_ | refine wo_boolEq rfl rfl rfl rfl ?_ | refine wo_boolNe rfl rfl rfl rfl ?_ | refine wo_strNe rfl rfl rfl ?_ | refine wo_on rfl ?_ | refine wo_off rfl rfl ?_ | refine wo_offn rfl ?_)
    exact wg_ret rfl ⟨.nils, rfl, .inl ⟨rfl, rfl, rfl⟩, Only.refl hw _, fun g hg => .inl hg⟩
  have h200 : l.length ≤ 200 := by
    have : ¬ (200 : Int) < (l.length : Int) := h
    omega
  repeat (first | refine wg_seq ?_ | refine wg_skip ?_ | refine wg_block ?_ | refine wg_scope ?_ | refine wg_inBlock ?_ | refine wg_inScope ?_ | refine wg_region ?_ | refine wo_nil ?_ | refine wo_move rfl rfl ?_ | refine wo_assign rfl rfl ?_ | refine wo_fieldAddr rfl rfl rfl ?_ | refine wo_nilCheck rfl rfl ?_ | refine wo_extract rfl rfl rfl ?_ | refine wo_load rfl rfl rfl rfl (by assumption) rfl ?_ | refine wo_eql rfl rfl rfl ?_ | refine wo_neq rfl rfl rfl ?_ | refine wo_lss rfl rfl rfl ?_ | refine wo_gtr rfl rfl rfl ?_ | refine wo_leq rfl rfl rfl ?_ | refine wo_geq rfl rfl rfl ?_ | refine wo_not rfl rfl ?_ | refine wo_lenStr rfl rfl rfl ?_ | refine wo_len rfl rfl rfl rfl ?_ | refine wo_buildSlice rfl rfl rfl ?_ | refine wo_build rfl rfl rfl ?_ | refine wo_pick rfl rfl rfl ?_ | refine wo_strEq rfl rfl rfl ?_ | refine wo_boolEq rfl rfl rfl rfl ?_ | refine wo_boolNe rfl rfl rfl rfl ?_ | refine wo_strNe rfl rfl rfl ?_ | refine wo_on rfl ?_ | refine wo_off rfl rfl ?_ | refine wo_offn rfl ?_)
  refine wo_call rfl rfl rfl rfl (new_spec (by decide) hw) ?_
  rintro r A1 ⟨rfl, hwr, ho⟩
  generalize hfw : A.nxt = fw at hwr
  repeat (first | refine wg_seq ?_ | refine wg_skip ?_ | refine wg_block ?_ | refine wg_scope ?_ | refine wg_inBlock ?_ | refine wg_inScope ?_ | refine wg_region ?_ | refine wo_nil ?_ | refine wo_move rfl rfl ?_ | refine wo_assign rfl rfl ?_ | refine wo_fieldAddr rfl rfl rfl ?_ | refine wo_nilCheck rfl rfl ?_ | refine wo_extract rfl rfl rfl ?_ | refine wo_load rfl rfl rfl rfl (by assumption) rfl ?_ | refine wo_eql rfl rfl rfl ?_ | refine wo_neq rfl rfl rfl ?_ | refine wo_lss rfl rfl rfl ?_ | refine wo_gtr rfl rfl rfl ?_ | refine wo_leq rfl rfl rfl ?_ | refine wo_geq rfl rfl rfl ?_ | refine wo_not rfl rfl ?_ | refine wo_lenStr rfl rfl rfl ?_ | refine wo_len rfl rfl rfl rfl ?_ | refine wo_buildSlice rfl rfl rfl ?_ | refine wo_build rfl rfl rfl ?_ | refine wo_pick rfl rfl rfl ?_ | refine wo_strEq rfl rfl rfl ?_ | refine wo_boolEq rfl rfl rfl rfl ?_ | refine wo_boolNe rfl rfl rfl rfl ?_ | refine wo_strNe rfl rfl rfl ?_ | refine wo_on rfl ?_ | refine wo_off rfl rfl ?_ | refine wo_offn rfl ?_)
  refine wo_len rfl rfl rfl hrow.lenV ?_
  refine wo_conv rfl rfl rfl rfl (l.length : Int) (wrap_u64n (by omega)) ?_
  refine wo_call rfl rfl orc_cons rfl (uint_spec ho.wf hwr (by decide) (by omega)) ?_
  rintro r A2 ⟨rfl, vw, st⟩
  repeat (first | refine wg_seq ?_ | refine wg_skip ?_ | refine wg_block ?_ | refine wg_scope ?_ | refine wg_inBlock ?_ | refine wg_inScope ?_ | refine wg_region ?_ | refine wo_nil ?_ | refine wo_move rfl rfl ?_ | refine wo_assign rfl rfl ?_ | refine wo_fieldAddr rfl rfl rfl ?_ | refine wo_nilCheck rfl rfl ?_ | refine wo_extract rfl rfl rfl ?_ | refine wo_load rfl rfl rfl rfl (by assumption) rfl ?_ | refine wo_eql rfl rfl rfl ?_ | refine wo_neq rfl rfl rfl ?_ | refine wo_lss rfl rfl rfl ?_ | refine wo_gtr rfl rfl rfl ?_ | refine wo_leq rfl rfl rfl ?_ | refine wo_geq rfl rfl rfl ?_ | refine wo_not rfl rfl ?_ | refine wo_lenStr rfl rfl rfl ?_ | refine wo_len rfl rfl rfl rfl ?_ | refine wo_buildSlice rfl rfl rfl ?_ | refine wo_build rfl rfl rfl ?_ | refine wo_pick rfl rfl rfl ?_ | refine wo_strEq rfl rfl rfl ?_ | refine wo_boolEq rfl rfl rfl rfl ?_ | refine wo_boolNe rfl rfl rfl rfl ?_ | refine wo_strNe rfl rfl rfl ?_ | refine wo_on rfl ?_ | refine wo_off rfl rfl ?_ | refine wo_offn rfl ?_)
  refine wo_len rfl rfl rfl hrow.lenV ?_
  repeat (first | refine wg_seq ?_ | refine wg_skip ?_ | refine wg_block ?_ | refine wg_scope ?_ | refine wg_inBlock ?_ | refine wg_inScope ?_ | refine wg_region ?_ | refine wo_nil ?_ | refine wo_move rfl rfl ?_ | refine wo_assign rfl rfl ?_ | refine wo_fieldAddr rfl rfl rfl ?_ | refine wo_nilCheck rfl rfl ?_ | refine wo_extract rfl rfl rfl ?_ | refine wo_load rfl rfl rfl rfl (by assumption) rfl ?_ | refine wo_eql rfl rfl rfl ?_ | refine wo_neq rfl rfl rfl ?_ | refine wo_lss rfl rfl rfl ?_ | refine wo_gtr rfl rfl rfl ?_ | refine wo_leq rfl rfl rfl ?_ | refine wo_geq rfl rfl rfl ?_ | refine wo_not rfl rfl ?_ | refine wo_lenStr rfl rfl rfl ?_ | refine wo_len rfl rfl rfl rfl ?_ | refine wo_buildSlice rfl rfl rfl ?_ | refine wo_build rfl rfl rfl ?_ | refine wo_pick rfl rfl rfl ?_ | refine wo_strEq rfl rfl rfl ?_ | refine wo_boolEq rfl rfl rfl rfl ?_ | refine wo_boolNe rfl rfl rfl rfl ?_ | refine wo_strNe rfl rfl rfl ?_ | refine wo_on rfl ?_ | refine wo_off rfl rfl ?_ | refine wo_offn rfl ?_)
  have hown : ∀ g, both (one fw) AV.nils.isFam g → A.nxt ≤ g := fun g hg => by
    rcases hg with hg | hg
    · cases hg; omega
    · exact hg.elim
  have i0 : PInv A A2 fw vw l 0 := ⟨Nat.zero_le _, fun x hx => by simp at hx, by
      have := st.wr
      unfold putB
      simpa using this, Only.fresh hw ho st.only hown, fun g hg => by
    have := ho.nxt
    rcases hg with hg | hg
    · exact hown g (.inl hg)
    · rcases st.grow g hg with h | h
      · exact hown g (.inr h)
      · omega⟩
  refine wg_loop ?_
  refine wg_le (.put 4 (.ptr fw 0 0) (.put 16 v (.put 17 (.int .i64 (l.length : Int)) (.put 18 (.int .i64 ((0 : Nat) : Int)) .nil)))) ?_ ⟨rfl, rfl, rfl, rfl, trivial⟩
  refine wg_ind (ι := Nat × AV) (fun i => l.length - i.1) (fun i => .put 4 (.ptr fw 0 0) (.put 16 v (.put 17 (.int .i64 (l.length : Int)) (.put 18 (.int .i64 (i.1 : Int)) .nil))))
    (fun i A2 => PInv A A2 fw i.2 l i.1) ?_ (0, vw) A2 i0
  clear i0 st
  rintro ⟨i, vw⟩ A3 inv ih
  have inv : PInv A A3 fw vw l i := inv
  have hrow1 := hrow.keep inv.only fun _ _ h => h
  have hbl := putB_len inv.ok h200
  repeat (first | refine wg_seq ?_ | refine wg_skip ?_ | refine wg_block ?_ | refine wg_scope ?_ | refine wg_inBlock ?_ | refine wg_inScope ?_ | refine wg_region ?_ | refine wo_nil ?_ | refine wo_move rfl rfl ?_ | refine wo_assign rfl rfl ?_ | refine wo_fieldAddr rfl rfl rfl ?_ | refine wo_nilCheck rfl rfl ?_ | refine wo_extract rfl rfl rfl ?_ | refine wo_load rfl rfl rfl rfl (by assumption) rfl ?_ | refine wo_eql rfl rfl rfl ?_ | refine wo_neq rfl rfl rfl ?_ | refine wo_lss rfl rfl rfl ?_ | refine wo_gtr rfl rfl rfl ?_ | refine wo_leq rfl rfl rfl ?_ | refine wo_geq rfl rfl rfl ?_ | refine wo_not rfl rfl ?_ | refine wo_lenStr rfl rfl rfl ?_ | refine wo_len rfl rfl rfl rfl ?_ | refine wo_buildSlice rfl rfl rfl ?_ | refine wo_build rfl rfl rfl ?_ | refine wo_pick rfl rfl rfl ?_ | refine wo_strEq rfl rfl rfl ?_ | refine wo_boolEq rfl rfl rfl rfl ?_ | refine wo_boolNe rfl rfl rfl rfl ?_ | refine wo_strNe rfl rfl rfl ?_ | refine wo_on rfl ?_ | refine wo_off rfl rfl ?_ | refine wo_offn rfl ?_)
  refine wg_dec rfl (fun hlt => ?_) fun hge => ?_
  · have hi : i < l.length := Int.ofNat_lt.1 hlt
    obtain ⟨x, hx⟩ : ∃ x, l[i]? = some x := ⟨l[i], List.getElem?_eq_getElem hi⟩
    obtain ⟨op, a⟩ := x
    obtain ⟨f, t, o, c, ex, ro, all, rfl, hh, hat⟩ := hrow1.at hi
    repeat (first | refine wg_seq ?_ | refine wg_skip ?_ | refine wg_block ?_ | refine wg_scope ?_ | refine wg_inBlock ?_ | refine wg_inScope ?_ | refine wg_region ?_ | refine wo_nil ?_ | refine wo_move rfl rfl ?_ | refine wo_assign rfl rfl ?_ | refine wo_fieldAddr rfl rfl rfl ?_ | refine wo_nilCheck rfl rfl ?_ | refine wo_extract rfl rfl rfl ?_ | refine wo_load rfl rfl rfl rfl (by assumption) rfl ?_ | refine wo_eql rfl rfl rfl ?_ | refine wo_neq rfl rfl rfl ?_ | refine wo_lss rfl rfl rfl ?_ | refine wo_gtr rfl rfl rfl ?_ | refine wo_leq rfl rfl rfl ?_ | refine wo_geq rfl rfl rfl ?_ | refine wo_not rfl rfl ?_ | refine wo_lenStr rfl rfl rfl ?_ | refine wo_len rfl rfl rfl rfl ?_ | refine wo_buildSlice rfl rfl rfl ?_ | refine wo_build rfl rfl rfl ?_ | refine wo_pick rfl rfl rfl ?_ | refine wo_strEq rfl rfl rfl ?_ | refine wo_boolEq rfl rfl rfl rfl ?_ | refine wo_boolNe rfl rfl rfl rfl ?_ | refine wo_strNe rfl rfl rfl ?_ | refine wo_on rfl ?_ | refine wo_off rfl rfl ?_ | refine wo_offn rfl ?_)
    refine wo_indexAddr i rfl rfl rfl rfl rfl hi ?_
    refine wo_loadN (vs := icl (op, a)) rfl rfl rfl rfl hh ?_ ?_
    · refine (hat 2 0 (Nat.le_refl _)).trans ?_
      refine (take_flat icl_len hx 2 0 (Nat.le_refl _)).trans ?_
      rfl
    refine wo_alloc rfl rfl rfl ?_
    refine wo_store rfl rfl rfl rfl rfl rfl (by rw [AW.add_get, if_pos rfl]) rfl ?_
    refine wo_A (fun A4 => Only A3 A4 none' ∧ A4.heap.get A3.nxt = some (.cells 0 false 2 [.int .i64 op, .int .i64 a])) ⟨?_, by rw [AW.put_get, if_pos rfl]; rfl⟩ ?_
    · have oa : Only A3 (A3.add (.cells 0 false 2 [.int .i64 0, .int .i64 0])) none' := Only.add inv.only.wf _
      have op' := Only.put (x := .cells 0 false 2 (icl (op, a))) oa.wf (f := A3.nxt) (Nat.lt_succ_self _)
      exact ⟨op'.wf, Nat.le_trans oa.nxt op'.nxt, fun g F hg hn => op'.keep g F (oa.keep g F hg hn) fun e => by
        have := inv.only.wf g F hg
        cases e
        omega⟩
    rintro A4 ⟨o4, hx4⟩
    have hu : ¬ both (one fw) vw.isFam A3.nxt := fun h => Nat.lt_irrefl _ (inv.wr.under inv.only.wf _ h)
    generalize A3.nxt = fx at hx4 hu
    repeat (first | refine wg_seq ?_ | refine wg_skip ?_ | refine wg_block ?_ | refine wg_scope ?_ | refine wg_inBlock ?_ | refine wg_inScope ?_ | refine wg_region ?_ | refine wo_nil ?_ | refine wo_move rfl rfl ?_ | refine wo_assign rfl rfl ?_ | refine wo_fieldAddr rfl rfl rfl ?_ | refine wo_nilCheck rfl rfl ?_ | refine wo_extract rfl rfl rfl ?_ | refine wo_load rfl rfl rfl rfl (by assumption) rfl ?_ | refine wo_eql rfl rfl rfl ?_ | refine wo_neq rfl rfl rfl ?_ | refine wo_lss rfl rfl rfl ?_ | refine wo_gtr rfl rfl rfl ?_ | refine wo_leq rfl rfl rfl ?_ | refine wo_geq rfl rfl rfl ?_ | refine wo_not rfl rfl ?_ | refine wo_lenStr rfl rfl rfl ?_ | refine wo_len rfl rfl rfl rfl ?_ | refine wo_buildSlice rfl rfl rfl ?_ | refine wo_build rfl rfl rfl ?_ | refine wo_pick rfl rfl rfl ?_ | refine wo_strEq rfl rfl rfl ?_ | refine wo_boolEq rfl rfl rfl rfl ?_ | refine wo_boolNe rfl rfl rfl rfl ?_ | refine wo_strNe rfl rfl rfl ?_ | refine wo_on rfl ?_ | refine wo_off rfl rfl ?_ | refine wo_offn rfl ?_)
    refine wo_loadN (vs := icl (op, a)) rfl rfl rfl rfl hx4 rfl ?_
    refine wo_call rfl rfl orc_cons rfl (is_spec o4.wf) ?_
    rintro r A5 ⟨rfl, o5⟩
    have hx5 := o5.keep _ _ hx4 fun h => h
    have o45 := o4.same o5
    repeat (first | refine wg_seq ?_ | refine wg_skip ?_ | refine wg_block ?_ | refine wg_scope ?_ | refine wg_inBlock ?_ | refine wg_inScope ?_ | refine wg_region ?_ | refine wo_nil ?_ | refine wo_move rfl rfl ?_ | refine wo_assign rfl rfl ?_ | refine wo_fieldAddr rfl rfl rfl ?_ | refine wo_nilCheck rfl rfl ?_ | refine wo_extract rfl rfl rfl ?_ | refine wo_load rfl rfl rfl rfl (by assumption) rfl ?_ | refine wo_eql rfl rfl rfl ?_ | refine wo_neq rfl rfl rfl ?_ | refine wo_lss rfl rfl rfl ?_ | refine wo_gtr rfl rfl rfl ?_ | refine wo_leq rfl rfl rfl ?_ | refine wo_geq rfl rfl rfl ?_ | refine wo_not rfl rfl ?_ | refine wo_lenStr rfl rfl rfl ?_ | refine wo_len rfl rfl rfl rfl ?_ | refine wo_buildSlice rfl rfl rfl ?_ | refine wo_build rfl rfl rfl ?_ | refine wo_pick rfl rfl rfl ?_ | refine wo_strEq rfl rfl rfl ?_ | refine wo_boolEq rfl rfl rfl rfl ?_ | refine wo_boolNe rfl rfl rfl rfl ?_ | refine wo_strNe rfl rfl rfl ?_ | refine wo_on rfl ?_ | refine wo_off rfl rfl ?_ | refine wo_offn rfl ?_)
    refine wg_if rfl (fun hb => ?_) fun hb => ?_
    · have hb : ¬ isP op a := by
        intro h
        rw [decide_eq_true h] at hb
        exact absurd hb (by decide)
      rw [putL_bad h200 hx hb]
      repeat (first | refine wg_seq ?_ | refine wg_skip ?_ | refine wg_block ?_ | refine wg_scope ?_ | refine wg_inBlock ?_ | refine wg_inScope ?_ | refine wg_region ?_ | refine wo_nil ?_ | refine wo_move rfl rfl ?_ | refine wo_assign rfl rfl ?_ | refine wo_fieldAddr rfl rfl rfl ?_ | refine wo_nilCheck rfl rfl ?_ | refine wo_extract rfl rfl rfl ?_ | refine wo_load rfl rfl rfl rfl (by assumption) rfl ?_ | refine wo_eql rfl rfl rfl ?_ | refine wo_neq rfl rfl rfl ?_ | refine wo_lss rfl rfl rfl ?_ | refine wo_gtr rfl rfl rfl ?_ | refine wo_leq rfl rfl rfl ?_ | refine wo_geq rfl rfl rfl ?_ | refine wo_not rfl rfl ?_ | refine wo_lenStr rfl rfl rfl ?_ | refine wo_len rfl rfl rfl rfl ?_ | refine wo_buildSlice rfl rfl rfl ?_ | refine wo_build rfl rfl rfl ?_ | refine wo_pick rfl rfl rfl ?_ | refine wo_strEq rfl rfl rfl ?_ | refine wo_boolEq rfl rfl rfl rfl ?_ | refine wo_boolNe rfl rfl rfl rfl ?_ | refine wo_strNe rfl rfl rfl ?_ | refine wo_on rfl ?_ | refine wo_off rfl rfl ?_ | refine wo_offn rfl ?_)
      exact wg_ret rfl ⟨.nils, rfl, .inl ⟨rfl, rfl, rfl⟩, inv.only.same o45, fun g hg => .inl hg⟩
    have hp : isP op a := by
      apply Decidable.byContradiction
      intro h
      rw [decide_eq_false h] at hb
      exact absurd hb (by decide)
    have hr := (opd_range op).2.2 hp.1
    have wr5 : Wr A5 fw vw (putB l i) := inv.wr.keep o45 fun _ _ h => h
    repeat (first | refine wg_seq ?_ | refine wg_skip ?_ | refine wg_block ?_ | refine wg_scope ?_ | refine wg_inBlock ?_ | refine wg_inScope ?_ | refine wg_region ?_ | refine wo_nil ?_ | refine wo_move rfl rfl ?_ | refine wo_assign rfl rfl ?_ | refine wo_fieldAddr rfl rfl rfl ?_ | refine wo_nilCheck rfl rfl ?_ | refine wo_extract rfl rfl rfl ?_ | refine wo_load rfl rfl rfl rfl (by assumption) rfl ?_ | refine wo_eql rfl rfl rfl ?_ | refine wo_neq rfl rfl rfl ?_ | refine wo_lss rfl rfl rfl ?_ | refine wo_gtr rfl rfl rfl ?_ | refine wo_leq rfl rfl rfl ?_ | refine wo_geq rfl rfl rfl ?_ | refine wo_not rfl rfl ?_ | refine wo_lenStr rfl rfl rfl ?_ | refine wo_len rfl rfl rfl rfl ?_ | refine wo_buildSlice rfl rfl rfl ?_ | refine wo_build rfl rfl rfl ?_ | refine wo_pick rfl rfl rfl ?_ | refine wo_strEq rfl rfl rfl ?_ | refine wo_boolEq rfl rfl rfl rfl ?_ | refine wo_boolNe rfl rfl rfl rfl ?_ | refine wo_strNe rfl rfl rfl ?_ | refine wo_on rfl ?_ | refine wo_off rfl rfl ?_ | refine wo_offn rfl ?_)
    refine wo_conv rfl rfl rfl rfl ((op.toNat : Nat) : Int) (by rw [wrap_u8]; omega) ?_
    refine wo_call rfl rfl orc_cons rfl (byte_spec o5.wf wr5 (by omega)) ?_
    rintro r A6 ⟨rfl, vw1, st1⟩
    have hx6 := st1.only.keep _ _ hx5 hu
    repeat (first | refine wg_seq ?_ | refine wg_skip ?_ | refine wg_block ?_ | refine wg_scope ?_ | refine wg_inBlock ?_ | refine wg_inScope ?_ | refine wg_region ?_ | refine wo_nil ?_ | refine wo_move rfl rfl ?_ | refine wo_assign rfl rfl ?_ | refine wo_fieldAddr rfl rfl rfl ?_ | refine wo_nilCheck rfl rfl ?_ | refine wo_extract rfl rfl rfl ?_ | refine wo_load rfl rfl rfl rfl (by assumption) rfl ?_ | refine wo_eql rfl rfl rfl ?_ | refine wo_neq rfl rfl rfl ?_ | refine wo_lss rfl rfl rfl ?_ | refine wo_gtr rfl rfl rfl ?_ | refine wo_leq rfl rfl rfl ?_ | refine wo_geq rfl rfl rfl ?_ | refine wo_not rfl rfl ?_ | refine wo_lenStr rfl rfl rfl ?_ | refine wo_len rfl rfl rfl rfl ?_ | refine wo_buildSlice rfl rfl rfl ?_ | refine wo_build rfl rfl rfl ?_ | refine wo_pick rfl rfl rfl ?_ | refine wo_strEq rfl rfl rfl ?_ | refine wo_boolEq rfl rfl rfl rfl ?_ | refine wo_boolNe rfl rfl rfl rfl ?_ | refine wo_strNe rfl rfl rfl ?_ | refine wo_on rfl ?_ | refine wo_off rfl rfl ?_ | refine wo_offn rfl ?_)
    refine wo_call rfl rfl orc_cons rfl operand_spec ?_
    rintro r A7 ⟨rfl, e7⟩
    obtain rfl : A6 = A7 := e7.symm
    repeat (first | refine wg_seq ?_ | refine wg_skip ?_ | refine wg_block ?_ | refine wg_scope ?_ | refine wg_inBlock ?_ | refine wg_inScope ?_ | refine wg_region ?_ | refine wo_nil ?_ | refine wo_move rfl rfl ?_ | refine wo_assign rfl rfl ?_ | refine wo_fieldAddr rfl rfl rfl ?_ | refine wo_nilCheck rfl rfl ?_ | refine wo_extract rfl rfl rfl ?_ | refine wo_load rfl rfl rfl rfl (by assumption) rfl ?_ | refine wo_eql rfl rfl rfl ?_ | refine wo_neq rfl rfl rfl ?_ | refine wo_lss rfl rfl rfl ?_ | refine wo_gtr rfl rfl rfl ?_ | refine wo_leq rfl rfl rfl ?_ | refine wo_geq rfl rfl rfl ?_ | refine wo_not rfl rfl ?_ | refine wo_lenStr rfl rfl rfl ?_ | refine wo_len rfl rfl rfl rfl ?_ | refine wo_buildSlice rfl rfl rfl ?_ | refine wo_build rfl rfl rfl ?_ | refine wo_pick rfl rfl rfl ?_ | refine wo_strEq rfl rfl rfl ?_ | refine wo_boolEq rfl rfl rfl rfl ?_ | refine wo_boolNe rfl rfl rfl rfl ?_ | refine wo_strNe rfl rfl rfl ?_ | refine wo_on rfl ?_ | refine wo_off rfl rfl ?_ | refine wo_offn rfl ?_)
    refine wg_dec rfl (fun h0 => ?_) fun h0 => ?_
    · have h0 : 0 < opd op := h0
      have ha := hp.2.2 (by omega)
      repeat (first | refine wg_seq ?_ | refine wg_skip ?_ | refine wg_block ?_ | refine wg_scope ?_ | refine wg_inBlock ?_ | refine wg_inScope ?_ | refine wg_region ?_ | refine wo_nil ?_ | refine wo_move rfl rfl ?_ | refine wo_assign rfl rfl ?_ | refine wo_fieldAddr rfl rfl rfl ?_ | refine wo_nilCheck rfl rfl ?_ | refine wo_extract rfl rfl rfl ?_ | refine wo_load rfl rfl rfl rfl (by assumption) rfl ?_ | refine wo_eql rfl rfl rfl ?_ | refine wo_neq rfl rfl rfl ?_ | refine wo_lss rfl rfl rfl ?_ | refine wo_gtr rfl rfl rfl ?_ | refine wo_leq rfl rfl rfl ?_ | refine wo_geq rfl rfl rfl ?_ | refine wo_not rfl rfl ?_ | refine wo_lenStr rfl rfl rfl ?_ | refine wo_len rfl rfl rfl rfl ?_ | refine wo_buildSlice rfl rfl rfl ?_ | refine wo_build rfl rfl rfl ?_ | refine wo_pick rfl rfl rfl ?_ | refine wo_strEq rfl rfl rfl ?_ | refine wo_boolEq rfl rfl rfl rfl ?_ | refine wo_boolNe rfl rfl rfl rfl ?_ | refine wo_strNe rfl rfl rfl ?_ | refine wo_on rfl ?_ | refine wo_off rfl rfl ?_ | refine wo_offn rfl ?_)
      refine wo_conv rfl rfl rfl rfl ((a.toNat : Nat) : Int) (by rw [wrap_u64]; omega) ?_
      refine wo_call rfl rfl orc_cons rfl (uint_spec st1.only.wf st1.wr (by rw [List.length_append, List.length_singleton]; omega) (by omega)) ?_
      rintro r A7 ⟨rfl, vw2, st2⟩
      have st3 : WStep A5 A7 fw vw vw2 (putB l i) (encI (op, a)) := by
        have := st1.trans o5.wf st2
        unfold encI
        rw [if_pos h0]
        exact this
      have i2 := inv.next hw hx hp o45 st3
      repeat (first | refine wg_seq ?_ | refine wg_skip ?_ | refine wg_block ?_ | refine wg_scope ?_ | refine wg_inBlock ?_ | refine wg_inScope ?_ | refine wg_region ?_ | refine wo_nil ?_ | refine wo_move rfl rfl ?_ | refine wo_assign rfl rfl ?_ | refine wo_fieldAddr rfl rfl rfl ?_ | refine wo_nilCheck rfl rfl ?_ | refine wo_extract rfl rfl rfl ?_ | refine wo_load rfl rfl rfl rfl (by assumption) rfl ?_ | refine wo_eql rfl rfl rfl ?_ | refine wo_neq rfl rfl rfl ?_ | refine wo_lss rfl rfl rfl ?_ | refine wo_gtr rfl rfl rfl ?_ | refine wo_leq rfl rfl rfl ?_ | refine wo_geq rfl rfl rfl ?_ | refine wo_not rfl rfl ?_ | refine wo_lenStr rfl rfl rfl ?_ | refine wo_len rfl rfl rfl rfl ?_ | refine wo_buildSlice rfl rfl rfl ?_ | refine wo_build rfl rfl rfl ?_ | refine wo_pick rfl rfl rfl ?_ | refine wo_strEq rfl rfl rfl ?_ | refine wo_boolEq rfl rfl rfl rfl ?_ | refine wo_boolNe rfl rfl rfl rfl ?_ | refine wo_strNe rfl rfl rfl ?_ | refine wo_on rfl ?_ | refine wo_off rfl rfl ?_ | refine wo_offn rfl ?_)
      refine wo_add rfl rfl rfl (by omega) (by omega) ?_
      repeat (first | refine wg_seq ?_ | refine wg_skip ?_ | refine wg_block ?_ | refine wg_scope ?_ | refine wg_inBlock ?_ | refine wg_inScope ?_ | refine wg_region ?_ | refine wo_nil ?_ | refine wo_move rfl rfl ?_ | refine wo_assign rfl rfl ?_ | refine wo_fieldAddr rfl rfl rfl ?_ | refine wo_nilCheck rfl rfl ?_ | refine wo_extract rfl rfl rfl ?_ | refine wo_load rfl rfl rfl rfl (by assumption) rfl ?_ | refine wo_eql rfl rfl rfl ?_ | refine wo_neq rfl rfl rfl ?_ | refine wo_lss rfl rfl rfl ?_ | refine wo_gtr rfl rfl rfl ?_ | refine wo_leq rfl rfl rfl ?_ | refine wo_geq rfl rfl rfl ?_ | refine wo_not rfl rfl ?_ | refine wo_lenStr rfl rfl rfl ?_ | refine wo_len rfl rfl rfl rfl ?_ | refine wo_buildSlice rfl rfl rfl ?_ | refine wo_build rfl rfl rfl ?_ | refine wo_pick rfl rfl rfl ?_ | refine wo_strEq rfl rfl rfl ?_ | refine wo_boolEq rfl rfl rfl rfl ?_ | refine wo_boolNe rfl rfl rfl rfl ?_ | refine wo_strNe rfl rfl rfl ?_ | refine wo_on rfl ?_ | refine wo_off rfl rfl ?_ | refine wo_offn rfl ?_)
      refine wg_inLoop ?_
      refine wg_le (.put 4 (.ptr fw 0 0) (.put 16 (.slice f t o l.length c ex) (.put 17 (.int .i64 (l.length : Int)) (.put 18 (.int .i64 ((i + 1 : Nat) : Int)) .nil)))) ?_ ⟨rfl, rfl, rfl, rfl, trivial⟩
      exact ih (i + 1, vw2) A7 (by simp only; omega) i2
    · have h0 : ¬ 0 < opd op := h0
      have st3 : WStep A5 A6 fw vw vw1 (putB l i) (encI (op, a)) := by
        unfold encI
        rw [if_neg h0]
        exact st1
      have i2 := inv.next hw hx hp o45 st3
      repeat (first | refine wg_seq ?_ | refine wg_skip ?_ | refine wg_block ?_ | refine wg_scope ?_ | refine wg_inBlock ?_ | refine wg_inScope ?_ | refine wg_region ?_ | refine wo_nil ?_ | refine wo_move rfl rfl ?_ | refine wo_assign rfl rfl ?_ | refine wo_fieldAddr rfl rfl rfl ?_ | refine wo_nilCheck rfl rfl ?_ | refine wo_extract rfl rfl rfl ?_ | refine wo_load rfl rfl rfl rfl (by assumption) rfl ?_ | refine wo_eql rfl rfl rfl ?_ | refine wo_neq rfl rfl rfl ?_ | refine wo_lss rfl rfl rfl ?_ | refine wo_gtr rfl rfl rfl ?_ | refine wo_leq rfl rfl rfl ?_ | refine wo_geq rfl rfl rfl ?_ | refine wo_not rfl rfl ?_ | refine wo_lenStr rfl rfl rfl ?_ | refine wo_len rfl rfl rfl rfl ?_ | refine wo_buildSlice rfl rfl rfl ?_ | refine wo_build rfl rfl rfl ?_ | refine wo_pick rfl rfl rfl ?_ | refine wo_strEq rfl rfl rfl ?_ | refine wo_boolEq rfl rfl rfl rfl ?_ | refine wo_boolNe rfl rfl rfl rfl ?_ | refine wo_strNe rfl rfl rfl ?_ | refine wo_on rfl ?_ | refine wo_off rfl rfl ?_ | refine wo_offn rfl ?_)
      refine wo_add rfl rfl rfl (by omega) (by omega) ?_
      repeat (first | refine wg_seq ?_ | refine wg_skip ?_ | refine wg_block ?_ | refine wg_scope ?_ | refine wg_inBlock ?_ | refine wg_inScope ?_ | refine wg_region ?_ | refine wo_nil ?_ | refine wo_move rfl rfl ?_ | refine wo_assign rfl rfl ?_ | refine wo_fieldAddr rfl rfl rfl ?_ | refine wo_nilCheck rfl rfl ?_ | refine wo_extract rfl rfl rfl ?_ | refine wo_load rfl rfl rfl rfl (by assumption) rfl ?_ | refine wo_eql rfl rfl rfl ?_ | refine wo_neq rfl rfl rfl ?_ | refine wo_lss rfl rfl rfl ?_ | refine wo_gtr rfl rfl rfl ?_ | refine wo_leq rfl rfl rfl ?_ | refine wo_geq rfl rfl rfl ?_ | refine wo_not rfl rfl ?_ | refine wo_lenStr rfl rfl rfl ?_ | refine wo_len rfl rfl rfl rfl ?_ | refine wo_buildSlice rfl rfl rfl ?_ | refine wo_build rfl rfl rfl ?_ | refine wo_pick rfl rfl rfl ?_ | refine wo_strEq rfl rfl rfl ?_ | refine wo_boolEq rfl rfl rfl rfl ?_ | refine wo_boolNe rfl rfl rfl rfl ?_ | refine wo_strNe rfl rfl rfl ?_ | refine wo_on rfl ?_ | refine wo_off rfl rfl ?_ | refine wo_offn rfl ?_)
      refine wg_inLoop ?_
      refine wg_le (.put 4 (.ptr fw 0 0) (.put 16 (.slice f t o l.length c ex) (.put 17 (.int .i64 (l.length : Int)) (.put 18 (.int .i64 ((i + 1 : Nat) : Int)) .nil)))) ?_ ⟨rfl, rfl, rfl, rfl, trivial⟩
      exact ih (i + 1, vw1) A6 (by simp only; omega) i2
  · have hge : i = l.length := by
      have h1 : ¬ (i : Int) < (l.length : Int) := hge
      have := inv.le
      omega
    subst hge
    rw [putL_ok h200 inv.ok]
    refine wg_exit rfl ?_
    repeat (first | refine wg_seq ?_ | refine wg_skip ?_ | refine wg_block ?_ | refine wg_scope ?_ | refine wg_inBlock ?_ | refine wg_inScope ?_ | refine wg_region ?_ | refine wo_nil ?_ | refine wo_move rfl rfl ?_ | refine wo_assign rfl rfl ?_ | refine wo_fieldAddr rfl rfl rfl ?_ | refine wo_nilCheck rfl rfl ?_ | refine wo_extract rfl rfl rfl ?_ | refine wo_load rfl rfl rfl rfl (by assumption) rfl ?_ | refine wo_eql rfl rfl rfl ?_ | refine wo_neq rfl rfl rfl ?_ | refine wo_lss rfl rfl rfl ?_ | refine wo_gtr rfl rfl rfl ?_ | refine wo_leq rfl rfl rfl ?_ | refine wo_geq rfl rfl rfl ?_ | refine wo_not rfl rfl ?_ | refine wo_lenStr rfl rfl rfl ?_ | refine wo_len rfl rfl rfl rfl ?_ | refine wo_buildSlice rfl rfl rfl ?_ | refine wo_build rfl rfl rfl ?_ | refine wo_pick rfl rfl rfl ?_ | refine wo_strEq rfl rfl rfl ?_ | refine wo_boolEq rfl rfl rfl rfl ?_ | refine wo_boolNe rfl rfl rfl rfl ?_ | refine wo_strNe rfl rfl rfl ?_ | refine wo_on rfl ?_ | refine wo_off rfl rfl ?_ | refine wo_offn rfl ?_)
    refine wo_call rfl rfl orc_cons rfl (bytes_spec inv.only.wf inv.wr (by omega)) ?_
    rintro r A4 ⟨h1, h2, h3⟩
    repeat (first | refine wg_seq ?_ | refine wg_skip ?_ | refine wg_block ?_ | refine wg_scope ?_ | refine wg_inBlock ?_ | refine wg_inScope ?_ | refine wg_region ?_ | refine wo_nil ?_ | refine wo_move rfl rfl ?_ | refine wo_assign rfl rfl ?_ | refine wo_fieldAddr rfl rfl rfl ?_ | refine wo_nilCheck rfl rfl ?_ | refine wo_extract rfl rfl rfl ?_ | refine wo_load rfl rfl rfl rfl (by assumption) rfl ?_ | refine wo_eql rfl rfl rfl ?_ | refine wo_neq rfl rfl rfl ?_ | refine wo_lss rfl rfl rfl ?_ | refine wo_gtr rfl rfl rfl ?_ | refine wo_leq rfl rfl rfl ?_ | refine wo_geq rfl rfl rfl ?_ | refine wo_not rfl rfl ?_ | refine wo_lenStr rfl rfl rfl ?_ | refine wo_len rfl rfl rfl rfl ?_ | refine wo_buildSlice rfl rfl rfl ?_ | refine wo_build rfl rfl rfl ?_ | refine wo_pick rfl rfl rfl ?_ | refine wo_strEq rfl rfl rfl ?_ | refine wo_boolEq rfl rfl rfl rfl ?_ | refine wo_boolNe rfl rfl rfl rfl ?_ | refine wo_strNe rfl rfl rfl ?_ | refine wo_on rfl ?_ | refine wo_off rfl rfl ?_ | refine wo_offn rfl ?_)
    refine wg_ret rfl ⟨r, rfl, h1, inv.only.same h2, fun g hg => ?_⟩
    rcases h3 g hg with h | h
    · exact h.elim
    · exact .inr (Nat.le_trans inv.only.nxt h)
end Go.Proofs.Ytokieeiohfcgdaa.Ae
