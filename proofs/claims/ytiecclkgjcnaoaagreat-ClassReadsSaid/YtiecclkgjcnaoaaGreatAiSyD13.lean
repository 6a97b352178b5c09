/-
  A METHOD'S BODY IS CHECKED, by the rules: body.
-/
import Derived.Test.YtiecclkgjcnaoaaGreatAiSyD12
namespace Go.Proofs.YtiecclkgjcnaoaaGreat.Ae
open Go.AE
set_option linter.unusedVariables false
set_option maxRecDepth 100000
def bodyOk (pool : List CoT) (m : MeT) : Prop :=
  (1 ≤ m.code.length ∧ m.code.length ≤ 200) ∧ (∀ x ∈ m.code, insOk pool m.locals m.code.length x) ∧ (∃ x, m.code[m.code.length - 1]? = some x ∧ stP x.1) ∧ m.hands.length ≤ 16 ∧ ∀ h ∈ m.hands, haOk pool m.code.length h
theorem Err.of {e : Int} {p q : Prop} (h : Err e p) (he : e ≠ 0) (hq : q → p) : Err e q := by
  rcases h with ⟨h, _⟩ | ⟨h1, h2, h3⟩
  · exact absurd h he
  · exact .inr ⟨h1, h2, fun k => h3 (hq k)⟩
theorem Err.ok {e : Int} {p : Prop} (h : Err e p) (he : e = 0) : p := by
  rcases h with ⟨_, h⟩ | ⟨h1, h2, h3⟩
  · exact h
  · omega
set_option maxHeartbeats 4000000 in
theorem cbody_spec {K : FuncId} {A : AW} {name super : Str} {pv fv mv : AV} {pool : List CoT} {m : MeT} {qv cv hv : AV} {n0 : Nat} (hw : Wf A) (hp : Full A 5 pv pool.length (pool.flatMap coc)) (hm : MeR A n0 m qv cv hv) (hl : pool.length < 1000000) :
    CallP (ES K) 97 [.agg (clc name super pv fv mv), .agg (mec m qv cv hv)] A fun r A1 => (∃ e, r = .int .i64 e ∧ Err e (bodyOk pool m)) ∧ Only A A1 none' := by
  refine call_of rfl rfl rfl ?_
  unfold clc mec
  repeat (first | refine qO ?_ | refine qA ?_)
  refine wo_box rfl rfl rfl rfl ?_
  refine wo_A (fun A1 => Only A A1 none' ∧ A1.heap.get A.nxt = some (.cells 0 false 5 (clc name super pv fv mv))) ⟨Only.add hw _, by rw [AW.add_get, if_pos rfl]; rfl⟩ ?_
  rintro A1 ⟨o1, h2⟩
  generalize A.nxt = f2 at h2
  refine wo_box rfl rfl rfl rfl ?_
  refine wo_A (fun A2 => Only A1 A2 none' ∧ A2.heap.get A1.nxt = some (.cells 0 false 8 (mec m qv cv hv))) ⟨Only.add o1.wf _, by rw [AW.add_get, if_pos rfl]; rfl⟩ ?_
  rintro A2 ⟨o2, h3⟩
  generalize A1.nxt = f3 at h3
  have h2 := o2.keep _ _ h2 fun h => h
  have o12 := o1.same o2
  have hC := hm.c.keep o12 fun _ _ h => h
  unfold mec at h3
  repeat (first | refine qO ?_ | refine qA ?_ | refine qG ?_ | refine qE rfl rfl ?_ | refine qI rfl rfl rfl ?_ | refine qP rfl rfl rfl rfl (by assumption) rfl ?_)
  refine xJ rfl rfl rfl hC.lenV ?_
  repeat (first | refine qJ rfl rfl ?_ | refine xM rfl rfl rfl ?_)
  by_cases c1 : (m.code.length : Int) < 1
  · refine xA 15 true rfl (decide_eq_true c1) ?_
    repeat (first | refine qO ?_ | refine qA ?_ | refine qG ?_ | refine qE rfl rfl ?_ | refine qR rfl rfl rfl ?_ | refine xE rfl rfl ?_ | refine xH rfl ?_)
    exact qQ rfl ⟨⟨32, rfl, .inr ⟨by decide, by decide, fun ok => by have := ok.1.1; omega⟩⟩, o12⟩
  refine xA 15 false rfl (decide_eq_false c1) ?_
  repeat (first | refine qI rfl rfl rfl ?_ | refine qP rfl rfl rfl rfl (by assumption) rfl ?_ | refine qX rfl ?_)
  refine xJ rfl rfl rfl hC.lenV ?_
  repeat (first | refine qG ?_ | refine wo_gtr rfl rfl rfl ?_ | refine qR rfl rfl rfl ?_ | refine qX rfl ?_)
  refine qV rfl (fun c2 => ?_) fun c2 => ?_
  · have c2 : (200 : Int) < (m.code.length : Int) := c2
    repeat (first | refine qO ?_ | refine qA ?_ | refine qG ?_ | refine qE rfl rfl ?_)
    exact qQ rfl ⟨⟨32, rfl, .inr ⟨by decide, by decide, fun ok => by have := ok.1.2; omega⟩⟩, o12⟩
  have c2 : ¬ (200 : Int) < (m.code.length : Int) := c2
  repeat (first | refine qO ?_ | refine qS ?_ | refine qA ?_ | refine qI rfl rfl rfl ?_ | refine qP rfl rfl rfl rfl (by assumption) rfl ?_)
  refine xJ rfl rfl rfl hC.lenV ?_
  repeat (first | refine qY ?_ | refine qG ?_ | refine qJ rfl rfl ?_)
  refine wg_loop ?_
  refine wg_le (.put 2 (.ptr f2 0 0) (.put 3 (.ptr f3 0 0) (.put 22 cv (.put 23 (.int .i64 (m.code.length : Int)) (.put 24 (.int .i64 ((0 : Nat) : Int)) .nil))))) ?_ ⟨rfl, rfl, rfl, rfl, rfl, trivial⟩
  refine wg_ind (ι := Nat) (fun i => m.code.length - i) (fun i => .put 2 (.ptr f2 0 0) (.put 3 (.ptr f3 0 0) (.put 22 cv (.put 23 (.int .i64 (m.code.length : Int)) (.put 24 (.int .i64 (i : Int)) .nil)))))
    (fun i A3 => Only A2 A3 none' ∧ i ≤ m.code.length ∧ ∀ j x, j < i → m.code[j]? = some x → insOk pool m.locals m.code.length x) ?_ 0 A2 ⟨Only.refl o12.wf _, Nat.zero_le _, fun j f h => by omega⟩
  rintro i A3 ⟨o3, hi, hpi⟩ ih
  have o13 := o12.same o3
  have h2 := o3.keep _ _ h2 fun h => h
  have h3 := o3.keep _ _ h3 fun h => h
  have hC := hC.keep o3 fun _ _ h => h
  repeat (first | refine qO ?_ | refine qA ?_ | refine qG ?_ | refine xM rfl rfl rfl ?_)
  refine qV rfl (fun hlt => ?_) fun hge => ?_
  · have hlt : i < m.code.length := Int.ofNat_lt.1 hlt
    obtain ⟨x, hx⟩ : ∃ x, m.code[i]? = some x := ⟨m.code[i], List.getElem?_eq_getElem hlt⟩
    obtain ⟨f, t, o, c, ex, ro, all, rfl, hh, _, hat⟩ := row_el (cl := icl) (fun _ => rfl) hC hx
    repeat (first | refine qO ?_ | refine qS ?_ | refine qY ?_ | refine qA ?_)
    refine xF i rfl rfl rfl rfl rfl hlt ?_
    refine xG (vs := icl x) rfl rfl rfl rfl hh ?_ ?_
    · exact (hat 2 0 (Nat.le_refl _)).trans rfl
    refine wo_alloc rfl rfl rfl ?_
    refine qZ rfl rfl rfl rfl rfl rfl (by rw [AW.add_get, if_pos rfl]) rfl ?_
    refine wo_A (fun A4 => Only A3 A4 none' ∧ A4.heap.get A3.nxt = some (.cells 0 false 2 (icl x))) ⟨made o13.wf, by rw [AW.put_get, if_pos rfl]; rfl⟩ ?_
    rintro A4 ⟨o4, h6⟩
    generalize A3.nxt = f6 at h6
    have h2 := o4.keep _ _ h2 fun h => h
    have h3 := o4.keep _ _ h3 fun h => h
    have o14 := o13.same o4
    repeat (first | refine qO ?_ | refine qA ?_ | refine qG ?_)
    refine xG (vs := clc name super pv fv mv) rfl rfl rfl rfl h2 rfl ?_
    refine xG rfl rfl rfl rfl h3 rfl ?_
    refine xG (vs := icl x) rfl rfl rfl rfl h6 rfl ?_
    refine qU rfl rfl orc_cons rfl (cins_spec (m := m) (qv := qv) (cv := .slice f t o m.code.length c ex) (hv := hv) (x := x) o14.wf (hp.keep o14 fun _ _ h => h) (hm.c.keep o14 fun _ _ h => h) hl) ?_
    rintro r A5 ⟨⟨e, rfl, he⟩, o5⟩
    have o15 := o14.same o5
    repeat (first | refine qO ?_ | refine qA ?_ | refine qG ?_ | refine qJ rfl rfl ?_ | refine qE rfl rfl ?_ | refine xL rfl rfl rfl ?_)
    refine qV rfl (fun hne => ?_) fun hz => ?_
    · repeat (first | refine qO ?_ | refine qA ?_ | refine qG ?_ | refine qJ rfl rfl ?_ | refine qE rfl rfl ?_)
      exact qQ rfl ⟨⟨e, rfl, he.of hne fun ok => ok.2.1 x (List.mem_of_getElem? hx)⟩, o15⟩
    · have hz : e = 0 := Decidable.byContradiction hz
      repeat (first | refine qS ?_ | refine xB ?_ | refine qA ?_)
      refine wo_add rfl rfl rfl (by omega) (by omega) ?_
      repeat (first | refine qG ?_ | refine qJ rfl rfl ?_)
      refine xN ?_
      refine wg_le (.put 2 (.ptr f2 0 0) (.put 3 (.ptr f3 0 0) (.put 22 _ (.put 23 (.int .i64 (m.code.length : Int)) (.put 24 (.int .i64 ((i + 1 : Nat) : Int)) .nil))))) ?_ ⟨rfl, rfl, rfl, rfl, rfl, trivial⟩
      refine ih (i + 1) A5 (by omega) ⟨(o3.same o4).same o5, hlt, fun j y hj hy => ?_⟩
      by_cases ej : j = i
      · subst ej
        rw [hx] at hy
        cases hy
        exact he.ok hz
      · exact hpi j y (by omega) hy
  have hge : i = m.code.length := by
    have : ¬ (i : Int) < (m.code.length : Int) := hge
    omega
  have hins : ∀ x ∈ m.code, insOk pool m.locals m.code.length x := fun x hx => by
    obtain ⟨j, hj⟩ := List.getElem?_of_mem hx
    exact hpi j x (by have := (List.getElem?_eq_some_iff.1 hj).1; omega) hj
  have hlast : m.code.length - 1 < m.code.length := by omega
  obtain ⟨z, hz⟩ : ∃ z, m.code[m.code.length - 1]? = some z := ⟨m.code[m.code.length - 1], List.getElem?_eq_getElem hlast⟩
  obtain ⟨f, t, o, c, ex, ro, all, e0, hh, _, hat⟩ := row_el (cl := icl) (fun _ => rfl) hC hz
  have hnt : nth all (Nat.add (Nat.add o (Nat.mul (m.code.length - 1) 2)) 0) = some (.int .i64 z.1) := nth_take ((hat 1 0 (by decide)).trans rfl)
  refine wg_exit rfl ?_
  repeat (first | refine qO ?_ | refine qA ?_ | refine qI rfl rfl rfl ?_ | refine qP rfl rfl rfl rfl (by assumption) rfl ?_)
  refine xJ rfl rfl rfl hC.lenV ?_
  refine wo_sub rfl rfl rfl (by omega) (by omega) ?_
  refine xF (m.code.length - 1) rfl (congrArg some e0) rfl rfl (by omega) hlast ?_
  repeat refine qI rfl rfl rfl ?_
  refine qP rfl rfl rfl rfl hh hnt ?_
  refine qU rfl rfl orc_cons rfl stops_spec ?_
  rintro r A4 ⟨rfl, e4⟩
  obtain rfl : A3 = A4 := e4.symm
  repeat (first | refine qG ?_ | refine wo_not rfl rfl ?_)
  refine wg_if rfl (fun hb => ?_) fun hb => ?_
  · have hn : ¬ stP z.1 := fun h => by
      have hb : (!decide (stP z.1)) = true := hb
      rw [decide_eq_true h] at hb
      cases hb
    repeat (first | refine qO ?_ | refine qA ?_ | refine qG ?_ | refine qE rfl rfl ?_)
    refine qQ rfl ⟨⟨54, rfl, .inr ⟨by decide, by decide, fun ok => ?_⟩⟩, o13⟩
    obtain ⟨y, hy, hst⟩ := ok.2.2.1
    rw [hz] at hy
    cases hy
    exact hn hst
  have hst : stP z.1 := Decidable.byContradiction fun h => by
    have hb : (!decide (stP z.1)) = false := hb
    rw [decide_eq_false h] at hb
    cases hb
  have hH := hm.h.keep o13 fun _ _ h => h
  repeat (first | refine qO ?_ | refine qS ?_ | refine qA ?_ | refine qI rfl rfl rfl ?_ | refine qP rfl rfl rfl rfl (by assumption) rfl ?_)
  refine xJ rfl rfl rfl hH.lenV ?_
  repeat (first | refine qG ?_ | refine wo_gtr rfl rfl rfl ?_)
  refine qV rfl (fun c3 => ?_) fun c3 => ?_
  · have c3 : (16 : Int) < (m.hands.length : Int) := c3
    repeat (first | refine qO ?_ | refine qA ?_ | refine qG ?_ | refine qE rfl rfl ?_)
    exact qQ rfl ⟨⟨32, rfl, .inr ⟨by decide, by decide, fun ok => by have := ok.2.2.2.1; omega⟩⟩, o13⟩
  have c3 : ¬ (16 : Int) < (m.hands.length : Int) := c3
  repeat (first | refine qO ?_ | refine qS ?_ | refine qA ?_ | refine qI rfl rfl rfl ?_ | refine qP rfl rfl rfl rfl (by assumption) rfl ?_)
  refine xJ rfl rfl rfl hH.lenV ?_
  repeat (first | refine qY ?_ | refine qG ?_ | refine qJ rfl rfl ?_)
  refine wg_loop ?_
  refine wg_le (.put 2 (.ptr f2 0 0) (.put 3 (.ptr f3 0 0) (.put 52 hv (.put 53 (.int .i64 (m.hands.length : Int)) (.put 54 (.int .i64 ((0 : Nat) : Int)) .nil))))) ?_ ⟨rfl, rfl, rfl, rfl, rfl, trivial⟩
  refine wg_ind (ι := Nat) (fun i => m.hands.length - i) (fun i => .put 2 (.ptr f2 0 0) (.put 3 (.ptr f3 0 0) (.put 52 hv (.put 53 (.int .i64 (m.hands.length : Int)) (.put 54 (.int .i64 (i : Int)) .nil)))))
    (fun i A4 => Only A3 A4 none' ∧ i ≤ m.hands.length ∧ ∀ j x, j < i → m.hands[j]? = some x → haOk pool m.code.length x) ?_ 0 A3 ⟨Only.refl o13.wf _, Nat.zero_le _, fun j f h => by omega⟩
  rintro k A4 ⟨o4, hk, hpk⟩ ih2
  have o14 := o13.same o4
  have h2 := o4.keep _ _ h2 fun h => h
  have h3 := o4.keep _ _ h3 fun h => h
  have hH := hH.keep o4 fun _ _ h => h
  repeat (first | refine qO ?_ | refine qA ?_ | refine qG ?_ | refine xM rfl rfl rfl ?_)
  refine qV rfl (fun hlt => ?_) fun hge2 => ?_
  · have hlt : k < m.hands.length := Int.ofNat_lt.1 hlt
    obtain ⟨x, hx⟩ : ∃ x, m.hands[k]? = some x := ⟨m.hands[k], List.getElem?_eq_getElem hlt⟩
    obtain ⟨f, t, o, c, ex, ro, all, rfl, hh, _, hat⟩ := row_el (cl := hac) (fun _ => rfl) hH hx
    repeat (first | refine qO ?_ | refine qS ?_ | refine qY ?_ | refine qA ?_)
    refine xF k rfl rfl rfl rfl rfl hlt ?_
    refine xG (vs := hac x) rfl rfl rfl rfl hh ?_ ?_
    · exact (hat 5 0 (Nat.le_refl _)).trans rfl
    refine wo_alloc rfl rfl rfl ?_
    refine qZ rfl rfl rfl rfl rfl rfl (by rw [AW.add_get, if_pos rfl]) rfl ?_
    refine wo_A (fun A5 => Only A4 A5 none' ∧ A5.heap.get A4.nxt = some (.cells 0 false 5 (hac x))) ⟨made o14.wf, by rw [AW.put_get, if_pos rfl]; rfl⟩ ?_
    rintro A5 ⟨o5, h6⟩
    generalize A4.nxt = f6 at h6
    have h2 := o5.keep _ _ h2 fun h => h
    have h3 := o5.keep _ _ h3 fun h => h
    have o15 := o14.same o5
    repeat (first | refine qO ?_ | refine qA ?_ | refine qG ?_)
    refine xG (vs := clc name super pv fv mv) rfl rfl rfl rfl h2 rfl ?_
    refine xG rfl rfl rfl rfl h3 rfl ?_
    refine xG (vs := hac x) rfl rfl rfl rfl h6 rfl ?_
    refine qU rfl rfl orc_cons rfl (chand_spec (m := m) (qv := qv) (cv := cv) (hv := .slice f t o m.hands.length c ex) (h := x) o15.wf (hp.keep o15 fun _ _ h => h) (hm.c.keep o15 fun _ _ h => h) hl) ?_
    rintro r A6 ⟨⟨e, rfl, he⟩, o6⟩
    have o16 := o15.same o6
    repeat (first | refine qO ?_ | refine qA ?_ | refine qG ?_ | refine qJ rfl rfl ?_ | refine qE rfl rfl ?_ | refine xL rfl rfl rfl ?_)
    refine qV rfl (fun hne => ?_) fun hz => ?_
    · repeat (first | refine qO ?_ | refine qA ?_ | refine qG ?_ | refine qJ rfl rfl ?_ | refine qE rfl rfl ?_)
      exact qQ rfl ⟨⟨e, rfl, he.of hne fun ok => ok.2.2.2.2 x (List.mem_of_getElem? hx)⟩, o16⟩
    · have hz : e = 0 := Decidable.byContradiction hz
      repeat (first | refine qS ?_ | refine xB ?_ | refine qA ?_)
      refine wo_add rfl rfl rfl (by omega) (by omega) ?_
      repeat (first | refine qG ?_ | refine qJ rfl rfl ?_)
      refine xN ?_
      refine wg_le (.put 2 (.ptr f2 0 0) (.put 3 (.ptr f3 0 0) (.put 52 _ (.put 53 (.int .i64 (m.hands.length : Int)) (.put 54 (.int .i64 ((k + 1 : Nat) : Int)) .nil))))) ?_ ⟨rfl, rfl, rfl, rfl, rfl, trivial⟩
      refine ih2 (k + 1) A6 (by omega) ⟨(o4.same o5).same o6, hlt, fun j y hj hy => ?_⟩
      by_cases ej : j = k
      · subst ej
        rw [hx] at hy
        cases hy
        exact he.ok hz
      · exact hpk j y (by omega) hy
  · have hge2 : k = m.hands.length := by
      have : ¬ (k : Int) < (m.hands.length : Int) := hge2
      omega
    refine wg_exit rfl ?_
    repeat (first | refine qO ?_ | refine qA ?_ | refine qG ?_ | refine qE rfl rfl ?_)
    refine qQ rfl ⟨⟨0, rfl, .inl ⟨rfl, ⟨by omega, by omega⟩, hins, ⟨z, hz, hst⟩, by omega, fun x hx => ?_⟩⟩, o14⟩
    obtain ⟨j, hj⟩ := List.getElem?_of_mem hx
    exact hpk j x (by have := (List.getElem?_eq_some_iff.1 hj).1; omega) hj
end Go.Proofs.YtiecclkgjcnaoaaGreat.Ae
