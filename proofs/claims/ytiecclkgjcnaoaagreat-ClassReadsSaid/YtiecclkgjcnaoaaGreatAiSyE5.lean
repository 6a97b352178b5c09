/-
  THE DOCUMENT'S CHECK, by the rules: code.
-/
import Derived.Test.YtiecclkgjcnaoaaGreatAiSyE4
namespace Go.Proofs.YtiecclkgjcnaoaaGreat.Ae
open Go.AE
set_option linter.unusedVariables false
set_option maxRecDepth 100000
set_option maxHeartbeats 4000000 in
theorem rcode_spec {K : FuncId} {A : AW} {name super : Str} {pv fv mv : AV} {pool : List CoT} {m : MeT} {qv cv hv : AV} {n0 : Nat} (hw : Wf A) (hp : Full A 5 pv pool.length (pool.flatMap coc)) (hm : MeR A n0 m qv cv hv) (hl : pool.length < 1000000) :
    CallP (ES K) 130 [.agg (clc name super pv fv mv), .agg (mec m qv cv hv)] A fun r A1 => (∃ e, r = .int .i64 e ∧ Err e (bodyOk pool m)) ∧ Only A A1 none' := by
  refine call_of rfl rfl rfl ?_
  unfold clc mec
  repeat (first | refine qO ?_ | refine qA ?_)
  refine wo_box rfl rfl rfl rfl ?_
  refine wo_A (fun A1 => Only A A1 none' ∧ A1.heap.get A.nxt = some (.cells 0 false 5 [.str name, .str super, pv, fv, mv])) ⟨Only.add hw _, by rw [AW.add_get, if_pos rfl]; rfl⟩ ?_
  rintro A1 ⟨o1, h2⟩
  generalize A.nxt = f2 at h2
  refine wo_box rfl rfl rfl rfl ?_
  refine wo_A (fun A2 => Only A1 A2 none' ∧ A2.heap.get A1.nxt = some (.cells 0 false 8 (mec m qv cv hv))) ⟨Only.add o1.wf _, by rw [AW.add_get, if_pos rfl]; rfl⟩ ?_
  rintro A2 ⟨o2, h3⟩
  generalize A1.nxt = f3 at h3
  have h2 := o2.keep _ _ h2 fun h => h
  have o12 := o1.same o2
  have hC := hm.c.keep o12 fun _ _ h => h
  unfold mec at h3
  repeat (first | refine qO ?_ | refine qA ?_ | refine qG ?_ | refine qE rfl rfl ?_ | refine qI rfl rfl rfl ?_ | refine qP rfl rfl rfl rfl (by assumption) rfl ?_)
  refine xJ rfl rfl rfl hC.lenV ?_
  repeat (first | refine qO ?_ | refine qA ?_ | refine qG ?_ | refine qJ rfl rfl ?_ | refine qE rfl rfl ?_ | refine xM rfl rfl rfl ?_)
  by_cases c1 : (m.code.length : Int) < 1
  · refine xA 15 true rfl (decide_eq_true c1) ?_
    repeat (first | refine qO ?_ | refine qA ?_ | refine qG ?_ | refine qE rfl rfl ?_ | refine qR rfl rfl rfl ?_ | refine xE rfl rfl ?_ | refine xH rfl ?_)
    exact qQ rfl ⟨⟨32, rfl, .inr ⟨by decide, by decide, fun ok => by have := ok.1.1; omega⟩⟩, o12⟩
  refine xA 15 false rfl (decide_eq_false c1) ?_
  repeat (first | refine qG ?_ | refine qJ rfl rfl ?_ | refine wo_gtr rfl rfl rfl ?_ | refine qR rfl rfl rfl ?_ | refine qX rfl ?_)
  refine qV rfl (fun c2 => ?_) fun c2 => ?_
  · have c2 : (200 : Int) < (m.code.length : Int) := c2
    repeat (first | refine qO ?_ | refine qA ?_ | refine qG ?_ | refine qE rfl rfl ?_)
    exact qQ rfl ⟨⟨32, rfl, .inr ⟨by decide, by decide, fun ok => by have := ok.1.2; omega⟩⟩, o12⟩
  have c2 : ¬ (200 : Int) < (m.code.length : Int) := c2
  repeat (first | refine qO ?_ | refine qS ?_ | refine qY ?_ | refine qA ?_ | refine qG ?_ | refine qE rfl rfl ?_)
  refine wg_loop ?_
  refine wg_le (.put 2 (.ptr f2 0 0) (.put 3 (.ptr f3 0 0) (.put 5 (.int .i64 (m.code.length : Int)) (.put 6 (.int .i64 ((0 : Nat) : Int)) .nil)))) ?_ ⟨rfl, rfl, rfl, rfl, trivial⟩
  refine wg_ind (ι := Nat) (fun i => m.code.length - i) (fun i => .put 2 (.ptr f2 0 0) (.put 3 (.ptr f3 0 0) (.put 5 (.int .i64 (m.code.length : Int)) (.put 6 (.int .i64 (i : Int)) .nil))))
    (fun i A3 => Only A2 A3 none' ∧ i ≤ m.code.length ∧ ∀ j x, j < i → m.code[j]? = some x → insOk pool m.locals m.code.length x) ?_ 0 A2 ⟨Only.refl o12.wf _, Nat.zero_le _, fun j f h => by omega⟩
  rintro i A3 ⟨o3, hi, hpi⟩ ih
  have o13 := o12.same o3
  have h2 := o3.keep _ _ h2 fun h => h
  have h3 := o3.keep _ _ h3 fun h => h
  have hC := hC.keep o3 fun _ _ h => h
  repeat (first | refine qO ?_ | refine qA ?_ | refine qG ?_ | refine qJ rfl rfl ?_ | refine xM rfl rfl rfl ?_)
  refine qV rfl (fun hlt => ?_) fun hge => ?_
  · have hlt : i < m.code.length := Int.ofNat_lt.1 hlt
    obtain ⟨⟨op, a⟩, hx⟩ : ∃ x, m.code[i]? = some x := ⟨m.code[i], List.getElem?_eq_getElem hlt⟩
    obtain ⟨f, t, o, c, ex, ro, all, e0, hh, _, hat⟩ := row_el (cl := icl) (fun _ => rfl) hC hx
    have bad : ∀ e : Int, 30 ≤ e → e ≤ 54 → ¬ insOk pool m.locals m.code.length (op, a) → Err e (bodyOk pool m) := fun e g1 g2 g3 => .inr ⟨g1, g2, fun ok => g3 (ok.2.1 _ (List.mem_of_getElem? hx))⟩
    repeat (first | refine qO ?_ | refine qS ?_ | refine qY ?_ | refine qA ?_ | refine qJ rfl rfl ?_ | refine qI rfl rfl rfl ?_ | refine qP rfl rfl rfl rfl (by assumption) rfl ?_)
    refine xF i rfl (congrArg some e0) rfl rfl rfl hlt ?_
    refine xG (vs := icl (op, a)) rfl rfl rfl rfl hh ?_ ?_
    · exact (hat 2 0 (Nat.le_refl _)).trans rfl
    refine wo_alloc rfl rfl rfl ?_
    refine qZ rfl rfl rfl rfl rfl rfl (by rw [AW.add_get, if_pos rfl]) rfl ?_
    refine wo_A (fun A4 => Only A3 A4 none' ∧ A4.heap.get A3.nxt = some (.cells 0 false 2 [.int .i64 op, .int .i64 a])) ⟨made o13.wf, by rw [AW.put_get, if_pos rfl]; rfl⟩ ?_
    rintro A4 ⟨o4, h7⟩
    generalize A3.nxt = f7 at h7
    have h2 := o4.keep _ _ h2 fun h => h
    have h3 := o4.keep _ _ h3 fun h => h
    have o14 := o13.same o4
    repeat (first | refine qO ?_ | refine qA ?_ | refine qG ?_)
    refine xG (vs := icl (op, a)) rfl rfl rfl rfl h7 rfl ?_
    refine qU rfl rfl orc_cons rfl (ris_spec (op := op) (a := a) o14.wf) ?_
    rintro r A5 ⟨rfl, o5⟩
    have h2 := o5.keep _ _ h2 fun h => h
    have h3 := o5.keep _ _ h3 fun h => h
    have h7 := o5.keep _ _ h7 fun h => h
    have o15 := o14.same o5
    repeat (first | refine qG ?_ | refine wo_not rfl rfl ?_)
    refine wg_if rfl (fun hb => ?_) fun hb => ?_
    · repeat (first | refine qO ?_ | refine qA ?_ | refine qG ?_ | refine qE rfl rfl ?_)
      exact qQ rfl ⟨⟨40, rfl, bad 40 (by decide) (by decide) fun ok => not_of' hb ok.1⟩, o15⟩
    have hP : isP op a := yes_of' hb
    repeat (first | refine qO ?_ | refine qS ?_ | refine qA ?_ | refine qI rfl rfl rfl ?_ | refine qP rfl rfl rfl rfl (by assumption) rfl ?_)
    refine qU rfl rfl orc_cons rfl roperand_spec ?_
    rintro r A6 ⟨rfl, e6⟩
    obtain rfl : A5 = A6 := e6.symm
    repeat refine qG ?_
    refine wg_cut (fun l1 A6 => (Kn.put 2 (.ptr f2 0 0) (.put 3 (.ptr f3 0 0) (.put 5 (.int .i64 (m.code.length : Int)) (.put 6 (.int .i64 (i : Int)) .nil)))).le l1 ∧ A6 = A5 ∧ insOk pool m.locals m.code.length (op, a)) (fun k' hk => ?_) ?_
    · repeat (first | refine qO ?_ | refine qY ?_ | refine qA ?_ | refine qG ?_ | refine qE rfl rfl ?_ | refine xD rfl rfl rfl ?_)
      refine qV rfl (fun c1 => ?_) fun c1 => ?_
      · have c1 : opd op = 1 := c1
        repeat (first | refine qO ?_ | refine qA ?_ | refine qG ?_ | refine qI rfl rfl rfl ?_ | refine qP rfl rfl rfl rfl (by assumption) rfl ?_ | refine wo_geq rfl rfl rfl ?_)
        refine qV rfl (fun hx => ?_) fun hx => ?_
        · have hx : m.locals ≤ a := hx
          repeat (first | refine qO ?_ | refine qA ?_ | refine qG ?_ | refine qE rfl rfl ?_)
          exact qQ rfl ⟨⟨52, rfl, bad 52 (by decide) (by decide) fun ok => by have h : a < m.locals := ok.2.1 c1; omega⟩, o15⟩
        · have hx : ¬ m.locals ≤ a := hx
          repeat (first | refine qS ?_ | refine xB ?_)
          exact hk _ _ ⟨⟨rfl, rfl, rfl, rfl, trivial⟩, rfl, hP, fun _ => by show a < m.locals; omega, fun h => by have h : opd op = 2 := h; omega, fun h => by have h : opd op = 3 := h; omega⟩
      have c1 : ¬ opd op = 1 := c1
      repeat (first | refine qO ?_ | refine qA ?_ | refine qG ?_ | refine qE rfl rfl ?_ | refine xD rfl rfl rfl ?_)
      refine qV rfl (fun c2 => ?_) fun c2 => ?_
      · have c2 : opd op = 2 := c2
        have ha : 0 ≤ a := (hP.2.2 (by omega)).1
        have hF := hp.keep o15 fun _ _ h => h
        repeat refine qO ?_
        refine wg_draw rfl ?_
        repeat (first
          | (refine xC rfl rfl rfl rfl rfl ?_
             repeat (first | refine qG ?_ | refine qI rfl rfl rfl ?_)
             refine ⟨rfl, ?_⟩)
          | (refine xI rfl rfl rfl rfl rfl rfl rfl ?_
             repeat (first | refine qG ?_ | refine qP rfl rfl rfl rfl (by assumption) rfl ?_)
             refine ⟨rfl, _, rfl, ?_⟩))
        refine xI rfl rfl rfl rfl rfl rfl rfl ?_
        refine xJ rfl rfl rfl hF.row.lenV ?_
        repeat refine qG ?_
        refine ⟨rfl, _, rfl, ?_⟩
        repeat (first
          | (refine xC rfl rfl rfl rfl rfl ?_
             repeat (first | refine qG ?_ | refine qJ rfl rfl ?_ | refine wo_geq rfl rfl rfl ?_)
             refine ⟨rfl, ?_⟩))
        by_cases hx : (pool.length : Int) ≤ a
        · refine wd_is 50 true rfl (decide_eq_true hx) ?_
          repeat (first
            | (refine xC rfl rfl rfl rfl rfl ?_
               repeat (first | refine qG ?_ | refine xE rfl rfl ?_)
               refine ⟨rfl, ?_⟩))
          refine wd_off rfl rfl rfl rfl rfl ?_
          repeat (first | refine qG ?_ | refine xE rfl rfl ?_)
          refine ⟨rfl, ?_⟩
          repeat (first
            | (refine xC rfl rfl rfl rfl rfl ?_
               repeat (first | refine qG ?_ | refine xE rfl rfl ?_)
               refine ⟨rfl, ?_⟩))
          refine wd_off rfl rfl rfl rfl rfl ?_
          repeat (first | refine qG ?_ | refine xE rfl rfl ?_)
          refine ⟨rfl, ?_⟩
          repeat (first
            | (refine xC rfl rfl rfl rfl rfl ?_
               repeat (first | refine qG ?_ | refine xE rfl rfl ?_)
               refine ⟨rfl, ?_⟩))
          refine wd_off rfl rfl rfl rfl rfl ?_
          repeat (first | refine qG ?_ | refine xE rfl rfl ?_)
          refine ⟨rfl, ?_⟩
          repeat (first
            | (refine xC rfl rfl rfl rfl rfl ?_
               repeat (first | refine qG ?_ | refine xE rfl rfl ?_)
               refine ⟨rfl, ?_⟩))
          refine wd_off rfl rfl rfl rfl rfl ?_
          repeat (first | refine qG ?_ | refine xE rfl rfl ?_)
          refine ⟨rfl, ?_⟩
          refine wd_act rfl rfl rfl ?_
          repeat (first | refine qG ?_ | refine xE rfl rfl ?_)
          refine ⟨⟨.inl (by show bit 49279 4 = true; rfl), .inl (by show bit 49279 3 = true; rfl), .inl (by show bit 49279 1 = true; rfl), trivial⟩, ?_⟩
          repeat (first
            | (refine xC rfl rfl rfl rfl rfl ?_
               repeat (first | refine qG ?_ | refine qR rfl rfl rfl ?_ | refine xE rfl rfl ?_)
               refine ⟨rfl, ?_⟩))
          refine wd_nil ?_
          repeat (first | refine qO ?_ | refine qA ?_ | refine qG ?_ | refine qE rfl rfl ?_ | refine xH rfl ?_)
          refine qQ rfl ⟨⟨51, rfl, bad 51 (by decide) (by decide) fun ok => ?_⟩, o15⟩
          obtain ⟨c, hc, _⟩ := ok.2.2.1 c2
          have := (List.getElem?_eq_some_iff.1 hc).1
          have : a.toNat < pool.length := this
          omega
        · refine wd_is 50 false rfl (decide_eq_false hx) ?_
          obtain ⟨q, hq⟩ : ∃ i : Nat, a = (i : Int) := ⟨a.toNat, by omega⟩
          have hil : q < pool.length := by omega
          obtain ⟨y, hy⟩ : ∃ y, pool[q]? = some y := ⟨pool[q], List.getElem?_eq_getElem hil⟩
          obtain ⟨f, t, o, c, ex, ro, all, e0, hh, _, hat⟩ := row_el (cl := coc) (fun _ => rfl) hF.row hy
          have hn : nth all (Nat.add (Nat.add o (Nat.mul q 5)) 0) = some (.int .i64 y.kind) := nth_take ((hat 1 0 (by decide)).trans rfl)
          repeat (first
            | (refine xC rfl rfl rfl rfl rfl ?_
               repeat (first | refine qG ?_ | refine qI rfl rfl rfl ?_ | refine qX rfl ?_)
               refine ⟨rfl, ?_⟩)
            | (refine xI rfl rfl rfl rfl rfl rfl rfl ?_
               repeat (first | refine qG ?_ | refine qP rfl rfl rfl rfl (by assumption) rfl ?_ | refine qX rfl ?_)
               refine ⟨rfl, _, rfl, ?_⟩))
          refine xC rfl rfl rfl rfl rfl ?_
          refine qX rfl ?_
          refine xF q rfl (congrArg some e0) rfl rfl hq hil ?_
          repeat refine qG ?_
          refine ⟨rfl, ?_⟩
          refine xC rfl rfl rfl rfl rfl ?_
          repeat (first | refine qG ?_ | refine qI rfl rfl rfl ?_ | refine qX rfl ?_)
          refine ⟨rfl, ?_⟩
          refine xI rfl rfl rfl rfl rfl rfl rfl ?_
          refine qX rfl ?_
          refine qP rfl rfl rfl rfl hh hn ?_
          repeat refine qG ?_
          refine ⟨rfl, _, rfl, ?_⟩
          repeat (first
            | (refine xC rfl rfl rfl rfl rfl ?_
               repeat (first | refine qG ?_ | refine qI rfl rfl rfl ?_ | refine qX rfl ?_)
               refine ⟨rfl, ?_⟩)
            | (refine xI rfl rfl rfl rfl rfl rfl rfl ?_
               repeat (first | refine qG ?_ | refine qP rfl rfl rfl rfl (by assumption) rfl ?_ | refine qX rfl ?_)
               refine ⟨rfl, _, rfl, ?_⟩))
          refine wd_act rfl rfl rfl ?_
          refine qX rfl ?_
          refine qU rfl rfl orc_cons rfl rasks_spec ?_
          rintro r A7 ⟨rfl, e7⟩
          obtain rfl : A5 = A7 := e7.symm
          repeat refine qG ?_
          refine ⟨⟨.inl (by show bit 49279 15 = true; rfl), .inr (stillI rfl hh hn), .inr (stillI rfl h7 rfl), .inr (stillV rfl h2 rfl hF.still), .inl (by show bit 49279 4 = true; rfl), .inl (by show bit 49279 3 = true; rfl), .inl (by show bit 49279 1 = true; rfl), trivial⟩, ?_⟩
          repeat (first
            | (refine xC rfl rfl rfl rfl rfl ?_
               repeat (first | refine qG ?_ | refine xL rfl rfl rfl ?_ | refine qR rfl rfl rfl ?_ | refine qX rfl ?_)
               refine ⟨rfl, ?_⟩))
          refine wd_nil ?_
          have hti : a.toNat = q := by omega
          refine qV rfl (fun hk2 => ?_) fun hk2 => ?_
          · have hk2 : y.kind ≠ raskP op := hk2
            repeat (first | refine qO ?_ | refine qA ?_ | refine qG ?_ | refine qE rfl rfl ?_)
            refine qQ rfl ⟨⟨51, rfl, bad 51 (by decide) (by decide) fun ok => ?_⟩, o15⟩
            obtain ⟨c, hc, hck⟩ := ok.2.2.1 c2
            have hc : pool[a.toNat]? = some c := hc
            rw [hti, hy] at hc
            cases hc
            exact hk2 (hck.trans (raskP_eq c2).symm)
          · have hk2 : y.kind = raskP op := Decidable.byContradiction hk2
            repeat (first | refine qS ?_ | refine xB ?_)
            exact hk _ _ ⟨⟨rfl, rfl, rfl, rfl, trivial⟩, rfl, hP, fun h => absurd h c1, fun _ => ⟨y, by show pool[a.toNat]? = some y; rw [hti]; exact hy, hk2.trans (raskP_eq c2)⟩, fun h => by have h : opd op = 3 := h; omega⟩
      have c2 : ¬ opd op = 2 := c2
      repeat (first | refine qO ?_ | refine qA ?_ | refine qG ?_ | refine qE rfl rfl ?_ | refine xD rfl rfl rfl ?_)
      refine qV rfl (fun c3 => ?_) fun c3 => ?_
      · have c3 : opd op = 3 := c3
        repeat (first | refine qO ?_ | refine qA ?_ | refine qG ?_ | refine qJ rfl rfl ?_ | refine qI rfl rfl rfl ?_ | refine qP rfl rfl rfl rfl (by assumption) rfl ?_ | refine wo_geq rfl rfl rfl ?_)
        refine qV rfl (fun hx => ?_) fun hx => ?_
        · have hx : (m.code.length : Int) ≤ a := hx
          repeat (first | refine qO ?_ | refine qA ?_ | refine qG ?_ | refine qE rfl rfl ?_)
          exact qQ rfl ⟨⟨52, rfl, bad 52 (by decide) (by decide) fun ok => by have h : a < (m.code.length : Int) := ok.2.2.2 c3; omega⟩, o15⟩
        · have hx : ¬ (m.code.length : Int) ≤ a := hx
          repeat (first | refine qS ?_ | refine xB ?_)
          exact hk _ _ ⟨⟨rfl, rfl, rfl, rfl, trivial⟩, rfl, hP, fun h => by have h : opd op = 1 := h; omega, fun h => by have h : opd op = 2 := h; omega, fun _ => by show a < (m.code.length : Int); omega⟩
      · have c3 : ¬ opd op = 3 := c3
        repeat (first | refine qS ?_ | refine xB ?_)
        exact hk _ _ ⟨⟨rfl, rfl, rfl, rfl, trivial⟩, rfl, hP, fun h => absurd h c1, fun h => absurd h c2, fun h => absurd h c3⟩
    rintro l1 A6 ⟨hl1, e6, hIns⟩
    obtain rfl : A5 = A6 := e6.symm
    refine wg_le _ ?_ hl1
    repeat (first | refine xB ?_ | refine qA ?_ | refine qJ rfl rfl ?_)
    refine wo_add rfl rfl rfl (by omega) (by omega) ?_
    repeat (first | refine qG ?_ | refine qE rfl rfl ?_)
    refine xN ?_
    refine wg_le (.put 2 (.ptr f2 0 0) (.put 3 (.ptr f3 0 0) (.put 5 (.int .i64 (m.code.length : Int)) (.put 6 (.int .i64 ((i + 1 : Nat) : Int)) .nil)))) ?_ ⟨rfl, rfl, rfl, rfl, trivial⟩
    refine ih (i + 1) A5 (by omega) ⟨(o3.same o4).same o5, hlt, fun j y hj hy => ?_⟩
    by_cases ej : j = i
    · subst ej
      rw [hx] at hy
      cases hy
      exact hIns
    · exact hpi j y (by omega) hy
  have hge : i = m.code.length := by
    have : ¬ (i : Int) < (m.code.length : Int) := hge
    omega
  have hins : ∀ x ∈ m.code, insOk pool m.locals m.code.length x := fun x hx => by
    obtain ⟨j, hj⟩ := List.getElem?_of_mem hx
    exact hpi j x (by have := (List.getElem?_eq_some_iff.1 hj).1; omega) hj
  have hlast : m.code.length - 1 < m.code.length := by omega
  obtain ⟨z, hz⟩ : ∃ z, m.code[m.code.length - 1]? = some z := ⟨m.code[m.code.length - 1], List.getElem?_eq_getElem hlast⟩
  obtain ⟨f, t, o, c, ex, ro, all, e0, hh, _, hat⟩ := row_el (cl := icl) (fun _ => rfl) hC hz
  have hnt : nth all (Nat.add (Nat.add o (Nat.mul (m.code.length - 1) 2)) 0) = some (.int .i64 z.1) := nth_take ((hat 1 0 (by decide)).trans rfl)
  refine wg_exit rfl ?_
  repeat (first | refine qO ?_ | refine qA ?_ | refine qJ rfl rfl ?_ | refine qI rfl rfl rfl ?_ | refine qP rfl rfl rfl rfl (by assumption) rfl ?_)
  refine wo_sub rfl rfl rfl (by omega) (by omega) ?_
  refine xF (m.code.length - 1) rfl (congrArg some e0) rfl rfl (by omega) hlast ?_
  repeat refine qI rfl rfl rfl ?_
  refine qP rfl rfl rfl rfl hh hnt ?_
  refine qU rfl rfl orc_cons rfl rstops_spec ?_
  rintro r A4 ⟨rfl, e4⟩
  obtain rfl : A3 = A4 := e4.symm
  repeat (first | refine qG ?_ | refine wo_not rfl rfl ?_)
  refine wg_if rfl (fun hb => ?_) fun hb => ?_
  · repeat (first | refine qO ?_ | refine qA ?_ | refine qG ?_ | refine qE rfl rfl ?_)
    refine qQ rfl ⟨⟨54, rfl, .inr ⟨by decide, by decide, fun ok => ?_⟩⟩, o13⟩
    obtain ⟨y, hy, hst⟩ := ok.2.2.1
    rw [hz] at hy
    cases hy
    exact not_of' hb hst
  have hst : stP z.1 := yes_of' hb
  have hH := hm.h.keep o13 fun _ _ h => h
  repeat (first | refine qO ?_ | refine qS ?_ | refine qA ?_ | refine qI rfl rfl rfl ?_ | refine qP rfl rfl rfl rfl (by assumption) rfl ?_)
  refine xJ rfl rfl rfl hH.lenV ?_
  repeat (first | refine qG ?_ | refine wo_gtr rfl rfl rfl ?_)
  refine qV rfl (fun c3 => ?_) fun c3 => ?_
  · have c3 : (16 : Int) < (m.hands.length : Int) := c3
    repeat (first | refine qO ?_ | refine qA ?_ | refine qG ?_ | refine qE rfl rfl ?_)
    exact qQ rfl ⟨⟨32, rfl, .inr ⟨by decide, by decide, fun ok => by have := ok.2.2.2.1; omega⟩⟩, o13⟩
  have c3 : ¬ (16 : Int) < (m.hands.length : Int) := c3
  repeat (first | refine qO ?_ | refine qS ?_ | refine qY ?_ | refine qA ?_ | refine qG ?_ | refine qE rfl rfl ?_)
  refine wg_loop ?_
  refine wg_le (.put 2 (.ptr f2 0 0) (.put 3 (.ptr f3 0 0) (.put 5 (.int .i64 (m.code.length : Int)) (.put 8 (.int .i64 ((0 : Nat) : Int)) .nil)))) ?_ ⟨rfl, rfl, rfl, rfl, trivial⟩
  refine wg_ind (ι := Nat) (fun i => m.hands.length - i) (fun i => .put 2 (.ptr f2 0 0) (.put 3 (.ptr f3 0 0) (.put 5 (.int .i64 (m.code.length : Int)) (.put 8 (.int .i64 (i : Int)) .nil))))
    (fun i A4 => Only A3 A4 none' ∧ i ≤ m.hands.length ∧ ∀ j x, j < i → m.hands[j]? = some x → haOk pool m.code.length x) ?_ 0 A3 ⟨Only.refl o13.wf _, Nat.zero_le _, fun j f h => by omega⟩
  rintro k A4 ⟨o4, hk, hpk⟩ ih2
  have o14 := o13.same o4
  have h2 := o4.keep _ _ h2 fun h => h
  have h3 := o4.keep _ _ h3 fun h => h
  have hH := hH.keep o4 fun _ _ h => h
  repeat (first | refine qO ?_ | refine qA ?_ | refine qJ rfl rfl ?_ | refine qI rfl rfl rfl ?_ | refine qP rfl rfl rfl rfl (by assumption) rfl ?_)
  refine xJ rfl rfl rfl hH.lenV ?_
  repeat (first | refine qG ?_ | refine xM rfl rfl rfl ?_)
  refine qV rfl (fun hlt => ?_) fun hge2 => ?_
  · have hlt : k < m.hands.length := Int.ofNat_lt.1 hlt
    obtain ⟨⟨lo, hi', tg, cl, de⟩, hx⟩ : ∃ x, m.hands[k]? = some x := ⟨m.hands[k], List.getElem?_eq_getElem hlt⟩
    obtain ⟨f, t, o, c, ex, ro, all, e0', hh, _, hat⟩ := row_el (cl := hac) (fun _ => rfl) hH hx
    have bad : ∀ e : Int, 30 ≤ e → e ≤ 54 → ¬ haOk pool m.code.length ⟨lo, hi', tg, cl, de⟩ → Err e (bodyOk pool m) := fun e g1 g2 g3 => .inr ⟨g1, g2, fun ok => g3 (ok.2.2.2.2 _ (List.mem_of_getElem? hx))⟩
    repeat (first | refine qO ?_ | refine qS ?_ | refine qY ?_ | refine qA ?_ | refine qJ rfl rfl ?_ | refine qI rfl rfl rfl ?_ | refine qP rfl rfl rfl rfl (by assumption) rfl ?_)
    refine xF k rfl (congrArg some e0') rfl rfl rfl hlt ?_
    refine xG (vs := hac ⟨lo, hi', tg, cl, de⟩) rfl rfl rfl rfl hh ?_ ?_
    · exact (hat 5 0 (Nat.le_refl _)).trans rfl
    refine wo_alloc rfl rfl rfl ?_
    refine qZ rfl rfl rfl rfl rfl rfl (by rw [AW.add_get, if_pos rfl]) rfl ?_
    refine wo_A (fun A5 => Only A4 A5 none' ∧ A5.heap.get A4.nxt = some (.cells 0 false 5 [.int .i64 lo, .int .i64 hi', .int .i64 tg, .int .i64 cl, .int .i64 de])) ⟨made o14.wf, by rw [AW.put_get, if_pos rfl]; rfl⟩ ?_
    rintro A5 ⟨o5, h9⟩
    generalize A4.nxt = f9 at h9
    have h2 := o5.keep _ _ h2 fun h => h
    have h3 := o5.keep _ _ h3 fun h => h
    have o15 := o14.same o5
    have hF := hp.keep o15 fun _ _ h => h
    repeat refine qG ?_
    refine wg_cut (fun l1 A6 => (Kn.put 2 (.ptr f2 0 0) (.put 3 (.ptr f3 0 0) (.put 5 (.int .i64 (m.code.length : Int)) (.put 8 (.int .i64 (k : Int)) .nil)))).le l1 ∧ A6 = A5 ∧ haOk pool m.code.length ⟨lo, hi', tg, cl, de⟩) (fun k' hk' => ?_) ?_
    · generalize hnn : m.code.length = n at bad
      repeat (first | refine qO ?_ | refine qY ?_ | refine qA ?_ | refine qJ rfl rfl ?_ | refine qI rfl rfl rfl ?_ | refine qP rfl rfl rfl rfl (by assumption) rfl ?_ | refine xM rfl rfl rfl ?_)
      by_cases c1 : lo < 0
      · refine xA 98 true rfl (decide_eq_true c1) ?_
        repeat (first | refine qO ?_ | refine qA ?_ | refine qG ?_ | refine qJ rfl rfl ?_ | refine qE rfl rfl ?_ | refine qR rfl rfl rfl ?_ | refine xE rfl rfl ?_ | refine xH rfl ?_)
        exact qQ rfl ⟨⟨52, rfl, bad 52 (by decide) (by decide) fun ok => by have h : 0 ≤ lo := ok.1.1; omega⟩, o15⟩
      refine xA 98 false rfl (decide_eq_false c1) ?_
      repeat (first | refine qJ rfl rfl ?_ | refine qI rfl rfl rfl ?_ | refine qP rfl rfl rfl rfl (by assumption) rfl ?_ | refine wo_geq rfl rfl rfl ?_ | refine qR rfl rfl rfl ?_ | refine qX rfl ?_)
      by_cases c2 : hi' ≤ lo
      · refine xA 105 true rfl (decide_eq_true c2) ?_
        repeat (first | refine qO ?_ | refine qA ?_ | refine qG ?_ | refine qJ rfl rfl ?_ | refine qE rfl rfl ?_ | refine qR rfl rfl rfl ?_ | refine xE rfl rfl ?_ | refine xH rfl ?_)
        exact qQ rfl ⟨⟨52, rfl, bad 52 (by decide) (by decide) fun ok => by have h : lo < hi' := ok.1.2.1; omega⟩, o15⟩
      refine xA 105 false rfl (decide_eq_false c2) ?_
      repeat (first | refine qJ rfl rfl ?_ | refine qI rfl rfl rfl ?_ | refine qP rfl rfl rfl rfl (by assumption) rfl ?_ | refine wo_gtr rfl rfl rfl ?_ | refine qR rfl rfl rfl ?_ | refine qX rfl ?_)
      by_cases c3 : (n : Int) < hi'
      · refine xA 111 true rfl (decide_eq_true c3) ?_
        repeat (first | refine qO ?_ | refine qA ?_ | refine qG ?_ | refine qJ rfl rfl ?_ | refine qE rfl rfl ?_ | refine qR rfl rfl rfl ?_ | refine xE rfl rfl ?_ | refine xH rfl ?_)
        exact qQ rfl ⟨⟨52, rfl, bad 52 (by decide) (by decide) fun ok => by have h : hi' ≤ (n : Int) := ok.1.2.2.1; omega⟩, o15⟩
      refine xA 111 false rfl (decide_eq_false c3) ?_
      repeat (first | refine qJ rfl rfl ?_ | refine qI rfl rfl rfl ?_ | refine qP rfl rfl rfl rfl (by assumption) rfl ?_ | refine xM rfl rfl rfl ?_ | refine qR rfl rfl rfl ?_ | refine qX rfl ?_)
      by_cases c4 : tg < 0
      · refine xA 116 true rfl (decide_eq_true c4) ?_
        repeat (first | refine qO ?_ | refine qA ?_ | refine qG ?_ | refine qE rfl rfl ?_ | refine qR rfl rfl rfl ?_ | refine xE rfl rfl ?_ | refine xH rfl ?_)
        exact qQ rfl ⟨⟨52, rfl, bad 52 (by decide) (by decide) fun ok => by have h : 0 ≤ tg := ok.1.2.2.2.1; omega⟩, o15⟩
      refine xA 116 false rfl (decide_eq_false c4) ?_
      repeat (first | refine qG ?_ | refine qJ rfl rfl ?_ | refine qE rfl rfl ?_ | refine qI rfl rfl rfl ?_ | refine qP rfl rfl rfl rfl (by assumption) rfl ?_ | refine wo_geq rfl rfl rfl ?_ | refine qR rfl rfl rfl ?_ | refine qX rfl ?_)
      refine qV rfl (fun c5 => ?_) fun c5 => ?_
      · have c5 : (n : Int) ≤ tg := c5
        repeat (first | refine qO ?_ | refine qA ?_ | refine qG ?_ | refine qE rfl rfl ?_)
        exact qQ rfl ⟨⟨52, rfl, bad 52 (by decide) (by decide) fun ok => by have h : tg < (n : Int) := ok.1.2.2.2.2; omega⟩, o15⟩
      have c5 : ¬ (n : Int) ≤ tg := c5
      have ok1 : 0 ≤ lo ∧ lo < hi' ∧ hi' ≤ (n : Int) ∧ 0 ≤ tg ∧ tg < (n : Int) := by omega
      repeat (first | refine qO ?_ | refine qA ?_ | refine qJ rfl rfl ?_ | refine qI rfl rfl rfl ?_ | refine qP rfl rfl rfl rfl (by assumption) rfl ?_ | refine xM rfl rfl rfl ?_)
      by_cases c6 : cl < -1
      · refine xA 126 true rfl (decide_eq_true c6) ?_
        repeat (first | refine qO ?_ | refine qA ?_ | refine qG ?_ | refine qJ rfl rfl ?_ | refine qE rfl rfl ?_ | refine qR rfl rfl rfl ?_ | refine xE rfl rfl ?_ | refine xH rfl ?_)
        exact qQ rfl ⟨⟨51, rfl, bad 51 (by decide) (by decide) fun ok => by have h : -1 ≤ cl := ok.2.1.1; omega⟩, o15⟩
      refine xA 126 false rfl (decide_eq_false c6) ?_
      repeat (first | refine qI rfl rfl rfl ?_ | refine qP rfl rfl rfl rfl (by assumption) rfl ?_ | refine qX rfl ?_)
      refine xJ rfl rfl rfl hF.row.lenV ?_
      repeat (first | refine qJ rfl rfl ?_ | refine wo_geq rfl rfl rfl ?_ | refine qR rfl rfl rfl ?_ | refine qX rfl ?_)
      by_cases c7 : (pool.length : Int) ≤ cl
      · refine xA 134 true rfl (decide_eq_true c7) ?_
        repeat (first | refine qO ?_ | refine qA ?_ | refine qG ?_ | refine qE rfl rfl ?_ | refine qR rfl rfl rfl ?_ | refine xE rfl rfl ?_ | refine xH rfl ?_)
        exact qQ rfl ⟨⟨51, rfl, bad 51 (by decide) (by decide) fun ok => by have h : cl < (pool.length : Int) := ok.2.1.2.1; omega⟩, o15⟩
      refine xA 134 false rfl (decide_eq_false c7) ?_
      repeat (first | refine qJ rfl rfl ?_ | refine qI rfl rfl rfl ?_ | refine qP rfl rfl rfl rfl (by assumption) rfl ?_ | refine wo_geq rfl rfl rfl ?_ | refine qX rfl ?_)
      by_cases c0 : 0 ≤ cl
      · refine xA 138 true rfl (decide_eq_true c0) ?_
        obtain ⟨i, hci⟩ : ∃ i : Nat, cl = (i : Int) := ⟨cl.toNat, by omega⟩
        have hil : i < pool.length := by omega
        have hti : cl.toNat = i := by omega
        obtain ⟨y, hy⟩ : ∃ y, pool[i]? = some y := ⟨pool[i], List.getElem?_eq_getElem hil⟩
        obtain ⟨f, t, o, c, ex, ro, all, e0, hh, _, hat⟩ := row_el (cl := coc) (fun _ => rfl) hF.row hy
        have hnt : nth all (Nat.add (Nat.add o (Nat.mul i 5)) 0) = some (.int .i64 y.kind) := nth_take ((hat 1 0 (by decide)).trans rfl)
        repeat (first | refine qI rfl rfl rfl ?_ | refine qP rfl rfl rfl rfl (by assumption) rfl ?_ | refine qX rfl ?_)
        refine xF i rfl (congrArg some e0) rfl rfl hci hil ?_
        repeat (first | refine qI rfl rfl rfl ?_ | refine qX rfl ?_)
        refine qP rfl rfl rfl rfl hh hnt ?_
        repeat (first | refine qG ?_ | refine qE rfl rfl ?_ | refine xL rfl rfl rfl ?_ | refine qR rfl rfl rfl ?_ | refine qX rfl ?_)
        refine qV rfl (fun hk2 => ?_) fun hk2 => ?_
        · have hk2 : y.kind ≠ 3 := hk2
          repeat (first | refine qO ?_ | refine qA ?_ | refine qG ?_ | refine qE rfl rfl ?_)
          refine qQ rfl ⟨⟨51, rfl, bad 51 (by decide) (by decide) fun ok => ?_⟩, o15⟩
          obtain ⟨c, hc, hck⟩ := ok.2.1.2.2 c0
          have hc : pool[cl.toNat]? = some c := hc
          rw [hti, hy] at hc
          cases hc
          exact hk2 hck
        · have hk2 : y.kind = 3 := Decidable.byContradiction hk2
          have hcl : 0 ≤ cl → ∃ c, pool[cl.toNat]? = some c ∧ c.kind = 3 := fun _ => ⟨y, by rw [hti]; exact hy, hk2⟩
          repeat (first | refine qO ?_ | refine qA ?_ | refine qJ rfl rfl ?_ | refine qI rfl rfl rfl ?_ | refine qP rfl rfl rfl rfl (by assumption) rfl ?_ | refine xM rfl rfl rfl ?_)
          by_cases c8 : de < 0
          · refine xA 153 true rfl (decide_eq_true c8) ?_
            repeat (first | refine qO ?_ | refine qA ?_ | refine qG ?_ | refine qE rfl rfl ?_ | refine qR rfl rfl rfl ?_ | refine xE rfl rfl ?_ | refine xH rfl ?_)
            exact qQ rfl ⟨⟨32, rfl, bad 32 (by decide) (by decide) fun ok => by have h : 0 ≤ de := ok.2.2.1; omega⟩, o15⟩
          refine xA 153 false rfl (decide_eq_false c8) ?_
          repeat (first | refine qG ?_ | refine qE rfl rfl ?_ | refine qI rfl rfl rfl ?_ | refine qP rfl rfl rfl rfl (by assumption) rfl ?_ | refine wo_gtr rfl rfl rfl ?_ | refine qR rfl rfl rfl ?_ | refine qX rfl ?_)
          refine qV rfl (fun c9 => ?_) fun c9 => ?_
          · have c9 : (6 : Int) < de := c9
            repeat (first | refine qO ?_ | refine qA ?_ | refine qG ?_ | refine qE rfl rfl ?_)
            exact qQ rfl ⟨⟨32, rfl, bad 32 (by decide) (by decide) fun ok => by have h : de ≤ 6 := ok.2.2.2; omega⟩, o15⟩
          · have c9 : ¬ (6 : Int) < de := c9
            repeat (first | refine qS ?_ | refine xB ?_)
            subst hnn
            refine hk' _ _ ⟨⟨rfl, rfl, rfl, rfl, trivial⟩, rfl, ok1, ⟨?_, ?_, hcl⟩, ?_, ?_⟩
            · show -1 ≤ cl
              omega
            · show cl < (pool.length : Int)
              omega
            · show 0 ≤ de
              omega
            · show de ≤ 6
              omega
      · refine xA 138 false rfl (decide_eq_false c0) ?_
        have hcl : 0 ≤ cl → ∃ c, pool[cl.toNat]? = some c ∧ c.kind = 3 := fun h => absurd h c0
        repeat (first | refine qO ?_ | refine qA ?_ | refine qG ?_ | refine qJ rfl rfl ?_ | refine qE rfl rfl ?_ | refine qI rfl rfl rfl ?_ | refine qP rfl rfl rfl rfl (by assumption) rfl ?_ | refine xM rfl rfl rfl ?_ | refine qR rfl rfl rfl ?_ | refine qX rfl ?_ | refine xE rfl rfl ?_ | refine wg_false rfl ?_)
        by_cases c8 : de < 0
        · refine xA 153 true rfl (decide_eq_true c8) ?_
          repeat (first | refine qO ?_ | refine qA ?_ | refine qG ?_ | refine qE rfl rfl ?_ | refine qR rfl rfl rfl ?_ | refine xE rfl rfl ?_ | refine xH rfl ?_)
          exact qQ rfl ⟨⟨32, rfl, bad 32 (by decide) (by decide) fun ok => by have h : 0 ≤ de := ok.2.2.1; omega⟩, o15⟩
        refine xA 153 false rfl (decide_eq_false c8) ?_
        repeat (first | refine qG ?_ | refine qE rfl rfl ?_ | refine qI rfl rfl rfl ?_ | refine qP rfl rfl rfl rfl (by assumption) rfl ?_ | refine wo_gtr rfl rfl rfl ?_ | refine qR rfl rfl rfl ?_ | refine qX rfl ?_)
        refine qV rfl (fun c9 => ?_) fun c9 => ?_
        · have c9 : (6 : Int) < de := c9
          repeat (first | refine qO ?_ | refine qA ?_ | refine qG ?_ | refine qE rfl rfl ?_)
          exact qQ rfl ⟨⟨32, rfl, bad 32 (by decide) (by decide) fun ok => by have h : de ≤ 6 := ok.2.2.2; omega⟩, o15⟩
        · have c9 : ¬ (6 : Int) < de := c9
          repeat (first | refine qS ?_ | refine xB ?_)
          subst hnn
          refine hk' _ _ ⟨⟨rfl, rfl, rfl, rfl, trivial⟩, rfl, ok1, ⟨?_, ?_, hcl⟩, ?_, ?_⟩
          · show -1 ≤ cl
            omega
          · show cl < (pool.length : Int)
            omega
          · show 0 ≤ de
            omega
          · show de ≤ 6
            omega
    rintro l1 A6 ⟨hl1, e6, hHa⟩
    obtain rfl : A5 = A6 := e6.symm
    refine wg_le _ ?_ hl1
    repeat (first | refine xB ?_ | refine qA ?_ | refine qJ rfl rfl ?_)
    refine wo_add rfl rfl rfl (by omega) (by omega) ?_
    repeat (first | refine qG ?_ | refine qE rfl rfl ?_)
    refine xN ?_
    refine wg_le (.put 2 (.ptr f2 0 0) (.put 3 (.ptr f3 0 0) (.put 5 (.int .i64 (m.code.length : Int)) (.put 8 (.int .i64 ((k + 1 : Nat) : Int)) .nil)))) ?_ ⟨rfl, rfl, rfl, rfl, trivial⟩
    refine ih2 (k + 1) A5 (by omega) ⟨o4.same o5, hlt, fun j y hj hy => ?_⟩
    by_cases ej : j = k
    · subst ej
      rw [hx] at hy
      cases hy
      exact hHa
    · exact hpk j y (by omega) hy
  · have hge2 : k = m.hands.length := by
      have : ¬ (k : Int) < (m.hands.length : Int) := hge2
      omega
    refine wg_exit rfl ?_
    repeat (first | refine qO ?_ | refine qA ?_ | refine qG ?_ | refine qE rfl rfl ?_)
    refine qQ rfl ⟨⟨0, rfl, .inl ⟨rfl, ⟨by omega, by omega⟩, hins, ⟨z, hz, hst⟩, by omega, fun x hx => ?_⟩⟩, o14⟩
    obtain ⟨j, hj⟩ := List.getElem?_of_mem hx
    exact hpk j x (by have := (List.getElem?_eq_some_iff.1 hj).1; omega) hj
end Go.Proofs.YtiecclkgjcnaoaaGreat.Ae
