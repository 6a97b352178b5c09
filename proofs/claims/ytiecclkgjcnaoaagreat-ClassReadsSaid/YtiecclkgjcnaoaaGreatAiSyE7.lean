/-
  THE DOCUMENT'S CHECK, by the rules: method.
  THE DOCUMENT'S CHECK, by the rules: Check.
-/
import Derived.Test.YtiecclkgjcnaoaaGreatAiSyE5
import Derived.Test.YtiecclkgjcnaoaaGreatAiSyD15
namespace Go.Proofs.YtiecclkgjcnaoaaGreat.Ae
open Go.AE
set_option linter.unusedVariables false
set_option maxRecDepth 100000
def shS (s : Str) : Prop := s.length < 9223372036854775807
def shM (m : MeT) : Prop := shS m.name ∧ (∀ t ∈ m.params, shS t.2) ∧ shS m.ret.2
def shC (c : ClT) : Prop := (shS c.name ∧ shS c.super) ∧ (∀ x ∈ c.pool, shS x.cls ∧ shS x.name) ∧ (∀ f ∈ c.fields, shS f.name ∧ shS f.ty.2) ∧ ∀ m ∈ c.methods, shM m
theorem any_no {ms : List MeT} {s : Str} {i : Nat} (h : ∀ j o, j < i → ms[j]? = some o → o.name ≠ s) : (ms.take i).any (fun o => decide (o.name = s)) = false := by
  cases hx : (ms.take i).any (fun o => decide (o.name = s))
  · rfl
  · obtain ⟨o, ho, hd⟩ := List.any_eq_true.1 hx
    obtain ⟨j, hj⟩ := List.getElem?_of_mem ho
    have hjl := (List.getElem?_eq_some_iff.1 hj).1
    rw [List.length_take] at hjl
    rw [List.getElem?_take_of_lt (by omega)] at hj
    exact absurd (of_decide_eq_true hd) (h j o (by omega) hj)
set_option maxHeartbeats 4000000 in
theorem rmeth_spec {K : FuncId} {A : AW} {n0 : Nat} {c : ClT} {pv fv mv : AV} {i : Nat} {m : MeT} (hw : Wf A) (h : ClR A n0 c pv fv mv) (hl1 : c.pool.length < 1000000) (hm : c.methods[i]? = some m) (hi : i < 1000000) (hsh : shM m) :
    CallP (ES K) 114 [.agg (clc c.name c.super pv fv mv), .int .i64 (i : Int)] A fun r A1 => (∃ e, r = .int .i64 e ∧ Err e (methOk c.pool (c.methods.take i) m)) ∧ Only A A1 none' := by
  have hil := (List.getElem?_eq_some_iff.1 hm).1
  refine call_of rfl rfl rfl ?_
  unfold clc
  repeat (first | refine qO ?_ | refine qA ?_)
  refine wo_box rfl rfl rfl rfl ?_
  refine wo_A (fun A1 => Only A A1 none' ∧ A1.heap.get A.nxt = some (.cells 0 false 5 [.str c.name, .str c.super, pv, fv, mv])) ⟨Only.add hw _, by rw [AW.add_get, if_pos rfl]; rfl⟩ ?_
  rintro A1 ⟨o1, h2⟩
  generalize A.nxt = f2 at h2
  have H := h.keep o1
  obtain ⟨cs, hM, hML⟩ := H.m
  obtain ⟨qv, cv, hv, hmr, hel⟩ := meL_at hML hm
  obtain ⟨f, t, o, cc, ex, ro, all, e0, hh, hat⟩ := hM.row.at hil
  repeat (first | refine qO ?_ | refine qA ?_ | refine qG ?_ | refine qJ rfl rfl ?_ | refine qE rfl rfl ?_ | refine qI rfl rfl rfl ?_ | refine qP rfl rfl rfl rfl (by assumption) rfl ?_)
  refine xF i rfl (congrArg some e0) rfl rfl rfl hil ?_
  refine xG (vs := mec m qv cv hv) rfl rfl rfl rfl hh ?_ ?_
  · exact (hat 8 0 (Nat.le_refl _)).trans ((hel 8 0 (Nat.le_refl _)).trans rfl)
  refine wo_alloc rfl rfl rfl ?_
  refine qZ rfl rfl rfl rfl rfl rfl (by rw [AW.add_get, if_pos rfl]) rfl ?_
  refine wo_A (fun A2 => Only A1 A2 none' ∧ A2.heap.get A1.nxt = some (.cells 0 false 8 (mec m qv cv hv))) ⟨made o1.wf, by rw [AW.put_get, if_pos rfl]; rfl⟩ ?_
  rintro A2 ⟨o2, h5⟩
  generalize A1.nxt = f5 at h5
  have h2 := o2.keep _ _ h2 fun h => h
  have o12 := o1.same o2
  have hmr := hmr.keep o2 fun _ h => h.elim
  have h5' := h5
  unfold mec at h5'
  repeat (first | refine qO ?_ | refine qA ?_ | refine qG ?_ | refine qI rfl rfl rfl ?_ | refine qP rfl rfl rfl rfl (by assumption) rfl ?_)
  refine qU rfl rfl orc_cons rfl (rname_spec hsh.1) ?_
  rintro r A3 ⟨rfl, e3⟩
  obtain rfl : A2 = A3 := e3.symm
  repeat (first | refine qG ?_ | refine wo_not rfl rfl ?_)
  refine wg_if rfl (fun hb => ?_) fun hb => ?_
  · repeat (first | refine qO ?_ | refine qA ?_ | refine qG ?_ | refine qE rfl rfl ?_)
    exact qQ rfl ⟨⟨50, rfl, .inr ⟨by decide, by decide, fun ok => not_of hb ok.1⟩⟩, o12⟩
  have hn := yes_of hb
  repeat (first | refine qO ?_ | refine qS ?_ | refine qA ?_ | refine qI rfl rfl rfl ?_ | refine qP rfl rfl rfl rfl (by assumption) rfl ?_)
  refine xJ rfl rfl rfl hmr.p.lenV ?_
  repeat (first | refine qG ?_ | refine wo_gtr rfl rfl rfl ?_)
  refine qV rfl (fun c6 => ?_) fun c6 => ?_
  · have c6 : (6 : Int) < (m.params.length : Int) := c6
    repeat (first | refine qO ?_ | refine qA ?_ | refine qG ?_ | refine qE rfl rfl ?_)
    exact qQ rfl ⟨⟨32, rfl, .inr ⟨by decide, by decide, fun ok => by have := ok.2.1; omega⟩⟩, o12⟩
  have c6 : ¬ (6 : Int) < (m.params.length : Int) := c6
  repeat (first | refine qO ?_ | refine qS ?_ | refine qY ?_ | refine qA ?_ | refine qG ?_ | refine qE rfl rfl ?_)
  refine wg_loop ?_
  refine wg_le (.put 1 (.int .i64 (i : Int)) (.put 2 (.ptr f2 0 0) (.put 5 (.ptr f5 0 0) (.put 6 (.int .i64 ((0 : Nat) : Int)) .nil)))) ?_ ⟨rfl, rfl, rfl, rfl, trivial⟩
  refine wg_ind (ι := Nat) (fun j => m.params.length - j) (fun j => .put 1 (.int .i64 (i : Int)) (.put 2 (.ptr f2 0 0) (.put 5 (.ptr f5 0 0) (.put 6 (.int .i64 (j : Int)) .nil)))) (fun j A3 => Only A2 A3 none' ∧ j ≤ m.params.length ∧ ∀ k x, k < j → m.params[k]? = some x → tyOk false x) ?_ 0 A2 ⟨Only.refl o12.wf _, Nat.zero_le _, fun k x h => by omega⟩
  rintro j A3 ⟨o3, hj, hpj⟩ ih
  have o13 := o12.same o3
  have h2 := o3.keep _ _ h2 fun h => h
  have h5 := o3.keep _ _ h5 fun h => h
  have h5' := h5
  unfold mec at h5'
  have hP := hmr.p.keep o3 fun _ _ h => h
  repeat (first | refine qO ?_ | refine qA ?_ | refine qJ rfl rfl ?_ | refine qI rfl rfl rfl ?_ | refine qP rfl rfl rfl rfl (by assumption) rfl ?_)
  refine xJ rfl rfl rfl hP.lenV ?_
  repeat (first | refine qG ?_ | refine xM rfl rfl rfl ?_)
  refine qV rfl (fun hlt => ?_) fun hge => ?_
  · have hlt : j < m.params.length := Int.ofNat_lt.1 hlt
    obtain ⟨x, hx⟩ : ∃ x, m.params[j]? = some x := ⟨m.params[j], List.getElem?_eq_getElem hlt⟩
    obtain ⟨f, t, o, cc, ex, ro, all, e0, hh, _, hat⟩ := row_el (cl := tyc) (fun _ => rfl) hP hx
    repeat (first | refine qO ?_ | refine qS ?_ | refine qY ?_ | refine qA ?_ | refine qJ rfl rfl ?_ | refine qI rfl rfl rfl ?_ | refine qP rfl rfl rfl rfl (by assumption) rfl ?_)
    refine xF j rfl (congrArg some e0) rfl rfl rfl hlt ?_
    refine xG (vs := tyc x) rfl rfl rfl rfl hh ?_ ?_
    · exact (hat 2 0 (Nat.le_refl _)).trans rfl
    refine qU rfl rfl orc_cons rfl (ristype_spec (t := x) (void := false) o13.wf (hsh.2.1 x (List.mem_of_getElem? hx))) ?_
    rintro r A4 ⟨rfl, o4⟩
    repeat (first | refine qG ?_ | refine wo_not rfl rfl ?_)
    refine wg_if rfl (fun hb => ?_) fun hb => ?_
    · repeat (first | refine qO ?_ | refine qA ?_ | refine qG ?_ | refine qE rfl rfl ?_)
      exact qQ rfl ⟨⟨50, rfl, .inr ⟨by decide, by decide, fun ok => not_of hb (ok.2.2.1 x (List.mem_of_getElem? hx))⟩⟩, o13.same o4⟩
    · have ht := yes_of hb
      repeat (first | refine qS ?_ | refine xB ?_ | refine qA ?_ | refine qJ rfl rfl ?_)
      refine wo_add rfl rfl rfl (by omega) (by omega) ?_
      repeat (first | refine qG ?_ | refine qE rfl rfl ?_)
      refine xN ?_
      refine wg_le (.put 1 (.int .i64 (i : Int)) (.put 2 (.ptr f2 0 0) (.put 5 (.ptr f5 0 0) (.put 6 (.int .i64 ((j + 1 : Nat) : Int)) .nil)))) ?_ ⟨rfl, rfl, rfl, rfl, trivial⟩
      refine ih (j + 1) A4 (by omega) ⟨o3.same o4, hlt, fun k y hk hy => ?_⟩
      by_cases ej : k = j
      · subst ej
        rw [hx] at hy
        cases hy
        exact ht
      · exact hpj k y (by omega) hy
  have hge : j = m.params.length := by
    have : ¬ (j : Int) < (m.params.length : Int) := hge
    omega
  have hps : ∀ x ∈ m.params, tyOk false x := fun x hx => by
    obtain ⟨k, hk⟩ := List.getElem?_of_mem hx
    exact hpj k x (by have := (List.getElem?_eq_some_iff.1 hk).1; omega) hk
  refine wg_exit rfl ?_
  repeat (first | refine qO ?_ | refine qA ?_ | refine qI rfl rfl rfl ?_)
  refine xG (vs := tyc m.ret) rfl rfl rfl rfl h5 rfl ?_
  refine qU rfl rfl orc_cons rfl (ristype_spec (t := m.ret) (void := true) o13.wf hsh.2.2) ?_
  rintro r A4 ⟨rfl, o4⟩
  have o14 := o13.same o4
  have h2 := o4.keep _ _ h2 fun h => h
  have h5 := o4.keep _ _ h5 fun h => h
  have h5' := h5
  unfold mec at h5'
  repeat (first | refine qG ?_ | refine wo_not rfl rfl ?_)
  refine wg_if rfl (fun hb3 => ?_) fun hb3 => ?_
  · repeat (first | refine qO ?_ | refine qA ?_ | refine qG ?_ | refine qE rfl rfl ?_)
    exact qQ rfl ⟨⟨50, rfl, .inr ⟨by decide, by decide, fun ok => not_of hb3 ok.2.2.2.1⟩⟩, o14⟩
  have hret := yes_of hb3
  have H4 := h.keep o14
  obtain ⟨cs4, hM4, hML4⟩ := H4.m
  repeat (first | refine qO ?_ | refine qS ?_ | refine qY ?_ | refine qA ?_ | refine qG ?_ | refine qE rfl rfl ?_)
  refine wg_loop ?_
  refine wg_le (.put 1 (.int .i64 (i : Int)) (.put 2 (.ptr f2 0 0) (.put 5 (.ptr f5 0 0) (.put 7 (.int .i64 ((0 : Nat) : Int)) .nil)))) ?_ ⟨rfl, rfl, rfl, rfl, trivial⟩
  refine wg_ind (ι := Nat) (fun j => i - j) (fun j => .put 1 (.int .i64 (i : Int)) (.put 2 (.ptr f2 0 0) (.put 5 (.ptr f5 0 0) (.put 7 (.int .i64 (j : Int)) .nil)))) (fun j A5 => A5 = A4 ∧ j ≤ i ∧ ∀ k x, k < j → c.methods[k]? = some x → x.name ≠ m.name) ?_ 0 A4 ⟨rfl, Nat.zero_le _, fun k x h => by omega⟩
  rintro k A5 ⟨e5, hk, hpk⟩ ih2
  obtain rfl : A4 = A5 := e5.symm
  repeat (first | refine qO ?_ | refine qA ?_ | refine qG ?_ | refine qJ rfl rfl ?_ | refine xM rfl rfl rfl ?_)
  refine qV rfl (fun hlt => ?_) fun hge2 => ?_
  · have hlt : k < i := Int.ofNat_lt.1 hlt
    have hkl : k < c.methods.length := by omega
    obtain ⟨x, hx⟩ : ∃ x, c.methods[k]? = some x := ⟨c.methods[k], List.getElem?_eq_getElem hkl⟩
    obtain ⟨qv', cv', hv', _, hel'⟩ := meL_at hML4 hx
    obtain ⟨f, t, o, cc, ex, ro, all, e0, hh, hat⟩ := hM4.row.at hkl
    have hnt : nth all (Nat.add (Nat.add o (Nat.mul k 8)) 0) = some (.str x.name) := nth_take ((hat 1 0 (by decide)).trans ((hel' 1 0 (by decide)).trans rfl))
    repeat (first | refine qO ?_ | refine qS ?_ | refine qY ?_)
    refine wg_draw rfl ?_
    repeat (first
      | (refine xC rfl rfl rfl rfl rfl ?_
         repeat (first | refine qG ?_ | refine qJ rfl rfl ?_ | refine qI rfl rfl rfl ?_)
         refine ⟨rfl, ?_⟩)
      | (refine xI rfl rfl rfl rfl rfl rfl rfl ?_
         repeat (first | refine qG ?_ | refine qP rfl rfl rfl rfl (by assumption) rfl ?_)
         refine ⟨rfl, _, rfl, ?_⟩))
    refine xC rfl rfl rfl rfl rfl ?_
    refine xF k rfl (congrArg some e0) rfl rfl rfl hkl ?_
    repeat refine qG ?_
    refine ⟨rfl, ?_⟩
    repeat (first
      | (refine xC rfl rfl rfl rfl rfl ?_
         repeat (first | refine qG ?_ | refine qI rfl rfl rfl ?_)
         refine ⟨rfl, ?_⟩))
    refine xI rfl rfl rfl rfl rfl rfl rfl ?_
    refine qP rfl rfl rfl rfl hh hnt ?_
    repeat refine qG ?_
    refine ⟨rfl, _, rfl, ?_⟩
    repeat (first
      | (refine xC rfl rfl rfl rfl rfl ?_
         repeat (first | refine qG ?_ | refine qI rfl rfl rfl ?_ | refine wo_strEq rfl rfl rfl ?_)
         refine ⟨rfl, ?_⟩)
      | (refine xI rfl rfl rfl rfl rfl rfl rfl ?_
         repeat (first | refine qG ?_ | refine qP rfl rfl rfl rfl (by assumption) rfl ?_)
         refine ⟨rfl, _, rfl, ?_⟩))
    refine wd_nil ?_
    refine qV rfl (fun he => ?_) fun he => ?_
    · have he : x.name = m.name := he
      repeat (first | refine qO ?_ | refine qA ?_ | refine qG ?_ | refine qE rfl rfl ?_)
      refine qQ rfl ⟨⟨53, rfl, .inr ⟨by decide, by decide, fun ok => ?_⟩⟩, o14⟩
      have h1 : (c.methods.take i).any (fun o => decide (o.name = m.name)) = true := List.any_eq_true.2 ⟨x, List.mem_of_getElem? (by rw [List.getElem?_take_of_lt hlt]; exact hx), decide_eq_true he⟩
      rw [ok.2.2.2.2.1] at h1
      cases h1
    · have he : ¬ x.name = m.name := he
      repeat (first | refine qS ?_ | refine xB ?_ | refine qA ?_ | refine qJ rfl rfl ?_)
      refine wo_add rfl rfl rfl (by omega) (by omega) ?_
      repeat (first | refine qG ?_ | refine qE rfl rfl ?_)
      refine xN ?_
      refine wg_le (.put 1 (.int .i64 (i : Int)) (.put 2 (.ptr f2 0 0) (.put 5 (.ptr f5 0 0) (.put 7 (.int .i64 ((k + 1 : Nat) : Int)) .nil)))) ?_ ⟨rfl, rfl, rfl, rfl, trivial⟩
      refine ih2 (k + 1) A4 (by omega) ⟨rfl, hlt, fun q y hq hy => ?_⟩
      by_cases ej : q = k
      · subst ej
        rw [hx] at hy
        cases hy
        exact he
      · exact hpk q y (by omega) hy
  have hge2 : k = i := by
    have : ¬ (k : Int) < (i : Int) := hge2
    omega
  have hany := any_no (s := m.name) (i := i) fun q y hq hy => hpk q y (by omega) hy
  have hP4 := hP.keep o4 fun _ _ h => h
  refine wg_exit rfl ?_
  repeat (first | refine qO ?_ | refine qA ?_ | refine qI rfl rfl rfl ?_ | refine qP rfl rfl rfl rfl (by assumption) rfl ?_)
  refine xJ rfl rfl rfl hP4.lenV ?_
  refine wo_add rfl rfl rfl (by omega) (by omega) ?_
  repeat (first | refine qJ rfl rfl ?_ | refine xM rfl rfl rfl ?_)
  by_cases c7 : m.locals < 1 + (m.params.length : Int)
  · refine xA 60 true rfl (decide_eq_true c7) ?_
    repeat (first | refine qO ?_ | refine qA ?_ | refine qG ?_ | refine qJ rfl rfl ?_ | refine qE rfl rfl ?_ | refine qR rfl rfl rfl ?_ | refine xE rfl rfl ?_ | refine xH rfl ?_)
    exact qQ rfl ⟨⟨32, rfl, .inr ⟨by decide, by decide, fun ok => by have := ok.2.2.2.2.2.1.1; omega⟩⟩, o14⟩
  refine xA 60 false rfl (decide_eq_false c7) ?_
  repeat (first | refine qJ rfl rfl ?_ | refine qI rfl rfl rfl ?_ | refine qP rfl rfl rfl rfl (by assumption) rfl ?_ | refine wo_gtr rfl rfl rfl ?_ | refine qR rfl rfl rfl ?_ | refine qX rfl ?_)
  by_cases c8 : (32 : Int) < m.locals
  · refine xA 65 true rfl (decide_eq_true c8) ?_
    repeat (first | refine qO ?_ | refine qA ?_ | refine qG ?_ | refine qJ rfl rfl ?_ | refine qE rfl rfl ?_ | refine qR rfl rfl rfl ?_ | refine xE rfl rfl ?_ | refine xH rfl ?_)
    exact qQ rfl ⟨⟨32, rfl, .inr ⟨by decide, by decide, fun ok => by have := ok.2.2.2.2.2.1.2; omega⟩⟩, o14⟩
  refine xA 65 false rfl (decide_eq_false c8) ?_
  repeat (first | refine qJ rfl rfl ?_ | refine qI rfl rfl rfl ?_ | refine qP rfl rfl rfl rfl (by assumption) rfl ?_ | refine xM rfl rfl rfl ?_ | refine qR rfl rfl rfl ?_ | refine qX rfl ?_)
  by_cases c9 : m.stack < 0
  · refine xA 70 true rfl (decide_eq_true c9) ?_
    repeat (first | refine qO ?_ | refine qA ?_ | refine qG ?_ | refine qE rfl rfl ?_ | refine qR rfl rfl rfl ?_ | refine xE rfl rfl ?_ | refine xH rfl ?_)
    exact qQ rfl ⟨⟨32, rfl, .inr ⟨by decide, by decide, fun ok => by have := ok.2.2.2.2.2.2.1.1; omega⟩⟩, o14⟩
  refine xA 70 false rfl (decide_eq_false c9) ?_
  repeat (first | refine qG ?_ | refine qI rfl rfl rfl ?_ | refine qP rfl rfl rfl rfl (by assumption) rfl ?_ | refine wo_gtr rfl rfl rfl ?_ | refine qR rfl rfl rfl ?_ | refine qX rfl ?_)
  refine qV rfl (fun c10 => ?_) fun c10 => ?_
  · have c10 : (64 : Int) < m.stack := c10
    repeat (first | refine qO ?_ | refine qA ?_ | refine qG ?_ | refine qE rfl rfl ?_)
    exact qQ rfl ⟨⟨32, rfl, .inr ⟨by decide, by decide, fun ok => by have := ok.2.2.2.2.2.2.1.2; omega⟩⟩, o14⟩
  have c10 : ¬ (64 : Int) < m.stack := c10
  repeat (first | refine qO ?_ | refine qS ?_ | refine qA ?_)
  refine xG (vs := clc c.name c.super pv fv mv) rfl rfl rfl rfl h2 rfl ?_
  refine xG (vs := mec m qv cv hv) rfl rfl rfl rfl h5 rfl ?_
  refine qU rfl rfl orc_cons rfl (rcode_spec o14.wf H4.p (hmr.keep (o3.same o4) fun _ h => h.elim) hl1) ?_
  rintro r A6 ⟨⟨e, rfl, he⟩, o6⟩
  repeat (first | refine qG ?_ | refine qE rfl rfl ?_)
  refine qQ rfl ⟨⟨e, rfl, ?_⟩, o14.same o6⟩
  rcases he with ⟨h0, hB⟩ | ⟨h1, h2, hB⟩
  · exact .inl ⟨h0, hn, by omega, hps, hret, hany, ⟨by omega, by omega⟩, ⟨by omega, by omega⟩, hB⟩
  · exact .inr ⟨h1, h2, fun ok => hB ok.2.2.2.2.2.2.2⟩
end Go.Proofs.YtiecclkgjcnaoaaGreat.Ae
namespace Go.Proofs.YtiecclkgjcnaoaaGreat.Ae
open Go.AE
set_option linter.unusedVariables false
set_option maxRecDepth 100000
theorem any_noF {ms : List FiT} {s : Str} {i : Nat} (h : ∀ j o, j < i → ms[j]? = some o → o.name ≠ s) : (ms.take i).any (fun o => decide (o.name = s)) = false := by
  cases hx : (ms.take i).any (fun o => decide (o.name = s))
  · rfl
  · obtain ⟨o, ho, hd⟩ := List.any_eq_true.1 hx
    obtain ⟨j, hj⟩ := List.getElem?_of_mem ho
    have hjl := (List.getElem?_eq_some_iff.1 hj).1
    rw [List.length_take] at hjl
    rw [List.getElem?_take_of_lt (by omega)] at hj
    exact absurd (of_decide_eq_true hd) (h j o (by omega) hj)
set_option maxHeartbeats 4000000 in
theorem rcheck_spec {K : FuncId} {A : AW} {n0 : Nat} {c : ClT} {pv fv mv : AV} (hw : Wf A) (h : ClR A n0 c pv fv mv) (hl1 : c.pool.length < 1000000) (hsh : shC c) :
    CallP (ES K) 77 [.agg (clc c.name c.super pv fv mv)] A fun r A1 => (∃ e, r = .int .i64 e ∧ Err e (clsOk c)) ∧ Only A A1 none' := by
  refine call_of rfl rfl rfl ?_
  unfold clc
  repeat (first | refine qO ?_ | refine qA ?_)
  refine wo_box rfl rfl rfl rfl ?_
  refine wo_A (fun A1 => Only A A1 none' ∧ A1.heap.get A.nxt = some (.cells 0 false 5 [.str c.name, .str c.super, pv, fv, mv])) ⟨Only.add hw _, by rw [AW.add_get, if_pos rfl]; rfl⟩ ?_
  rintro A1 ⟨o1, h1⟩
  generalize A.nxt = f1 at h1
  repeat (first | refine qG ?_ | refine qE rfl rfl ?_)
  repeat refine qO ?_
  refine wg_cut (fun l1 A2 => (Kn.put 1 (.ptr f1 0 0) (.put 23 (.bool (decide (¬ (isN c.name ∧ (c.super = [] ∨ isN c.super))))) .nil)).le l1 ∧ A2 = A1) (fun k' hk => ?_) ?_
  · repeat (first | refine qA ?_ | refine qI rfl rfl rfl ?_ | refine qP rfl rfl rfl rfl (by assumption) rfl ?_)
    refine qU rfl rfl orc_cons rfl (rname_spec hsh.1.1) ?_
    rintro r A2 ⟨rfl, e2⟩
    obtain rfl : A1 = A2 := e2.symm
    repeat (first | refine qJ rfl rfl ?_ | refine wo_not rfl rfl ?_)
    by_cases hn : ¬ isN c.name
    · refine xA 13 true rfl (by rw [decide_eq_false hn]; rfl) ?_
      repeat (first | refine qG ?_ | refine qR rfl rfl rfl ?_ | refine xE rfl rfl ?_)
      exact hk _ _ ⟨⟨rfl, congrArg (fun x => some (AV.bool x)) (decide_eq_true (p := ¬ (isN c.name ∧ (c.super = [] ∨ isN c.super))) fun h => hn h.1).symm, trivial⟩, rfl⟩
    have hn : isN c.name := Decidable.byContradiction hn
    refine xA 13 false rfl (by rw [decide_eq_true hn]; rfl) ?_
    repeat (first | refine qJ rfl rfl ?_ | refine qI rfl rfl rfl ?_ | refine qP rfl rfl rfl rfl (by assumption) rfl ?_ | refine wo_strNe rfl rfl rfl ?_ | refine qX rfl ?_)
    by_cases c0 : c.super ≠ []
    · refine xA 17 true rfl (decide_eq_true c0) ?_
      repeat (first | refine qI rfl rfl rfl ?_ | refine qP rfl rfl rfl rfl (by assumption) rfl ?_ | refine qX rfl ?_)
      refine qU rfl rfl orc_cons rfl (rname_spec hsh.1.2) ?_
      rintro r A2 ⟨rfl, e2⟩
      obtain rfl : A1 = A2 := e2.symm
      repeat (first | refine qG ?_ | refine wo_not rfl rfl ?_ | refine qR rfl rfl rfl ?_ | refine qX rfl ?_)
      have e0 : (!decide (isN c.super)) = decide (¬ (isN c.name ∧ (c.super = [] ∨ isN c.super))) := by
        by_cases hs : isN c.super
        · rw [decide_eq_true hs, decide_eq_false (p := ¬ (isN c.name ∧ (c.super = [] ∨ isN c.super))) fun h => h ⟨hn, .inr hs⟩]
          rfl
        · rw [decide_eq_false hs, decide_eq_true (p := ¬ (isN c.name ∧ (c.super = [] ∨ isN c.super))) fun h => hs (h.2.resolve_left c0)]
          rfl
      exact hk _ _ ⟨⟨rfl, congrArg (fun x => some (AV.bool x)) e0, trivial⟩, rfl⟩
    · refine xA 17 false rfl (decide_eq_false c0) ?_
      repeat (first | refine qG ?_ | refine qR rfl rfl rfl ?_ | refine qX rfl ?_ | refine xE rfl rfl ?_)
      exact hk _ _ ⟨⟨rfl, congrArg (fun x => some (AV.bool x)) (decide_eq_false (p := ¬ (isN c.name ∧ (c.super = [] ∨ isN c.super))) fun h => h ⟨hn, .inl (Decidable.byContradiction c0)⟩).symm, trivial⟩, rfl⟩
  rintro l1 A2 ⟨hl, e2⟩
  obtain rfl : A1 = A2 := e2.symm
  refine wg_le _ ?_ hl
  refine qV rfl (fun hbad => ?_) fun hbad => ?_
  · repeat (first | refine qO ?_ | refine qA ?_ | refine qG ?_ | refine qE rfl rfl ?_)
    exact qQ rfl ⟨⟨50, rfl, .inr ⟨by decide, by decide, fun ok => hbad ⟨ok.1, ok.2.1⟩⟩⟩, o1⟩
  have hname : isN c.name ∧ (c.super = [] ∨ isN c.super) := Decidable.byContradiction hbad
  have H := h.keep o1
  repeat (first | refine qO ?_ | refine qS ?_ | refine qA ?_ | refine qI rfl rfl rfl ?_ | refine qP rfl rfl rfl rfl (by assumption) rfl ?_)
  refine xJ rfl rfl rfl H.p.row.lenV ?_
  repeat (first | refine qG ?_ | refine wo_gtr rfl rfl rfl ?_)
  refine qV rfl (fun c1 => ?_) fun c1 => ?_
  · have c1 : (128 : Int) < (c.pool.length : Int) := c1
    repeat (first | refine qO ?_ | refine qA ?_ | refine qG ?_ | refine qE rfl rfl ?_)
    exact qQ rfl ⟨⟨32, rfl, .inr ⟨by decide, by decide, fun ok => by have := ok.2.2.1; omega⟩⟩, o1⟩
  have c1 : ¬ (128 : Int) < (c.pool.length : Int) := c1
  repeat (first | refine qO ?_ | refine qS ?_ | refine qY ?_ | refine qA ?_ | refine qG ?_ | refine qE rfl rfl ?_)
  refine wg_loop ?_
  refine wg_le (.put 1 (.ptr f1 0 0) (.put 3 (.int .i64 ((0 : Nat) : Int)) .nil)) ?_ ⟨rfl, rfl, trivial⟩
  refine wg_ind (ι := Nat) (fun i => c.pool.length - i) (fun i => .put 1 (.ptr f1 0 0) (.put 3 (.int .i64 (i : Int)) .nil))
    (fun i A3 => Only A1 A3 none' ∧ i ≤ c.pool.length ∧ ∀ j x, j < i → c.pool[j]? = some x → coOk x) ?_ 0 A1 ⟨Only.refl o1.wf _, Nat.zero_le _, fun j f h => by omega⟩
  rintro i A3 ⟨o3, hi, hpi⟩ ih
  have o13 := o1.same o3
  have h1 := o3.keep _ _ h1 fun h => h
  have H := H.keep o3
  repeat (first | refine qO ?_ | refine qA ?_ | refine qJ rfl rfl ?_ | refine qI rfl rfl rfl ?_ | refine qP rfl rfl rfl rfl (by assumption) rfl ?_)
  refine xJ rfl rfl rfl H.p.row.lenV ?_
  repeat (first | refine qG ?_ | refine xM rfl rfl rfl ?_)
  refine qV rfl (fun hlt => ?_) fun hge => ?_
  · have hlt : i < c.pool.length := Int.ofNat_lt.1 hlt
    obtain ⟨x, hx⟩ : ∃ x, c.pool[i]? = some x := ⟨c.pool[i], List.getElem?_eq_getElem hlt⟩
    have hsx := hsh.2.1 x (List.mem_of_getElem? hx)
    obtain ⟨f, t, o, cc, ex, ro, all, e0, hh, _, hat⟩ := row_el (cl := coc) (fun _ => rfl) H.p.row hx
    repeat (first | refine qO ?_ | refine qS ?_ | refine qY ?_ | refine qA ?_ | refine qJ rfl rfl ?_ | refine qI rfl rfl rfl ?_ | refine qP rfl rfl rfl rfl (by assumption) rfl ?_)
    refine xF i rfl (congrArg some e0) rfl rfl rfl hlt ?_
    refine xG (vs := coc x) rfl rfl rfl rfl hh ?_ ?_
    · exact (hat 5 0 (Nat.le_refl _)).trans rfl
    refine qU rfl rfl orc_cons rfl (rconstant_spec (c := x) o13.wf hsx.1 hsx.2) ?_
    rintro r A5 ⟨⟨e, rfl, he⟩, o5⟩
    have o15 := o13.same o5
    repeat (first | refine qO ?_ | refine qA ?_ | refine qG ?_ | refine qJ rfl rfl ?_ | refine qE rfl rfl ?_ | refine xL rfl rfl rfl ?_)
    refine qV rfl (fun hne => ?_) fun hz => ?_
    · repeat (first | refine qO ?_ | refine qA ?_ | refine qG ?_ | refine qJ rfl rfl ?_ | refine qE rfl rfl ?_)
      exact qQ rfl ⟨⟨e, rfl, he.of hne fun ok => ok.2.2.2.1 x (List.mem_of_getElem? hx)⟩, o15⟩
    · have hz : e = 0 := Decidable.byContradiction hz
      repeat (first | refine qS ?_ | refine xB ?_ | refine qA ?_ | refine qJ rfl rfl ?_)
      refine wo_add rfl rfl rfl (by omega) (by omega) ?_
      repeat (first | refine qG ?_ | refine qE rfl rfl ?_)
      refine xN ?_
      refine wg_le (.put 1 (.ptr f1 0 0) (.put 3 (.int .i64 ((i + 1 : Nat) : Int)) .nil)) ?_ ⟨rfl, rfl, trivial⟩
      refine ih (i + 1) A5 (by omega) ⟨o3.same o5, hlt, fun j y hj hy => ?_⟩
      by_cases ej : j = i
      · subst ej
        rw [hx] at hy
        cases hy
        exact he.ok hz
      · exact hpi j y (by omega) hy
  have hge : i = c.pool.length := by
    have : ¬ (i : Int) < (c.pool.length : Int) := hge
    omega
  have hco : ∀ x ∈ c.pool, coOk x := fun x hx => by
    obtain ⟨j, hj⟩ := List.getElem?_of_mem hx
    exact hpi j x (by have := (List.getElem?_eq_some_iff.1 hj).1; omega) hj
  refine wg_exit rfl ?_
  repeat (first | refine qO ?_ | refine qA ?_ | refine qI rfl rfl rfl ?_ | refine qP rfl rfl rfl rfl (by assumption) rfl ?_)
  refine xJ rfl rfl rfl H.f.row.lenV ?_
  repeat (first | refine qG ?_ | refine wo_gtr rfl rfl rfl ?_)
  refine qV rfl (fun c8 => ?_) fun c8 => ?_
  · have c8 : (8 : Int) < (c.fields.length : Int) := c8
    repeat (first | refine qO ?_ | refine qA ?_ | refine qG ?_ | refine qE rfl rfl ?_)
    exact qQ rfl ⟨⟨32, rfl, .inr ⟨by decide, by decide, fun ok => by have := ok.2.2.2.2.1.1; omega⟩⟩, o13⟩
  have c8 : ¬ (8 : Int) < (c.fields.length : Int) := c8
  repeat (first | refine qO ?_ | refine qS ?_ | refine qY ?_ | refine qA ?_ | refine qG ?_ | refine qE rfl rfl ?_)
  refine wg_loop ?_
  refine wg_le (.put 1 (.ptr f1 0 0) (.put 5 (.int .i64 ((0 : Nat) : Int)) .nil)) ?_ ⟨rfl, rfl, trivial⟩
  refine wg_ind (ι := Nat) (fun i => c.fields.length - i) (fun i => .put 1 (.ptr f1 0 0) (.put 5 (.int .i64 (i : Int)) .nil))
    (fun i A4 => Only A3 A4 none' ∧ i ≤ c.fields.length ∧ ∀ j x, j < i → c.fields[j]? = some x → fiOk (c.fields.take j) x) ?_ 0 A3 ⟨Only.refl o13.wf _, Nat.zero_le _, fun j f h => by omega⟩
  rintro q A4 ⟨o4, hq, hpq⟩ ih3
  have o14 := o13.same o4
  have h1 := o4.keep _ _ h1 fun h => h
  have H := H.keep o4
  repeat (first | refine qO ?_ | refine qA ?_ | refine qJ rfl rfl ?_ | refine qI rfl rfl rfl ?_ | refine qP rfl rfl rfl rfl (by assumption) rfl ?_)
  refine xJ rfl rfl rfl H.f.row.lenV ?_
  repeat (first | refine qG ?_ | refine xM rfl rfl rfl ?_)
  refine qV rfl (fun hlt => ?_) fun hgef => ?_
  · have hlt : q < c.fields.length := Int.ofNat_lt.1 hlt
    obtain ⟨x, hx⟩ : ∃ x, c.fields[q]? = some x := ⟨c.fields[q], List.getElem?_eq_getElem hlt⟩
    have hsx := hsh.2.2.1 x (List.mem_of_getElem? hx)
    obtain ⟨f, t, o, cc, ex, ro, all, e0, hh, _, hat⟩ := row_el (cl := fic) (fun _ => rfl) H.f.row hx
    have hnt : nth all (Nat.add (Nat.add o (Nat.mul q 4)) 0) = some (.str x.name) := nth_take ((hat 1 0 (by decide)).trans rfl)
    have bad : ∀ e : Int, 30 ≤ e → e ≤ 54 → ¬ fiOk (c.fields.take q) x → Err e (clsOk c) := fun e g1 g2 g3 => .inr ⟨g1, g2, fun ok => g3 (ok.2.2.2.2.1.2 q x hx)⟩
    repeat (first | refine qO ?_ | refine qS ?_ | refine qY ?_ | refine qA ?_ | refine qJ rfl rfl ?_ | refine qI rfl rfl rfl ?_ | refine qP rfl rfl rfl rfl (by assumption) rfl ?_)
    refine xF q rfl (congrArg some e0) rfl rfl rfl hlt ?_
    repeat refine qI rfl rfl rfl ?_
    refine qP rfl rfl rfl rfl hh hnt ?_
    refine qU rfl rfl orc_cons rfl (rname_spec hsx.1) ?_
    rintro r A5 ⟨rfl, e5⟩
    obtain rfl : A4 = A5 := e5.symm
    repeat (first | refine qJ rfl rfl ?_ | refine wo_not rfl rfl ?_)
    by_cases hn : ¬ isN x.name
    · refine xA 63 true rfl (by rw [decide_eq_false hn]; rfl) ?_
      repeat (first | refine qO ?_ | refine qA ?_ | refine qG ?_ | refine qE rfl rfl ?_ | refine qR rfl rfl rfl ?_ | refine xE rfl rfl ?_ | refine xH rfl ?_)
      exact qQ rfl ⟨⟨50, rfl, bad 50 (by decide) (by decide) fun ok => hn ok.1.1⟩, o14⟩
    have hn : isN x.name := Decidable.byContradiction hn
    refine xA 63 false rfl (by rw [decide_eq_true hn]; rfl) ?_
    repeat (first | refine qJ rfl rfl ?_ | refine qI rfl rfl rfl ?_ | refine qP rfl rfl rfl rfl (by assumption) rfl ?_ | refine qX rfl ?_)
    refine xF q rfl (congrArg some e0) rfl rfl rfl hlt ?_
    repeat (first | refine qI rfl rfl rfl ?_ | refine qX rfl ?_)
    refine xG (vs := tyc x.ty) rfl rfl rfl rfl hh ?_ ?_
    · exact (hat 2 1 (by decide)).trans rfl
    refine qX rfl ?_
    refine qU rfl rfl orc_cons rfl (ristype_spec (t := x.ty) (void := false) o14.wf hsx.2) ?_
    rintro r A5 ⟨rfl, o5⟩
    have o15 := o14.same o5
    have h1 := o5.keep _ _ h1 fun h => h
    have H := H.keep o5
    repeat (first | refine qG ?_ | refine wo_not rfl rfl ?_ | refine qR rfl rfl rfl ?_ | refine qX rfl ?_)
    refine wg_if rfl (fun hb => ?_) fun hb => ?_
    · repeat (first | refine qO ?_ | refine qA ?_ | refine qG ?_ | refine qE rfl rfl ?_)
      exact qQ rfl ⟨⟨50, rfl, bad 50 (by decide) (by decide) fun ok => not_of hb ok.1.2⟩, o15⟩
    have hty := yes_of hb
    obtain ⟨f, t, o, cc, ex, ro, all, e0, hh, _, hat⟩ := row_el (cl := fic) (fun _ => rfl) H.f.row hx
    have hnt : nth all (Nat.add (Nat.add o (Nat.mul q 4)) 0) = some (.str x.name) := nth_take ((hat 1 0 (by decide)).trans rfl)
    repeat (first | refine qO ?_ | refine qS ?_ | refine qY ?_ | refine qA ?_ | refine qG ?_ | refine qE rfl rfl ?_)
    refine wg_loop ?_
    refine wg_le (.put 1 (.ptr f1 0 0) (.put 5 (.int .i64 (q : Int)) (.put 6 (.int .i64 ((0 : Nat) : Int)) .nil))) ?_ ⟨rfl, rfl, rfl, trivial⟩
    refine wg_ind (ι := Nat) (fun j => q - j) (fun j => .put 1 (.ptr f1 0 0) (.put 5 (.int .i64 (q : Int)) (.put 6 (.int .i64 (j : Int)) .nil))) (fun j A6 => A6 = A5 ∧ j ≤ q ∧ ∀ k y, k < j → c.fields[k]? = some y → y.name ≠ x.name) ?_ 0 A5 ⟨rfl, Nat.zero_le _, fun k x h => by omega⟩
    rintro k A6 ⟨e6, hk, hpk⟩ ih4
    obtain rfl : A5 = A6 := e6.symm
    repeat (first | refine qO ?_ | refine qA ?_ | refine qG ?_ | refine qJ rfl rfl ?_ | refine xM rfl rfl rfl ?_)
    refine qV rfl (fun hltk => ?_) fun hgek => ?_
    · have hltk : k < q := Int.ofNat_lt.1 hltk
      have hkl : k < c.fields.length := by omega
      obtain ⟨y, hy⟩ : ∃ y, c.fields[k]? = some y := ⟨c.fields[k], List.getElem?_eq_getElem hkl⟩
      obtain ⟨f', t', o', cc', ex', ro', all', e0', hh', _, hat'⟩ := row_el (cl := fic) (fun _ => rfl) H.f.row hy
      have hnt' : nth all' (Nat.add (Nat.add o' (Nat.mul k 4)) 0) = some (.str y.name) := nth_take ((hat' 1 0 (by decide)).trans rfl)
      repeat (first | refine qO ?_ | refine qS ?_ | refine qY ?_)
      refine wg_draw rfl ?_
      repeat (first
        | (refine xC rfl rfl rfl rfl rfl ?_
           repeat (first | refine qG ?_ | refine qJ rfl rfl ?_ | refine qI rfl rfl rfl ?_)
           refine ⟨rfl, ?_⟩)
        | (refine xI rfl rfl rfl rfl rfl rfl rfl ?_
           repeat (first | refine qG ?_ | refine qP rfl rfl rfl rfl (by assumption) rfl ?_)
           refine ⟨rfl, _, rfl, ?_⟩))
      refine xC rfl rfl rfl rfl rfl ?_
      refine xF k rfl (congrArg some e0') rfl rfl rfl hkl ?_
      repeat refine qG ?_
      refine ⟨rfl, ?_⟩
      repeat (first
        | (refine xC rfl rfl rfl rfl rfl ?_
           repeat (first | refine qG ?_ | refine qI rfl rfl rfl ?_)
           refine ⟨rfl, ?_⟩))
      refine xI rfl rfl rfl rfl rfl rfl rfl ?_
      refine qP rfl rfl rfl rfl hh' hnt' ?_
      repeat refine qG ?_
      refine ⟨rfl, _, rfl, ?_⟩
      repeat (first
        | (refine xC rfl rfl rfl rfl rfl ?_
           repeat (first | refine qG ?_ | refine qJ rfl rfl ?_ | refine qI rfl rfl rfl ?_)
           refine ⟨rfl, ?_⟩)
        | (refine xI rfl rfl rfl rfl rfl rfl rfl ?_
           repeat (first | refine qG ?_ | refine qP rfl rfl rfl rfl (by assumption) rfl ?_)
           refine ⟨rfl, _, rfl, ?_⟩))
      refine xC rfl rfl rfl rfl rfl ?_
      refine xF q rfl (congrArg some e0) rfl rfl rfl hlt ?_
      repeat refine qG ?_
      refine ⟨rfl, ?_⟩
      repeat (first
        | (refine xC rfl rfl rfl rfl rfl ?_
           repeat (first | refine qG ?_ | refine qI rfl rfl rfl ?_)
           refine ⟨rfl, ?_⟩))
      refine xI rfl rfl rfl rfl rfl rfl rfl ?_
      refine qP rfl rfl rfl rfl hh hnt ?_
      repeat refine qG ?_
      refine ⟨rfl, _, rfl, ?_⟩
      repeat (first
        | (refine xC rfl rfl rfl rfl rfl ?_
           repeat (first | refine qG ?_ | refine wo_strEq rfl rfl rfl ?_)
           refine ⟨rfl, ?_⟩))
      refine wd_nil ?_
      refine qV rfl (fun he => ?_) fun he => ?_
      · have he : y.name = x.name := he
        repeat (first | refine qO ?_ | refine qA ?_ | refine qG ?_ | refine qE rfl rfl ?_)
        refine qQ rfl ⟨⟨53, rfl, bad 53 (by decide) (by decide) fun ok => ?_⟩, o15⟩
        have h1 : (c.fields.take q).any (fun o => decide (o.name = x.name)) = true := List.any_eq_true.2 ⟨y, List.mem_of_getElem? (by rw [List.getElem?_take_of_lt hltk]; exact hy), decide_eq_true he⟩
        rw [ok.2] at h1
        cases h1
      · have he : ¬ y.name = x.name := he
        repeat (first | refine qS ?_ | refine xB ?_ | refine qA ?_ | refine qJ rfl rfl ?_)
        refine wo_add rfl rfl rfl (by omega) (by omega) ?_
        repeat (first | refine qG ?_ | refine qE rfl rfl ?_)
        refine xN ?_
        refine wg_le (.put 1 (.ptr f1 0 0) (.put 5 (.int .i64 (q : Int)) (.put 6 (.int .i64 ((k + 1 : Nat) : Int)) .nil))) ?_ ⟨rfl, rfl, rfl, trivial⟩
        refine ih4 (k + 1) A5 (by omega) ⟨rfl, hltk, fun k' y' hk' hy' => ?_⟩
        by_cases ej : k' = k
        · subst ej
          rw [hy] at hy'
          cases hy'
          exact he
        · exact hpk k' y' (by omega) hy'
    have hgek : k = q := by
      have : ¬ (k : Int) < (q : Int) := hgek
      omega
    refine wg_exit rfl ?_
    repeat (first | refine xB ?_ | refine qA ?_ | refine qJ rfl rfl ?_)
    refine wo_add rfl rfl rfl (by omega) (by omega) ?_
    repeat (first | refine qG ?_ | refine qE rfl rfl ?_)
    refine xN ?_
    refine wg_le (.put 1 (.ptr f1 0 0) (.put 5 (.int .i64 ((q + 1 : Nat) : Int)) .nil)) ?_ ⟨rfl, rfl, trivial⟩
    refine ih3 (q + 1) A5 (by omega) ⟨o4.same o5, hlt, fun j y hj hy => ?_⟩
    by_cases ej : j = q
    · subst ej
      rw [hx] at hy
      cases hy
      exact ⟨⟨hn, hty⟩, any_noF fun k' y' hk' hy' => hpk k' y' (by omega) hy'⟩
    · exact hpq j y (by omega) hy
  have hgef : q = c.fields.length := by
    have : ¬ (q : Int) < (c.fields.length : Int) := hgef
    omega
  have hfi : fisOk c.fields := ⟨by omega, fun j f hf => hpq j f (by have := (List.getElem?_eq_some_iff.1 hf).1; omega) hf⟩
  obtain ⟨cs, hM, hML⟩ := H.m
  refine wg_exit rfl ?_
  repeat (first | refine qO ?_ | refine qA ?_ | refine qI rfl rfl rfl ?_ | refine qP rfl rfl rfl rfl (by assumption) rfl ?_)
  refine xJ rfl rfl rfl hM.row.lenV ?_
  repeat (first | refine qG ?_ | refine wo_gtr rfl rfl rfl ?_)
  refine qV rfl (fun c2 => ?_) fun c2 => ?_
  · have c2 : (12 : Int) < (c.methods.length : Int) := c2
    repeat (first | refine qO ?_ | refine qA ?_ | refine qG ?_ | refine qE rfl rfl ?_)
    exact qQ rfl ⟨⟨32, rfl, .inr ⟨by decide, by decide, fun ok => by have := ok.2.2.2.2.2.1; omega⟩⟩, o14⟩
  have c2 : ¬ (12 : Int) < (c.methods.length : Int) := c2
  repeat (first | refine qO ?_ | refine qS ?_ | refine qY ?_ | refine qA ?_ | refine qG ?_ | refine qE rfl rfl ?_)
  refine wg_loop ?_
  refine wg_le (.put 1 (.ptr f1 0 0) (.put 7 (.int .i64 ((0 : Nat) : Int)) .nil)) ?_ ⟨rfl, rfl, trivial⟩
  refine wg_ind (ι := Nat) (fun i => c.methods.length - i) (fun i => .put 1 (.ptr f1 0 0) (.put 7 (.int .i64 (i : Int)) .nil))
    (fun i A5 => Only A4 A5 none' ∧ i ≤ c.methods.length ∧ ∀ j x, j < i → c.methods[j]? = some x → methOk c.pool (c.methods.take j) x) ?_ 0 A4 ⟨Only.refl o14.wf _, Nat.zero_le _, fun j f h => by omega⟩
  rintro k A5 ⟨o5, hk, hpk⟩ ih2
  have o15 := o14.same o5
  have h1 := o5.keep _ _ h1 fun h => h
  have H := H.keep o5
  obtain ⟨cs, hM, hML⟩ := H.m
  repeat (first | refine qO ?_ | refine qA ?_ | refine qJ rfl rfl ?_ | refine qI rfl rfl rfl ?_ | refine qP rfl rfl rfl rfl (by assumption) rfl ?_)
  refine xJ rfl rfl rfl hM.row.lenV ?_
  repeat (first | refine qG ?_ | refine xM rfl rfl rfl ?_)
  refine qV rfl (fun hlt => ?_) fun hge2 => ?_
  · have hlt : k < c.methods.length := Int.ofNat_lt.1 hlt
    obtain ⟨x, hx⟩ : ∃ x, c.methods[k]? = some x := ⟨c.methods[k], List.getElem?_eq_getElem hlt⟩
    repeat (first | refine qO ?_ | refine qS ?_ | refine qY ?_ | refine qA ?_)
    refine xG (vs := clc c.name c.super pv fv mv) rfl rfl rfl rfl h1 rfl ?_
    repeat refine qJ rfl rfl ?_
    refine qU rfl rfl orc_cons rfl (rmeth_spec (m := x) (i := k) o15.wf H hl1 hx (by omega) (hsh.2.2.2 x (List.mem_of_getElem? hx))) ?_
    rintro r A7 ⟨⟨e, rfl, he⟩, o7⟩
    have o17 := o15.same o7
    repeat (first | refine qO ?_ | refine qA ?_ | refine qG ?_ | refine qJ rfl rfl ?_ | refine qE rfl rfl ?_ | refine xL rfl rfl rfl ?_)
    refine qV rfl (fun hne => ?_) fun hz => ?_
    · repeat (first | refine qO ?_ | refine qA ?_ | refine qG ?_ | refine qJ rfl rfl ?_ | refine qE rfl rfl ?_)
      exact qQ rfl ⟨⟨e, rfl, he.of hne fun ok => ok.2.2.2.2.2.2 k x hx⟩, o17⟩
    · have hz : e = 0 := Decidable.byContradiction hz
      repeat (first | refine qS ?_ | refine xB ?_ | refine qA ?_ | refine qJ rfl rfl ?_)
      refine wo_add rfl rfl rfl (by omega) (by omega) ?_
      repeat (first | refine qG ?_ | refine qE rfl rfl ?_)
      refine xN ?_
      refine wg_le (.put 1 (.ptr f1 0 0) (.put 7 (.int .i64 ((k + 1 : Nat) : Int)) .nil)) ?_ ⟨rfl, rfl, trivial⟩
      refine ih2 (k + 1) A7 (by omega) ⟨o5.same o7, hlt, fun j y hj hyy => ?_⟩
      by_cases ej : j = k
      · subst ej
        rw [hx] at hyy
        cases hyy
        exact he.ok hz
      · exact hpk j y (by omega) hyy
  · have hge2 : k = c.methods.length := by
      have : ¬ (k : Int) < (c.methods.length : Int) := hge2
      omega
    refine wg_exit rfl ?_
    repeat (first | refine qO ?_ | refine qA ?_ | refine qG ?_ | refine qE rfl rfl ?_)
    refine qQ rfl ⟨⟨0, rfl, .inl ⟨rfl, hname.1, hname.2, by omega, hco, hfi, by omega, fun j x hj => hpk j x ?_ hj⟩⟩, o15⟩
    have := (List.getElem?_eq_some_iff.1 hj).1
    omega
end Go.Proofs.YtiecclkgjcnaoaaGreat.Ae
