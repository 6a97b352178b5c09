/-
  FIELDS ARE CHECKED, by the rules: ContainsFunc, fields.
-/
import Derived.Test.YtiecclkgjcnaoaaGreatAiSyD10
namespace Go.Proofs.YtiecclkgjcnaoaaGreat.Ae
open Go.AE
set_option linter.unusedVariables false
set_option maxRecDepth 100000
theorem row_el {α : Type} {A : AW} {es : Nat} {v : AV} {l : List α} {cl : α → List AV} (hcl : ∀ a, (cl a).length = es) (h : Row A es v l.length (l.flatMap cl)) {i : Nat} {x : α} (hx : l[i]? = some x) :
    ∃ f t o c ex ro all, v = .slice f t o l.length c ex ∧ A.heap.get f = some (.cells t ro es all) ∧ i < l.length ∧ ∀ k j, j + k ≤ es → takeN k (dropN (Nat.add (Nat.add o (Nat.mul i es)) j) all) = takeN k (dropN j (cl x)) := by
  have hi := (List.getElem?_eq_some_iff.1 hx).1
  obtain ⟨f, t, o, c, ex, ro, all, rfl, hh, hat⟩ := h.at hi
  exact ⟨f, t, o, c, ex, ro, all, rfl, hh, hi, fun k j hk => (hat k j hk).trans (take_flat hcl hx k j hk)⟩
theorem meL_at {A : AW} {n0 : Nat} : ∀ {ms : List MeT} {cs : List AV} {i : Nat} {m : MeT}, MeL A n0 ms cs → ms[i]? = some m → ∃ pv cv hv, MeR A n0 m pv cv hv ∧ ∀ k j, j + k ≤ 8 → takeN k (dropN (i * 8 + j) cs) = takeN k (dropN j (mec m pv cv hv))
  | [], cs, i, m, _, h => by cases h
  | x :: ms, cs, 0, m, ⟨pv, cv, hv, cs', e, h1, _⟩, h => by
    simp only [List.getElem?_cons_zero, Option.some.injEq] at h
    subst h
    refine ⟨pv, cv, hv, h1, fun k j hk => ?_⟩
    subst e
    have h8 : (mec x pv cv hv).length = 8 := rfl
    rw [Nat.zero_mul, Nat.zero_add]
    have key : ∀ (j k : Nat) (a b : List AV), j + k ≤ a.length → takeN k (dropN j (a ++ b)) = takeN k (dropN j a) := by
      intro j
      induction j with
      | zero =>
        intro k a b h
        rw [show dropN 0 (a ++ b) = a ++ b from rfl, show dropN 0 a = a from rfl, takeN_some _ _ (by rw [List.length_append]; omega), takeN_some _ _ (by omega), List.take_append_of_le_length (by omega)]
      | succ j ih =>
        intro k a b h
        cases a with
        | nil => simp at h
        | cons y a => exact ih k a b (by simp only [List.length_cons] at h; omega)
    exact key j k _ _ (by omega)
  | x :: ms, cs, i + 1, m, ⟨pv, cv, hv, cs', e, _, h2⟩, h => by
    obtain ⟨p, c, q, g1, g2⟩ := meL_at (i := i) (m := m) h2 (by simpa using h)
    refine ⟨p, c, q, g1, fun k j hk => ?_⟩
    subst e
    rw [← g2 k j hk, show (i + 1) * 8 + j = (i * 8 + j) + 8 from by omega]
    rfl
theorem MeL.len {A : AW} {n0 : Nat} : ∀ {ms : List MeT} {cs : List AV}, MeL A n0 ms cs → cs.length = ms.length * 8
  | [], cs, h => by
    have h : cs = [] := h
    rw [h]
    rfl
  | m :: ms, cs, ⟨pv, cv, hv, cs', e, _, h2⟩ => by
    rw [e, List.length_append, MeL.len h2, List.length_cons]
    show 8 + _ = _
    omega
theorem contT_spec {K : FuncId} {A : AW} {l : List Ty'} {v : AV} {g : FuncId} {first cap : List AV} {P : Ty' → Bool} (hw : Wf A) (h : Row A 2 v l.length (l.flatMap tyc)) (hl : l.length < 1000000)
    (ho : ∀ x : Ty', (ES K).orc g (first ++ [.agg (tyc x)] ++ cap) = none) (hb : R.hasB (ES K) g = true)
    (hr : ∀ A1 x, Only A A1 none' → CallP (ES K) g (first ++ [.agg (tyc x)] ++ cap) A1 fun r A2 => r = .bool (P x) ∧ Only A1 A2 none') :
    CallP (ES K) 94 [v, .func g first cap] A fun r A1 => r = .bool (l.any P) ∧ Only A A1 none' := by
  refine call_of rfl rfl rfl ?_
  repeat (first | refine qO ?_ | refine qA ?_ | refine qG ?_ | refine qJ rfl rfl ?_ | refine qE rfl rfl ?_)
  refine qU rfl rfl orc_cons rfl (Q := fun r A1 => (∃ z : Int, r = .int .i64 z ∧ (0 ≤ z ↔ l.any P = true)) ∧ Only A A1 none') ?_ ?_
  · refine call_of rfl rfl rfl ?_
    repeat (first | refine qO ?_ | refine qA ?_ | refine qG ?_ | refine qJ rfl rfl ?_ | refine qE rfl rfl ?_)
    refine xJ rfl rfl rfl h.lenV ?_
    repeat (first | refine qY ?_ | refine qG ?_ | refine qJ rfl rfl ?_)
    refine wg_loop ?_
    refine wg_le (.put 0 v (.put 1 (.func g first cap) (.put 7 (.int .i64 (l.length : Int)) (.put 8 (.int .i64 ((0 : Nat) : Int)) .nil)))) ?_ ⟨rfl, rfl, rfl, rfl, trivial⟩
    refine wg_ind (ι := Nat) (fun i => l.length - i) (fun i => .put 0 v (.put 1 (.func g first cap) (.put 7 (.int .i64 (l.length : Int)) (.put 8 (.int .i64 (i : Int)) .nil)))) (fun i A1 => Only A A1 none' ∧ i ≤ l.length ∧ l.any P = (l.drop i).any P) ?_ 0 A ⟨Only.refl hw _, Nat.zero_le _, rfl⟩
    rintro i A1 ⟨o1, hi, hp⟩ ih
    repeat (first | refine qO ?_ | refine qA ?_ | refine qG ?_ | refine xM rfl rfl rfl ?_)
    refine qV rfl (fun hlt => ?_) fun hge => ?_
    · have hlt : i < l.length := Int.ofNat_lt.1 hlt
      obtain ⟨x, hx⟩ : ∃ x, l[i]? = some x := ⟨l[i], List.getElem?_eq_getElem hlt⟩
      have hd : l.drop i = x :: l.drop (i + 1) := by
        rw [List.getElem?_eq_getElem hlt, Option.some.injEq] at hx
        rw [← hx]
        exact List.drop_eq_getElem_cons hlt
      rw [hd, List.any_cons] at hp
      obtain ⟨f, t, o, c, ex, ro, all, rfl, hh, _, hat⟩ := row_el (cl := tyc) (fun _ => rfl) (h.keep o1 fun _ _ h => h) hx
      repeat (first | refine qO ?_ | refine qS ?_ | refine qY ?_ | refine qA ?_ | refine qG ?_ | refine qJ rfl rfl ?_ | refine qE rfl rfl ?_)
      refine xF i rfl rfl rfl rfl rfl hlt ?_
      refine xG (vs := tyc x) rfl rfl rfl rfl hh ?_ ?_
      · exact (hat 2 0 (Nat.le_refl _)).trans rfl
      refine wo_callV (vs := [.agg (tyc x)]) rfl rfl rfl rfl (ho x) hb (hr A1 x o1) ?_
      rintro r A2 ⟨rfl, o2⟩
      repeat refine qG ?_
      refine wg_if rfl (fun hb => ?_) fun hb => ?_
      · have hb : P x = true := hb
        repeat (first | refine qO ?_ | refine qA ?_ | refine qG ?_ | refine qJ rfl rfl ?_ | refine qE rfl rfl ?_)
        refine qQ rfl ⟨⟨_, rfl, ⟨fun _ => by rw [hp, hb]; rfl, fun _ => Int.natCast_nonneg i⟩⟩, o1.same o2⟩
      · have hb : P x = false := hb
        rw [hb, Bool.false_or] at hp
        repeat (first | refine qS ?_ | refine xB ?_ | refine qA ?_)
        refine wo_add rfl rfl rfl (by omega) (by omega) ?_
        repeat (first | refine qG ?_ | refine qJ rfl rfl ?_)
        refine xN ?_
        refine wg_le (.put 0 _ (.put 1 (.func g first cap) (.put 7 (.int .i64 (l.length : Int)) (.put 8 (.int .i64 ((i + 1 : Nat) : Int)) .nil)))) ?_ ⟨rfl, rfl, rfl, rfl, trivial⟩
        exact ih (i + 1) A2 (by omega) ⟨o1.same o2, hlt, hp⟩
    · have hge : i = l.length := by
        have : ¬ (i : Int) < (l.length : Int) := hge
        omega
      rw [hge, List.drop_length] at hp
      refine wg_exit rfl ?_
      repeat (first | refine qO ?_ | refine qA ?_ | refine qG ?_ | refine qE rfl rfl ?_)
      refine qQ rfl ⟨⟨_, rfl, ⟨fun h => absurd h (by decide), fun h => by rw [hp] at h; cases h⟩⟩, o1⟩
  rintro r A1 ⟨⟨z, rfl, hz⟩, o1⟩
  repeat (first | refine qG ?_ | refine qE rfl rfl ?_ | refine wo_geq rfl rfl rfl ?_)
  refine qQ rfl ⟨congrArg AV.bool ?_, o1⟩
  cases hb : l.any P
  · exact decide_eq_false fun h => by rw [hz.1 h] at hb; cases hb
  · exact decide_eq_true (hz.2 hb)
theorem contF_spec {K : FuncId} {A : AW} {l : List FiT} {v : AV} {g : FuncId} {first cap : List AV} {P : FiT → Bool} (hw : Wf A) (h : Row A 4 v l.length (l.flatMap fic)) (hl : l.length < 1000000)
    (ho : ∀ x : FiT, (ES K).orc g (first ++ [.agg (fic x)] ++ cap) = none) (hb : R.hasB (ES K) g = true)
    (hr : ∀ A1 x, Only A A1 none' → CallP (ES K) g (first ++ [.agg (fic x)] ++ cap) A1 fun r A2 => r = .bool (P x) ∧ Only A1 A2 none') :
    CallP (ES K) 91 [v, .func g first cap] A fun r A1 => r = .bool (l.any P) ∧ Only A A1 none' := by
  refine call_of rfl rfl rfl ?_
  repeat (first | refine qO ?_ | refine qA ?_ | refine qG ?_ | refine qJ rfl rfl ?_ | refine qE rfl rfl ?_)
  refine qU rfl rfl orc_cons rfl (Q := fun r A1 => (∃ z : Int, r = .int .i64 z ∧ (0 ≤ z ↔ l.any P = true)) ∧ Only A A1 none') ?_ ?_
  · refine call_of rfl rfl rfl ?_
    repeat (first | refine qO ?_ | refine qA ?_ | refine qG ?_ | refine qJ rfl rfl ?_ | refine qE rfl rfl ?_)
    refine xJ rfl rfl rfl h.lenV ?_
    repeat (first | refine qY ?_ | refine qG ?_ | refine qJ rfl rfl ?_)
    refine wg_loop ?_
    refine wg_le (.put 0 v (.put 1 (.func g first cap) (.put 7 (.int .i64 (l.length : Int)) (.put 8 (.int .i64 ((0 : Nat) : Int)) .nil)))) ?_ ⟨rfl, rfl, rfl, rfl, trivial⟩
    refine wg_ind (ι := Nat) (fun i => l.length - i) (fun i => .put 0 v (.put 1 (.func g first cap) (.put 7 (.int .i64 (l.length : Int)) (.put 8 (.int .i64 (i : Int)) .nil)))) (fun i A1 => Only A A1 none' ∧ i ≤ l.length ∧ l.any P = (l.drop i).any P) ?_ 0 A ⟨Only.refl hw _, Nat.zero_le _, rfl⟩
    rintro i A1 ⟨o1, hi, hp⟩ ih
    repeat (first | refine qO ?_ | refine qA ?_ | refine qG ?_ | refine xM rfl rfl rfl ?_)
    refine qV rfl (fun hlt => ?_) fun hge => ?_
    · have hlt : i < l.length := Int.ofNat_lt.1 hlt
      obtain ⟨x, hx⟩ : ∃ x, l[i]? = some x := ⟨l[i], List.getElem?_eq_getElem hlt⟩
      have hd : l.drop i = x :: l.drop (i + 1) := by
        rw [List.getElem?_eq_getElem hlt, Option.some.injEq] at hx
        rw [← hx]
        exact List.drop_eq_getElem_cons hlt
      rw [hd, List.any_cons] at hp
      obtain ⟨f, t, o, c, ex, ro, all, rfl, hh, _, hat⟩ := row_el (cl := fic) (fun _ => rfl) (h.keep o1 fun _ _ h => h) hx
      repeat (first | refine qO ?_ | refine qS ?_ | refine qY ?_ | refine qA ?_ | refine qG ?_ | refine qJ rfl rfl ?_ | refine qE rfl rfl ?_)
      refine xF i rfl rfl rfl rfl rfl hlt ?_
      refine xG (vs := fic x) rfl rfl rfl rfl hh ?_ ?_
      · exact (hat 4 0 (Nat.le_refl _)).trans rfl
      refine wo_callV (vs := [.agg (fic x)]) rfl rfl rfl rfl (ho x) hb (hr A1 x o1) ?_
      rintro r A2 ⟨rfl, o2⟩
      repeat refine qG ?_
      refine wg_if rfl (fun hb => ?_) fun hb => ?_
      · have hb : P x = true := hb
        repeat (first | refine qO ?_ | refine qA ?_ | refine qG ?_ | refine qJ rfl rfl ?_ | refine qE rfl rfl ?_)
        refine qQ rfl ⟨⟨_, rfl, ⟨fun _ => by rw [hp, hb]; rfl, fun _ => Int.natCast_nonneg i⟩⟩, o1.same o2⟩
      · have hb : P x = false := hb
        rw [hb, Bool.false_or] at hp
        repeat (first | refine qS ?_ | refine xB ?_ | refine qA ?_)
        refine wo_add rfl rfl rfl (by omega) (by omega) ?_
        repeat (first | refine qG ?_ | refine qJ rfl rfl ?_)
        refine xN ?_
        refine wg_le (.put 0 _ (.put 1 (.func g first cap) (.put 7 (.int .i64 (l.length : Int)) (.put 8 (.int .i64 ((i + 1 : Nat) : Int)) .nil)))) ?_ ⟨rfl, rfl, rfl, rfl, trivial⟩
        exact ih (i + 1) A2 (by omega) ⟨o1.same o2, hlt, hp⟩
    · have hge : i = l.length := by
        have : ¬ (i : Int) < (l.length : Int) := hge
        omega
      rw [hge, List.drop_length] at hp
      refine wg_exit rfl ?_
      repeat (first | refine qO ?_ | refine qA ?_ | refine qG ?_ | refine qE rfl rfl ?_)
      refine qQ rfl ⟨⟨_, rfl, ⟨fun h => absurd h (by decide), fun h => by rw [hp] at h; cases h⟩⟩, o1⟩
  rintro r A1 ⟨⟨z, rfl, hz⟩, o1⟩
  repeat (first | refine qG ?_ | refine qE rfl rfl ?_ | refine wo_geq rfl rfl rfl ?_)
  refine qQ rfl ⟨congrArg AV.bool ?_, o1⟩
  cases hb : l.any P
  · exact decide_eq_false fun h => by rw [hz.1 h] at hb; cases hb
  · exact decide_eq_true (hz.2 hb)
theorem contM_spec {K : FuncId} {A : AW} {n0 : Nat} {l : List MeT} {cs : List AV} {v : AV} {g : FuncId} {cap : List AV} {P : MeT → Bool} (hw : Wf A) (hm : MeL A n0 l cs) (h : Row A 8 v l.length cs) (hl : l.length < 1000000)
    (hb : R.hasB (ES K) g = true)
    (hr : ∀ A1 x pv cv hv, Only A A1 none' → CallP (ES K) g ([.agg (mec x pv cv hv)] ++ cap) A1 fun r A2 => r = .bool (P x) ∧ Only A1 A2 none') :
    CallP (ES K) 95 [v, .func g [] cap] A fun r A1 => r = .bool (l.any P) ∧ Only A A1 none' := by
  refine call_of rfl rfl rfl ?_
  repeat (first | refine qO ?_ | refine qA ?_ | refine qG ?_ | refine qJ rfl rfl ?_ | refine qE rfl rfl ?_)
  refine qU rfl rfl orc_cons rfl (Q := fun r A1 => (∃ z : Int, r = .int .i64 z ∧ (0 ≤ z ↔ l.any P = true)) ∧ Only A A1 none') ?_ ?_
  · refine call_of rfl rfl rfl ?_
    repeat (first | refine qO ?_ | refine qA ?_ | refine qG ?_ | refine qJ rfl rfl ?_ | refine qE rfl rfl ?_)
    refine xJ rfl rfl rfl h.lenV ?_
    repeat (first | refine qY ?_ | refine qG ?_ | refine qJ rfl rfl ?_)
    refine wg_loop ?_
    refine wg_le (.put 0 v (.put 1 (.func g [] cap) (.put 7 (.int .i64 (l.length : Int)) (.put 8 (.int .i64 ((0 : Nat) : Int)) .nil)))) ?_ ⟨rfl, rfl, rfl, rfl, trivial⟩
    refine wg_ind (ι := Nat) (fun i => l.length - i) (fun i => .put 0 v (.put 1 (.func g [] cap) (.put 7 (.int .i64 (l.length : Int)) (.put 8 (.int .i64 (i : Int)) .nil)))) (fun i A1 => Only A A1 none' ∧ i ≤ l.length ∧ l.any P = (l.drop i).any P) ?_ 0 A ⟨Only.refl hw _, Nat.zero_le _, rfl⟩
    rintro i A1 ⟨o1, hi, hp⟩ ih
    repeat (first | refine qO ?_ | refine qA ?_ | refine qG ?_ | refine xM rfl rfl rfl ?_)
    refine qV rfl (fun hlt => ?_) fun hge => ?_
    · have hlt : i < l.length := Int.ofNat_lt.1 hlt
      obtain ⟨x, hx⟩ : ∃ x, l[i]? = some x := ⟨l[i], List.getElem?_eq_getElem hlt⟩
      have hd : l.drop i = x :: l.drop (i + 1) := by
        rw [List.getElem?_eq_getElem hlt, Option.some.injEq] at hx
        rw [← hx]
        exact List.drop_eq_getElem_cons hlt
      rw [hd, List.any_cons] at hp
      obtain ⟨pv, cv, hv, _, hel⟩ := meL_at hm hx
      obtain ⟨f, t, o, c, ex, ro, all, rfl, hh, hat⟩ := (h.keep o1 fun _ _ h => h).at hlt
      repeat (first | refine qO ?_ | refine qS ?_ | refine qY ?_ | refine qA ?_ | refine qG ?_ | refine qJ rfl rfl ?_ | refine qE rfl rfl ?_)
      refine xF i rfl rfl rfl rfl rfl hlt ?_
      refine xG (vs := mec x pv cv hv) rfl rfl rfl rfl hh ?_ ?_
      · exact (hat 8 0 (Nat.le_refl _)).trans ((hel 8 0 (Nat.le_refl _)).trans rfl)
      refine wo_callV (vs := [.agg (mec x pv cv hv)]) rfl rfl rfl rfl orc_cons hb (hr A1 x pv cv hv o1) ?_
      rintro r A2 ⟨rfl, o2⟩
      repeat refine qG ?_
      refine wg_if rfl (fun hb => ?_) fun hb => ?_
      · have hb : P x = true := hb
        repeat (first | refine qO ?_ | refine qA ?_ | refine qG ?_ | refine qJ rfl rfl ?_ | refine qE rfl rfl ?_)
        refine qQ rfl ⟨⟨_, rfl, ⟨fun _ => by rw [hp, hb]; rfl, fun _ => Int.natCast_nonneg i⟩⟩, o1.same o2⟩
      · have hb : P x = false := hb
        rw [hb, Bool.false_or] at hp
        repeat (first | refine qS ?_ | refine xB ?_ | refine qA ?_)
        refine wo_add rfl rfl rfl (by omega) (by omega) ?_
        repeat (first | refine qG ?_ | refine qJ rfl rfl ?_)
        refine xN ?_
        refine wg_le (.put 0 _ (.put 1 (.func g [] cap) (.put 7 (.int .i64 (l.length : Int)) (.put 8 (.int .i64 ((i + 1 : Nat) : Int)) .nil)))) ?_ ⟨rfl, rfl, rfl, rfl, trivial⟩
        exact ih (i + 1) A2 (by omega) ⟨o1.same o2, hlt, hp⟩
    · have hge : i = l.length := by
        have : ¬ (i : Int) < (l.length : Int) := hge
        omega
      rw [hge, List.drop_length] at hp
      refine wg_exit rfl ?_
      repeat (first | refine qO ?_ | refine qA ?_ | refine qG ?_ | refine qE rfl rfl ?_)
      refine qQ rfl ⟨⟨_, rfl, ⟨fun h => absurd h (by decide), fun h => by rw [hp] at h; cases h⟩⟩, o1⟩
  rintro r A1 ⟨⟨z, rfl, hz⟩, o1⟩
  repeat (first | refine qG ?_ | refine qE rfl rfl ?_ | refine wo_geq rfl rfl rfl ?_)
  refine qQ rfl ⟨congrArg AV.bool ?_, o1⟩
  cases hb : l.any P
  · exact decide_eq_false fun h => by rw [hz.1 h] at hb; cases hb
  · exact decide_eq_true (hz.2 hb)
def fiOk (ahead : List FiT) (f : FiT) : Prop := (isN f.name ∧ tyOk false f.ty) ∧ ahead.any (fun o => decide (o.name = f.name)) = false
def fisOk (l : List FiT) : Prop := l.length ≤ 8 ∧ ∀ i f, l[i]? = some f → fiOk (l.take i) f
theorem fields1_spec {K : FuncId} {A : AW} {o f : FiT} {f4 : Nat} (hw : Wf A) (h4 : A.heap.get f4 = some (.cells 0 false 4 (fic f))) : CallP (ES K) 92 [.agg (fic o), .ptr f4 0 0] A fun r A1 => r = .bool (decide (o.name = f.name)) ∧ Only A A1 none' := by
  refine call_of rfl rfl rfl ?_
  unfold fic at h4 ⊢
  repeat (first | refine qO ?_ | refine qA ?_)
  refine wo_box rfl rfl rfl rfl ?_
  refine wo_A (fun A1 => Only A A1 none' ∧ A1.heap.get A.nxt = some (.cells 0 false 4 [.str o.name, .int .i64 o.ty.1, .str o.ty.2, .bool o.vol])) ⟨Only.add hw _, by rw [AW.add_get, if_pos rfl]; rfl⟩ ?_
  rintro A1 ⟨o1, hx⟩
  generalize A.nxt = fx at hx
  have h4 := o1.keep _ _ h4 fun h => h
  repeat (first | refine qO ?_ | refine qA ?_ | refine qG ?_ | refine qE rfl rfl ?_ | refine qI rfl rfl rfl ?_ | refine qP rfl rfl rfl rfl (by assumption) rfl ?_ | refine wo_strEq rfl rfl rfl ?_)
  exact qQ rfl ⟨rfl, o1⟩
theorem take_len {α : Type} {l : List α} {i : Nat} (h : i ≤ l.length) : (l.take i).length = i := by rw [List.length_take]; omega
theorem take_flat2 {α : Type} {cl : α → List AV} {es : Nat} (hcl : ∀ a, (cl a).length = es) : ∀ (l : List α) (i : Nat), (l.flatMap cl).take (i * es) = (l.take i).flatMap cl
  | [], i => by simp
  | x :: l, 0 => by simp
  | x :: l, i + 1 => by
    rw [List.flatMap_cons, List.take_succ_cons, List.flatMap_cons, ← take_flat2 hcl l i, show (i + 1) * es = (cl x).length + i * es from by rw [hcl, Nat.add_mul, Nat.one_mul, Nat.add_comm], List.take_length_add_append]
set_option maxHeartbeats 4000000 in
theorem cfields_spec {K : FuncId} {A : AW} {l : List FiT} {v : AV} (hw : Wf A) (h : Full A 4 v l.length (l.flatMap fic)) (hl : l.length < 1000000) :
    CallP (ES K) 51 [v] A fun r A1 => (∃ e, r = .int .i64 e ∧ Err e (fisOk l)) ∧ Only A A1 none' := by
  refine call_of rfl rfl rfl ?_
  repeat (first | refine qO ?_ | refine qA ?_ | refine qG ?_ | refine qJ rfl rfl ?_ | refine qE rfl rfl ?_)
  refine xJ rfl rfl rfl h.row.lenV ?_
  repeat (first | refine qG ?_ | refine wo_gtr rfl rfl rfl ?_)
  refine qV rfl (fun c8 => ?_) fun c8 => ?_
  · have c8 : (8 : Int) < (l.length : Int) := c8
    repeat (first | refine qO ?_ | refine qA ?_ | refine qG ?_ | refine qE rfl rfl ?_)
    exact qQ rfl ⟨⟨32, rfl, .inr ⟨by decide, by decide, fun ok => by have := ok.1; omega⟩⟩, Only.refl hw _⟩
  have c8 : l.length ≤ 8 := by
    have c8 : ¬ (8 : Int) < (l.length : Int) := c8
    omega
  repeat (first | refine qO ?_ | refine qS ?_ | refine qA ?_ | refine qJ rfl rfl ?_)
  refine xJ rfl rfl rfl h.row.lenV ?_
  repeat (first | refine qY ?_ | refine qG ?_ | refine qJ rfl rfl ?_)
  refine wg_loop ?_
  refine wg_le (.put 0 v (.put 8 v (.put 9 (.int .i64 (l.length : Int)) (.put 10 (.int .i64 ((0 : Nat) : Int)) .nil)))) ?_ ⟨rfl, rfl, rfl, rfl, trivial⟩
  refine wg_ind (ι := Nat) (fun i => l.length - i) (fun i => .put 0 v (.put 8 v (.put 9 (.int .i64 (l.length : Int)) (.put 10 (.int .i64 (i : Int)) .nil)))) (fun i A1 => Only A A1 none' ∧ i ≤ l.length ∧ ∀ j f, j < i → l[j]? = some f → fiOk (l.take j) f) ?_ 0 A ⟨Only.refl hw _, Nat.zero_le _, fun j f h => by omega⟩
  rintro i A1 ⟨o1, hi, hp⟩ ih
  repeat (first | refine qO ?_ | refine qA ?_ | refine qG ?_ | refine xM rfl rfl rfl ?_)
  refine qV rfl (fun hlt => ?_) fun hge => ?_
  · have hlt : i < l.length := Int.ofNat_lt.1 hlt
    obtain ⟨x, hx⟩ : ∃ x, l[i]? = some x := ⟨l[i], List.getElem?_eq_getElem hlt⟩
    have hF := h.keep o1 fun _ _ h => h
    obtain ⟨f, t, o, c, ex, ro, all, e0, hh, _, hat⟩ := row_el (cl := fic) (fun _ => rfl) hF.row hx
    have bad : ∀ e : Int, 30 ≤ e → e ≤ 54 → ¬ fiOk (l.take i) x → Err e (fisOk l) := fun e h1 h2 h3 => .inr ⟨h1, h2, fun ok => h3 (ok.2 i x hx)⟩
    repeat (first | refine qO ?_ | refine qS ?_ | refine qY ?_ | refine qA ?_ | refine qJ rfl rfl ?_)
    refine xF i rfl (congrArg some e0) rfl rfl rfl hlt ?_
    refine xG (vs := fic x) rfl rfl rfl rfl hh ?_ ?_
    · exact (hat 4 0 (Nat.le_refl _)).trans rfl
    refine wo_alloc rfl rfl rfl ?_
    repeat refine qE rfl rfl ?_
    refine qZ rfl rfl rfl rfl rfl rfl (by rw [AW.add_get, if_pos rfl]) rfl ?_
    refine wo_A (fun A2 => Only A1 A2 none' ∧ A2.heap.get A1.nxt = some (.cells 0 false 4 (fic x))) ⟨made o1.wf, by rw [AW.put_get, if_pos rfl]; rfl⟩ ?_
    rintro A2 ⟨o2, h4⟩
    generalize A1.nxt = f4 at h4
    have o12 := o1.same o2
    have h4' := h4
    unfold fic at h4'
    repeat (first | refine qO ?_ | refine qY ?_ | refine qA ?_ | refine qG ?_ | refine qI rfl rfl rfl ?_ | refine qP rfl rfl rfl rfl (by assumption) rfl ?_)
    refine qU rfl rfl orc_cons rfl isName_spec ?_
    rintro r A3 ⟨rfl, e3⟩
    obtain rfl : A2 = A3 := e3.symm
    repeat (first | refine qG ?_ | refine qE rfl rfl ?_ | refine wo_not rfl rfl ?_)
    refine wg_if rfl (fun hb => ?_) fun hb => ?_
    · have hn : ¬ isN x.name := fun h => by
        have hb : (!decide (isN x.name)) = true := hb
        rw [decide_eq_true h] at hb
        cases hb
      repeat refine qS ?_
      refine wg_if rfl (fun _ => ?_) fun h => absurd (hb.symm.trans h) (by decide)
      repeat (first | refine qO ?_ | refine qA ?_ | refine qG ?_ | refine qE rfl rfl ?_)
      exact qQ rfl ⟨⟨50, rfl, bad 50 (by decide) (by decide) fun ok => hn ok.1.1⟩, o12⟩
    have hn : isN x.name := Decidable.byContradiction fun h => by
      have hb : (!decide (isN x.name)) = false := hb
      rw [decide_eq_false h] at hb
      cases hb
    repeat (first | refine qA ?_ | refine qI rfl rfl rfl ?_)
    refine xG (vs := tyc x.ty) rfl rfl rfl rfl h4 rfl ?_
    refine qU rfl rfl orc_cons rfl (cistype_spec (t := x.ty) (void := false) o12.wf) ?_
    rintro r A3 ⟨rfl, o3⟩
    have o13 := o12.same o3
    have h4 := o3.keep _ _ h4 fun h => h
    repeat (first | refine qG ?_ | refine qE rfl rfl ?_ | refine wo_not rfl rfl ?_)
    refine wg_if rfl (fun hb2 => ?_) fun hb2 => ?_
    · have ht : ¬ tyOk false x.ty := fun h => by
        have hb : (!decide (tyOk false x.ty)) = true := hb2
        rw [decide_eq_true h] at hb
        cases hb
      repeat (first | refine qO ?_ | refine qA ?_ | refine qG ?_ | refine qE rfl rfl ?_)
      exact qQ rfl ⟨⟨50, rfl, bad 50 (by decide) (by decide) fun ok => ht ok.1.2⟩, o13⟩
    have ht : tyOk false x.ty := Decidable.byContradiction fun h => by
      have hb : (!decide (tyOk false x.ty)) = false := hb2
      rw [decide_eq_false h] at hb
      cases hb
    have hF3 := h.keep o13 fun _ _ h => h
    obtain ⟨y, hs1, hy, _⟩ := Full.take (E := ES K) (t := 25) (d := d25) (e := 65) (de := d65) (k := i) (kk := .i64) rfl rfl rfl hF3 (by omega)
    have hy : Row A3 4 y (l.take i).length ((l.take i).flatMap fic) := by
      rw [take_len hi, ← take_flat2 (cl := fic) (es := 4) (fun _ => rfl) l i]
      exact hy
    repeat (first | refine qO ?_ | refine qA ?_ | refine qJ rfl rfl ?_)
    refine wo_slice (Q := fun r => r = y) rfl rfl rfl rfl rfl ⟨y, hs1, rfl⟩ ?_
    rintro r rfl
    refine wo_makeFunc rfl rfl rfl ?_
    refine qU rfl rfl orc_cons rfl (contF_spec (P := fun o => decide (o.name = x.name)) o13.wf hy (by rw [take_len hi]; omega) (fun _ => orc_cons) rfl fun A4 z o4 => fields1_spec o4.wf (o4.keep _ _ h4 fun h => h)) ?_
    rintro r A4 ⟨rfl, o4⟩
    have o14 := o13.same o4
    repeat (first | refine qG ?_ | refine qE rfl rfl ?_)
    refine wg_if rfl (fun hb3 => ?_) fun hb3 => ?_
    · repeat (first | refine qO ?_ | refine qA ?_ | refine qG ?_ | refine qE rfl rfl ?_)
      exact qQ rfl ⟨⟨53, rfl, bad 53 (by decide) (by decide) fun ok => by rw [ok.2] at hb3; cases hb3⟩, o14⟩
    · repeat (first | refine qS ?_ | refine xB ?_ | refine qA ?_)
      refine wo_add rfl rfl rfl (by omega) (by omega) ?_
      repeat (first | refine qG ?_ | refine qJ rfl rfl ?_)
      refine xN ?_
      refine wg_le (.put 0 v (.put 8 v (.put 9 (.int .i64 (l.length : Int)) (.put 10 (.int .i64 ((i + 1 : Nat) : Int)) .nil)))) ?_ ⟨rfl, rfl, rfl, rfl, trivial⟩
      refine ih (i + 1) A4 (by omega) ⟨o14, hlt, fun j f hj hf => ?_⟩
      by_cases e : j = i
      · subst e
        rw [hx] at hf
        cases hf
        exact ⟨⟨hn, ht⟩, hb3⟩
      · exact hp j f (by omega) hf
  · have hge : i = l.length := by
      have : ¬ (i : Int) < (l.length : Int) := hge
      omega
    refine wg_exit rfl ?_
    repeat (first | refine qO ?_ | refine qA ?_ | refine qG ?_ | refine qE rfl rfl ?_)
    refine qQ rfl ⟨⟨0, rfl, .inl ⟨rfl, c8, fun j f hf => hp j f ?_ hf⟩⟩, o1⟩
    have := (List.getElem?_eq_some_iff.1 hf).1
    omega
end Go.Proofs.YtiecclkgjcnaoaaGreat.Ae
