/-
  A HIERARCHY WITHOUT CIRCLES IS A TREE: plain, without the program.
-/
import Derived.Test.YtokieeiohfcgdaaAiSyT5
import Derived.Test.YtokieeiohfcgdaaAiSyT7
namespace Go.Proofs.Ytokieeiohfcgdaa.Ae
open Go.AE
set_option linter.unusedVariables false

/-! ### What New makes -/
structure Inv (ns : List Str) (hs : Hs) : Prop where
  obj : lk hs objN = some []
  fau : lk hs fauN = some objN
  keys : ∀ k, has hs k = true → k = objN ∨ k = fauN ∨ k ∈ ns
  sm : ∀ k v, lk hs k = some v → small v
  nz : has hs [] = false
theorem small_obj : small objN := by intro b hb; revert b; decide
theorem inv_base (ns : List Str) : Inv ns base := by
  refine ⟨rfl, rfl, fun k h => ?_, fun k v h => ?_, rfl⟩
  · unfold has base lk at h
    by_cases h1 : k = objN
    · exact .inl h1
    · rw [if_neg h1] at h
      unfold lk at h
      by_cases h2 : k = fauN
      · exact .inr (.inl h2)
      · rw [if_neg h2] at h
        cases h
  · unfold base lk at h
    by_cases h1 : k = objN
    · rw [if_pos h1] at h
      cases h
      exact fun b hb => absurd hb (List.not_mem_nil)
    · rw [if_neg h1] at h
      unfold lk at h
      by_cases h2 : k = fauN
      · rw [if_pos h2] at h
        cases h
        exact small_obj
      · rw [if_neg h2] at h
        cases h
theorem addAll_inv {ns : List Str} : ∀ (l : List (Str × Str)) (hs hs' : Hs), addAll l hs = (hs', 0) → (∀ p ∈ l, p.1 ∈ ns ∧ small p.2) → Inv ns hs → Inv ns hs' ∧ hs'.length = hs.length + l.length
  | [], hs, hs', h, _, hi => by
    cases h
    exact ⟨hi, rfl⟩
  | (n, s) :: l, hs, hs', h, hp, hi => by
    have h : (if ¬ isN n then ([], 50) else if has hs n = true then ([], 53) else addAll l (hs ++ [(n, if s = [] then objN else s)])) = (hs', 0) := h
    by_cases h1 : isN n
    · rw [if_neg (fun h => h h1)] at h
      by_cases h2 : has hs n = true
      · rw [if_pos h2] at h
        cases h
      · rw [if_neg h2] at h
        have hno : has hs n = false := by
          cases hx : has hs n
          · rfl
          · exact absurd hx h2
        have hlk := has_none hno
        have hq := hp _ (List.mem_cons_self ..)
        have hs2 : small (if s = [] then objN else s) := by
          split
          · exact small_obj
          · exact hq.2
        generalize hw : (if s = [] then objN else s) = w at h hs2
        have e : ∀ k, lk (hs ++ [(n, w)]) k = match lk hs k with | some v => some v | none => if k = n then some w else none := fun k => lk_app hs (n, w)
        have hinv : Inv ns (hs ++ [(n, w)]) := by
          refine ⟨by rw [e, hi.obj], by rw [e, hi.fau], fun k hk => ?_, fun k v hk => ?_, ?_⟩
          · cases hx : lk hs k with
            | some v => exact hi.keys k (by unfold has; rw [hx]; rfl)
            | none =>
              by_cases hkn : k = n
              · exact .inr (.inr (hkn ▸ hq.1))
              · unfold has at hk
                rw [e, hx] at hk
                simp [hkn] at hk
          · rw [e] at hk
            cases hx : lk hs k with
            | some u =>
              rw [hx] at hk
              cases hk
              exact hi.sm k v hx
            | none =>
              rw [hx] at hk
              by_cases hkn : k = n
              · simp only [if_pos hkn] at hk
                cases hk
                exact hs2
              · simp [hkn] at hk
          · unfold has
            rw [e, has_none hi.nz]
            have hne : ¬ [] = n := fun h => h1.1 h.symm
            simp only [if_neg hne]
            rfl
        obtain ⟨a, b⟩ := addAll_inv l (hs ++ [(n, w)]) hs' h (fun p hp' => hp p (List.mem_cons_of_mem _ hp')) hinv
        refine ⟨a, ?_⟩
        rw [b, List.length_append, List.length_singleton, List.length_cons]
        omega
    · rw [if_pos h1] at h
      cases h
/-- A tree. -/
structure Tree (hs : Hs) : Prop where
  good : Good hs
  len : hs.length ≤ 100
  obj : has hs objN = true
  ups : ∀ k, has hs k = true → ¬ k = objN → has hs (up hs k) = true
  nz : has hs [] = false
  sm : ∀ k, small (up hs k)
theorem newT_tree {ns ss : List Str} {hs : Hs} (h : newT ns ss = (hs, 0)) (hsm : ∀ s ∈ ss, small s) : Tree hs := by
  unfold newT at h
  by_cases h1 : ns.length ≠ ss.length
  · rw [if_pos h1] at h; cases h
  rw [if_neg h1] at h
  by_cases h2 : 16 < ns.length
  · rw [if_pos h2] at h; cases h
  rw [if_neg h2] at h
  rcases hA : addAll (ns.zip ss) base with ⟨g, e⟩
  rw [hA] at h
  simp only at h
  by_cases h3 : e ≠ 0
  · rw [if_pos h3] at h
    cases h
    exact absurd rfl h3
  rw [if_neg h3] at h
  have h3 : e = 0 := Decidable.byContradiction h3
  subst h3
  by_cases h4 : ∃ n ∈ ns, ¬ has g (up g n) = true
  · rw [if_pos h4] at h; cases h
  rw [if_neg h4] at h
  by_cases h5 : ∃ n ∈ ns, rndF g (g.length + 1) n = true
  · rw [if_pos h5] at h; cases h
  rw [if_neg h5] at h
  cases h
  obtain ⟨hi, hl⟩ := addAll_inv (ns := ns) _ _ _ hA (fun p hp => by
    have := List.of_mem_zip (show (p.1, p.2) ∈ ns.zip ss from hp)
    exact ⟨this.1, hsm _ this.2⟩) (inv_base ns)
  have hlen : hs.length ≤ 100 := by
    rw [hl, List.length_zip]
    show 2 + _ ≤ _
    omega
  have hobj : has hs objN = true := by unfold has; rw [hi.obj]; rfl
  have hup : up hs fauN = objN := by unfold up; rw [hi.fau]; rfl
  refine ⟨fun k hk => ?_, hlen, hobj, fun k hk hne => ?_, hi.nz, fun k => ?_⟩
  · rcases hi.keys k hk with rfl | rfl | hm
    · unfold rndF; rw [if_pos rfl]
    · unfold rndF
      rw [if_neg (by decide), hup]
      cases hs.length with
      | zero => rfl
      | succ m => unfold rndF; rw [if_pos rfl]
    · cases hx : rndF hs (hs.length + 1) k
      · rfl
      · exact absurd ⟨k, hm, hx⟩ h5
  · rcases hi.keys k hk with rfl | rfl | hm
    · exact absurd rfl hne
    · rw [hup]; exact hobj
    · exact Decidable.byContradiction fun h => h4 ⟨k, hm, h⟩
  · unfold up
    cases hx : lk hs k with
    | none => exact fun b hb => absurd hb (List.not_mem_nil)
    | some v => exact hi.sm k v hx

/-! ### Above and below -/
theorem ancF_stable {hs : Hs} : ∀ f k, rndF hs f k = false → ancF hs (f + 1) k = ancF hs f k
  | 0, k, h => by
    unfold rndF at h
    have hk : k = objN := Decidable.byContradiction fun hk => by rw [decide_eq_true hk] at h; cases h
    rw [hk, ancF_obj, ancF_obj]
  | f + 1, k, h => by
    by_cases hk : k = objN
    · rw [hk, ancF_obj, ancF_obj]
    · unfold rndF at h
      rw [if_neg hk] at h
      have := ancF_stable f (up hs k) h
      conv => lhs; unfold ancF
      conv => rhs; unfold ancF
      rw [if_neg hk, if_neg hk, this]
variable {hs : Hs}
theorem anc_obj (t : Tree hs) : anc hs objN = [objN] := by
  unfold anc
  rw [if_pos t.obj, ancF_obj]
theorem anc_step (t : Tree hs) {k : Str} (h : has hs k = true) (hk : ¬ k = objN) : anc hs k = k :: anc hs (up hs k) := by
  obtain ⟨g, e1, e2, e3⟩ := rndF_step (t.good k h) hk
  have e1 : hs.length = g := by omega
  subst e1
  unfold anc
  rw [if_pos h, if_pos (t.ups k h hk), e3, ancF_stable _ _ e2]
/-- By steps up. -/
theorem tree_ind (t : Tree hs) {P : Str → Prop} (h0 : P objN) (h1 : ∀ k, has hs k = true → ¬ k = objN → P (up hs k) → P k) : ∀ k, has hs k = true → P k := by
  have key : ∀ f k, has hs k = true → rndF hs f k = false → P k := by
    intro f
    induction f with
    | zero =>
      intro k h hr
      unfold rndF at hr
      have hk : k = objN := Decidable.byContradiction fun hk => by rw [decide_eq_true hk] at hr; cases hr
      rw [hk]
      exact h0
    | succ f ih =>
      intro k h hr
      by_cases hk : k = objN
      · rw [hk]
        exact h0
      · unfold rndF at hr
        rw [if_neg hk] at hr
        exact h1 k h hk (ih _ (t.ups k h hk) hr)
  exact fun k h => key _ k h (t.good k h)
theorem anc_self (t : Tree hs) {k : Str} (h : has hs k = true) : k ∈ anc hs k := by
  by_cases hk : k = objN
  · rw [hk, anc_obj t]
    exact List.mem_singleton.2 rfl
  · rw [anc_step t h hk]
    exact List.mem_cons_self ..
theorem obj_anc (t : Tree hs) : ∀ k, has hs k = true → objN ∈ anc hs k :=
  tree_ind t (anc_self t t.obj) fun k h hk ih => by
    rw [anc_step t h hk]
    exact List.mem_cons_of_mem _ ih
theorem anc_has (t : Tree hs) : ∀ k, has hs k = true → ∀ u ∈ anc hs k, has hs u = true :=
  tree_ind t (fun u hu => by
    rw [anc_obj t, List.mem_singleton] at hu
    rw [hu]
    exact t.obj) fun k h hk ih u hu => by
    rw [anc_step t h hk] at hu
    rcases List.mem_cons.1 hu with rfl | hu
    · exact h
    · exact ih u hu
theorem anc_trans (t : Tree hs) {b c : Str} : ∀ a, has hs a = true → b ∈ anc hs a → c ∈ anc hs b → c ∈ anc hs a :=
  tree_ind t (fun hb hc => by
    rw [anc_obj t, List.mem_singleton] at hb
    rw [hb] at hc
    exact hc) fun a h ha ih hb hc => by
    rw [anc_step t h ha] at hb
    rcases List.mem_cons.1 hb with rfl | hb
    · exact hc
    · rw [anc_step t h ha]
      exact List.mem_cons_of_mem _ (ih hb hc)
theorem anc_short (t : Tree hs) {b : Str} : ∀ a, has hs a = true → b ∈ anc hs a → b = a ∨ (anc hs b).length < (anc hs a).length :=
  tree_ind t (fun hb => by
    rw [anc_obj t, List.mem_singleton] at hb
    exact .inl hb) fun a h ha ih hb => by
    rw [anc_step t h ha] at hb ⊢
    rcases List.mem_cons.1 hb with rfl | hb
    · exact .inl rfl
    · refine .inr ?_
      rw [List.length_cons]
      rcases ih hb with e | e
      · rw [e]; omega
      · omega
theorem anc_anti (t : Tree hs) {a b : Str} (ha : has hs a = true) (hb : has hs b = true) (h1 : b ∈ anc hs a) (h2 : a ∈ anc hs b) : a = b := by
  rcases anc_short t a ha h1 with e | e
  · exact e.symm
  · rcases anc_short t b hb h2 with e' | e'
    · exact e'
    · omega
theorem com_step (t : Tree hs) {a b : Str} (ha : has hs a = true) (hk : ¬ a = objN) : com hs a b = if a ∈ anc hs b then a else com hs (up hs a) b := by
  unfold com
  rw [anc_step t ha hk]
  rfl
theorem com_lub (t : Tree hs) {b : Str} (hb : has hs b = true) : ∀ a, has hs a = true → com hs a b ∈ anc hs a ∧ com hs a b ∈ anc hs b ∧ ∀ u, u ∈ anc hs a → u ∈ anc hs b → u ∈ anc hs (com hs a b) :=
  tree_ind t (by
    have e : com hs objN b = objN := by
      unfold com
      rw [anc_obj t]
      exact if_pos (obj_anc t b hb)
    rw [e]
    exact ⟨anc_self t t.obj, obj_anc t b hb, fun u h _ => h⟩) fun a ha hk ih => by
    rw [com_step t ha hk]
    by_cases hm : a ∈ anc hs b
    · rw [if_pos hm]
      exact ⟨anc_self t ha, hm, fun u h _ => h⟩
    · rw [if_neg hm]
      obtain ⟨i1, i2, i3⟩ := ih
      refine ⟨?_, i2, fun u hu hub => ?_⟩
      · rw [anc_step t ha hk]
        exact List.mem_cons_of_mem _ i1
      · rw [anc_step t ha hk] at hu
        rcases List.mem_cons.1 hu with rfl | hu
        · exact absurd hub hm
        · exact i3 u hu hub
theorem has_small (t : Tree hs) {a : Str} (sa : small a) : ∀ u ∈ anc hs a, small u := by
  have key : ∀ f k, small k → ∀ u ∈ ancF hs f k, small u := by
    intro f
    induction f with
    | zero =>
      intro k hk u hu
      unfold ancF at hu
      rw [List.mem_singleton] at hu
      rw [hu]
      exact hk
    | succ f ih =>
      intro k hk u hu
      unfold ancF at hu
      rcases List.mem_cons.1 hu with rfl | hu
      · exact hk
      · split at hu
        · exact absurd hu (List.not_mem_nil)
        · exact ih _ (t.sm k) u hu
  intro u hu
  unfold anc at hu
  split at hu
  · exact key _ _ sa u hu
  · exact absurd hu (List.not_mem_nil)
end Go.Proofs.Ytokieeiohfcgdaa.Ae
