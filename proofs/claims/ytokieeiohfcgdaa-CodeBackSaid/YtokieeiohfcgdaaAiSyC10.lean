/-
  NUMBERS IN GROUPS ARE READ BACK; AND SO ARE INSTRUCTIONS: plain, without the program.
-/
import Derived.Test.YtokieeiohfcgdaaAiSyC5
namespace Go.Proofs.Ytokieeiohfcgdaa.Ae
open Go.AE
set_option linter.unusedVariables false

theorem or_add {a x k : Nat} (h : a < 2 ^ k) : a ||| (x * 2 ^ k) = a + x * 2 ^ k := by
  have := Nat.shiftLeft_add_eq_or_of_lt h x
  rw [Nat.shiftLeft_eq] at this
  rw [Nat.or_comm, ← this, Nat.add_comm]
theorem pow7 (i : Nat) : 2 ^ (7 * (i + 1)) = 128 * 2 ^ (7 * i) := by
  rw [show 7 * (i + 1) = 7 * i + 7 from by omega, Nat.pow_add, Nat.mul_comm]
theorem pow7_10 {i : Nat} (h : 2 ^ (7 * (i + 1)) < 18446744073709551616) : i + 1 ≤ 9 := by
  have h2 : (2 : Nat) ^ (7 * (i + 1)) < 2 ^ 64 := h
  have := (Nat.pow_lt_pow_iff_right (by decide : 1 < 2)).1 h2
  omega
theorem orG_eq {a m i : Nat} (ha : a < 2 ^ (7 * i)) (hm : a + m % 128 * 2 ^ (7 * i) < 18446744073709551616) : orG a m i = a + m % 128 * 2 ^ (7 * i) := by
  unfold orG
  rw [Nat.mod_eq_of_lt (by omega), or_add ha]

theorem rdG_grp : ∀ (m i a : Nat) (rest : List Nat), i ≤ 9 → a < 2 ^ (7 * i) → (0 < i → 0 < m) → a + m * 2 ^ (7 * i) < 18446744073709551616 → rdG (grp m ++ rest) i a = (a + m * 2 ^ (7 * i), 0, i + (grp m).length) := by
  intro m
  induction m using Nat.strongRecOn with
  | ind m ih =>
    intro i a rest hi ha h0 hlt
    by_cases hm : m < 128
    · rw [grp_lt hm]
      show rdG (m :: rest) i a = _
      rw [rdG_cons, if_neg, if_neg (by omega), orG_eq ha (by rw [Nat.mod_eq_of_lt hm]; exact hlt), Nat.mod_eq_of_lt hm]
      · rfl
      · rintro (⟨rfl, h1⟩ | ⟨h1, h2⟩)
        · have := h0 (by decide)
          have : m * 2 ^ (7 * 9) < 18446744073709551616 := by omega
          have e : (2 : Nat) ^ (7 * 9) = 9223372036854775808 := by decide
          rw [e] at this
          omega
        · have := h0 h1
          omega
    · rw [grp_ge hm]
      have hp : 0 < 2 ^ (7 * i) := Nat.pow_pos (by decide)
      have hsplit : m * 2 ^ (7 * i) = m % 128 * 2 ^ (7 * i) + m / 128 * 2 ^ (7 * (i + 1)) := by
        rw [pow7, ← Nat.mul_assoc, ← Nat.add_mul]
        congr 1
        omega
      have h1 : 1 ≤ m / 128 := by omega
      have hbig : 2 ^ (7 * (i + 1)) ≤ m / 128 * 2 ^ (7 * (i + 1)) := Nat.le_mul_of_pos_left _ h1
      have hi9 : i + 1 ≤ 9 := pow7_10 (by omega)
      show rdG ((m % 128 + 128) :: (grp (m / 128) ++ rest)) i a = _
      rw [rdG_cons, if_neg (by omega), if_pos (by omega)]
      have e : orG a (m % 128 + 128) i = a + m % 128 * 2 ^ (7 * i) := by
        have : (m % 128 + 128) % 128 = m % 128 := by omega
        have h := orG_eq (m := m % 128 + 128) ha (by rw [this]; omega)
        rw [this] at h
        exact h
      rw [e, ih (m / 128) (by omega) (i + 1) _ rest hi9 _ (fun _ => h1) (by omega)]
      · rw [hsplit, List.length_cons]
        simp only [Prod.mk.injEq, true_and]
        omega
      · rw [pow7]
        have : m % 128 * 2 ^ (7 * i) ≤ 127 * 2 ^ (7 * i) := Nat.mul_le_mul_right _ (by omega)
        omega
theorem rdG_back {n : Nat} (h : n < 18446744073709551616) (rest : List Nat) : rdG (grp n ++ rest) 0 0 = (n, 0, (grp n).length) := by
  have := rdG_grp n 0 0 rest (by decide) (by decide) (fun h => absurd h (by decide)) (by simpa using h)
  simpa using this
/-- What is cut off is too short. -/
theorem rdG_cut : ∀ (m i a k : Nat), i ≤ 9 → (0 < i → 0 < m) → m * 2 ^ (7 * i) < 18446744073709551616 → k < (grp m).length → rdG ((grp m).take k) i a = (0, 30, 0) := by
  intro m
  induction m using Nat.strongRecOn with
  | ind m ih =>
    intro i a k hi h0 hlt hk
    cases k with
    | zero => rfl
    | succ k =>
      by_cases hm : m < 128
      · rw [grp_lt hm] at hk
        simp at hk
      · have hp : 0 < 2 ^ (7 * i) := Nat.pow_pos (by decide)
        have hsplit : m * 2 ^ (7 * i) = m % 128 * 2 ^ (7 * i) + m / 128 * 2 ^ (7 * (i + 1)) := by
          rw [pow7, ← Nat.mul_assoc, ← Nat.add_mul]
          congr 1
          omega
        have h1 : 1 ≤ m / 128 := by omega
        have hbig : 2 ^ (7 * (i + 1)) ≤ m / 128 * 2 ^ (7 * (i + 1)) := Nat.le_mul_of_pos_left _ h1
        have hi9 : i + 1 ≤ 9 := pow7_10 (by omega)
        rw [grp_ge hm] at hk ⊢
        rw [List.take_succ_cons, rdG_cons, if_neg (by omega), if_pos (by omega)]
        exact ih (m / 128) (by omega) (i + 1) _ k hi9 (fun _ => h1) (by omega) (by simpa using hk)
theorem rdG_short {n k : Nat} (h : n < 18446744073709551616) (hk : k < (grp n).length) : rdG ((grp n).take k) 0 0 = (0, 30, 0) :=
  rdG_cut n 0 0 k (by decide) (fun h => absurd h (by decide)) (by simpa using h) hk

theorem grp_256 : ∀ (m : Nat), ∀ b ∈ grp m, b < 256 := by
  intro m
  induction m using Nat.strongRecOn with
  | ind m ih =>
    intro b hb
    by_cases hm : m < 128
    · rw [grp_lt hm] at hb
      simp at hb
      omega
    · rw [grp_ge hm] at hb
      rcases List.mem_cons.1 hb with rfl | hb
      · omega
      · exact ih (m / 128) (by omega) b hb

/-! ### Instructions -/
theorem rdC_back {n : Nat} (h : n ≤ 200) (rest : List Nat) : rdC 200 (grp n ++ rest) = (n, 0, (grp n).length) := by
  unfold rdC
  rw [rdG_back (by omega), if_pos rfl, if_neg (by simp only; omega)]
theorem encI_256 {x : In} (h : isP x.1 x.2) : ∀ b ∈ encI x, b < 256 := by
  have hr := (opd_range x.1).2.2 h.1
  intro b hb
  unfold encI at hb
  rcases List.mem_cons.1 hb with rfl | hb
  · omega
  · split at hb
    · exact grp_256 _ b hb
    · exact absurd hb (List.not_mem_nil)
theorem rdI_back {x : In} (h : isP x.1 x.2) (rest : List Nat) : rdI (encI x ++ rest) = (x, 0, (encI x).length) := by
  obtain ⟨op, a⟩ := x
  obtain ⟨h1, h2, h3⟩ := h
  have h1 : opd op ≠ -1 := h1
  have h2 : opd op = 0 → a = 0 := h2
  have h3 : opd op ≠ 0 → 0 ≤ a ∧ a ≤ 999 := h3
  have hr := opd_range op
  have hr2 := hr.2.2 h1
  have e : ((op.toNat : Nat) : Int) = op := by omega
  unfold encI rdI
  simp only [List.cons_append, rdB, e, List.drop_succ_cons, List.drop_zero, List.length_cons]
  rw [if_neg (by decide), if_neg (by omega)]
  by_cases h0 : opd op = 0
  · rw [if_pos h0, if_neg (by omega), h2 h0]
    rfl
  · have ha := h3 h0
    have e2 : ((a.toNat : Nat) : Int) = a := by omega
    rw [if_neg h0]
    simp only [if_pos (show 0 < opd op by omega)]
    rw [rdG_back (by omega), if_neg (fun h => h rfl), if_neg (by simp only; omega)]
    simp only [e2, Nat.add_comm]
theorem rdI_short {x : In} (h : isP x.1 x.2) {k : Nat} (hk : k < (encI x).length) : (rdI ((encI x).take k)).2.1 = 30 := by
  obtain ⟨op, a⟩ := x
  obtain ⟨h1, h2, h3⟩ := h
  have h1 : opd op ≠ -1 := h1
  have h3 : opd op ≠ 0 → 0 ≤ a ∧ a ≤ 999 := h3
  have hr := opd_range op
  have hr2 := hr.2.2 h1
  have e : ((op.toNat : Nat) : Int) = op := by omega
  cases k with
  | zero => rfl
  | succ k =>
    unfold encI at hk ⊢
    simp only [List.length_cons] at hk
    by_cases h0 : 0 < opd op
    · have ha := h3 (by omega)
      simp only [if_pos h0] at hk ⊢
      have hk : k < (grp a.toNat).length := by omega
      unfold rdI
      simp only [List.take_succ_cons, rdB, e, List.drop_succ_cons, List.drop_zero]
      rw [if_neg (by decide), if_neg (by omega), if_neg (by omega), rdG_short (by omega) hk, if_pos (by decide)]
      rfl
    · simp only [if_neg h0] at hk
      simp at hk
theorem rdNs_back : ∀ (l : List In) (acc : List In) (rest : List Nat), (∀ x ∈ l, isP x.1 x.2) → rdNs l.length (l.flatMap encI ++ rest) acc = if 0 < rest.length then ([], 31) else (acc ++ l, 0)
  | [], acc, rest, _ => by
    show (if 0 < rest.length then (([] : List In), (31 : Int)) else (acc, 0)) = _
    rw [List.append_nil]
  | x :: l, acc, rest, h => by
    have h1 := rdI_back (h x (List.mem_cons_self ..)) (l.flatMap encI ++ rest)
    have ih := rdNs_back l (acc ++ [x]) rest fun y hy => h y (List.mem_cons_of_mem _ hy)
    rw [List.flatMap_cons, List.append_assoc]
    rw [List.length_cons, rdNs, h1, if_neg (fun h => h rfl)]
    simp only [List.drop_left]
    rw [ih, List.append_assoc]
    rfl
theorem rdNs_short : ∀ (l : List In) (acc : List In) (k : Nat), (∀ x ∈ l, isP x.1 x.2) → k < (l.flatMap encI).length → (rdNs l.length ((l.flatMap encI).take k) acc).2 = 30
  | [], acc, k, _, hk => absurd hk (Nat.not_lt_zero _)
  | x :: l, acc, k, h, hk => by
    have hx := h x (List.mem_cons_self ..)
    rw [List.flatMap_cons] at hk ⊢
    rw [List.length_cons, rdNs]
    by_cases hg : k < (encI x).length
    · have e := rdI_short hx hg
      rw [List.take_append_of_le_length (by omega), e, if_pos (by decide)]
    · have e : (encI x ++ l.flatMap encI).take k = encI x ++ (l.flatMap encI).take (k - (encI x).length) := by
        rw [List.take_append, List.take_of_length_le (by omega)]
      rw [e, rdI_back hx, if_neg (fun h => h rfl)]
      simp only [List.drop_left]
      rw [List.length_append] at hk
      exact rdNs_short l (acc ++ [x]) _ (fun y hy => h y (List.mem_cons_of_mem _ hy)) (by omega)
theorem getL_back {l : List In} (hl : l.length ≤ 200) (h : ∀ x ∈ l, isP x.1 x.2) (rest : List Nat) : getL (grp l.length ++ l.flatMap encI ++ rest) = if 0 < rest.length then ([], 31) else (l, 0) := by
  unfold getL
  rw [List.append_assoc, rdC_back hl, if_neg (fun h => h rfl)]
  simp only [List.drop_left]
  exact rdNs_back l [] rest h
theorem getL_short {l : List In} (hl : l.length ≤ 200) (h : ∀ x ∈ l, isP x.1 x.2) {k : Nat} (hk : k < (grp l.length ++ l.flatMap encI).length) : (getL ((grp l.length ++ l.flatMap encI).take k)).2 = 30 := by
  unfold getL
  by_cases hg : k < (grp l.length).length
  · have c : rdC 200 ((grp l.length ++ l.flatMap encI).take k) = (0, 30, 0) := by
      unfold rdC
      rw [List.take_append_of_le_length (by omega), rdG_short (by omega) hg, if_neg (by decide)]
    rw [c, if_pos (by decide)]
    rfl
  · have e : (grp l.length ++ l.flatMap encI).take k = grp l.length ++ (l.flatMap encI).take (k - (grp l.length).length) := by
      rw [List.take_append, List.take_of_length_le (by omega)]
    rw [e, rdC_back hl, if_neg (fun h => h rfl)]
    simp only [List.drop_left]
    rw [List.length_append] at hk
    exact rdNs_short l [] _ h (by omega)
theorem putL_lt (l : List In) : ∀ b ∈ (putL l).1, b < 256 := by
  unfold putL
  split
  · exact fun b hb => absurd hb (List.not_mem_nil)
  · split
    · exact fun b hb => absurd hb (List.not_mem_nil)
    · rename_i hl hp
      intro b hb
      rcases List.mem_append.1 hb with hb | hb
      · exact grp_256 _ b hb
      · obtain ⟨x, hx, hb⟩ := List.mem_flatMap.1 hb
        exact encI_256 (Decidable.byContradiction fun hn => hp ⟨x, hx, hn⟩) b hb
/-- What was put: too much, or it reads back. -/
theorem putL_cases (l : List In) : ((putL l).1 = [] ∧ (putL l).2 ≠ 0) ∨ ((putL l).2 = 0 ∧ l.length ≤ 200 ∧ (∀ x ∈ l, isP x.1 x.2) ∧ (putL l).1 = grp l.length ++ l.flatMap encI) := by
  unfold putL
  split
  · exact .inl ⟨rfl, by decide⟩
  · split
    · exact .inl ⟨rfl, by decide⟩
    · rename_i hl hp
      exact .inr ⟨rfl, by omega, fun x hx => Decidable.byContradiction fun hn => hp ⟨x, hx, hn⟩, rfl⟩
theorem putL_len (l : List In) : (putL l).1.length ≤ 3000 := by
  rcases putL_cases l with ⟨h, _⟩ | ⟨_, h1, h2, h3⟩
  · rw [h]; exact Nat.zero_le _
  · have a := flat_le h2
    have b := grp_len10 (n := l.length) (by omega)
    rw [h3, List.length_append]
    omega
end Go.Proofs.Ytokieeiohfcgdaa.Ae
