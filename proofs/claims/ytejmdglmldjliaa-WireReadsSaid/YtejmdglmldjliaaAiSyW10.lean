/-
  WHAT IS WRITTEN IS READ: plain, without the program.
-/
import Derived.Test.YtejmdglmldjliaaAiSyW5
import Derived.Test.YtejmdglmldjliaaAiSyW9
namespace Go.Proofs.Ytejmdglmldjliaa.Ae
open Go.AE
set_option linter.unusedVariables false

theorem or_add {a x k : Nat} (h : a < 2 ^ k) : a ||| (x * 2 ^ k) = a + x * 2 ^ k := by
  have := Nat.shiftLeft_add_eq_or_of_lt h x
  rw [Nat.shiftLeft_eq] at this
  rw [Nat.or_comm, ← this, Nat.add_comm]
theorem pow7 (i : Nat) : 2 ^ (7 * (i + 1)) = 128 * 2 ^ (7 * i) := by
  rw [show 7 * (i + 1) = 7 * i + 7 from by omega, Nat.pow_add, Nat.mul_comm]
theorem pow7_10 {i : Nat} (h : 2 ^ (7 * (i + 1)) < 18446744073709551616) : i + 1 ≤ 9 := by
  have h2 : (2 : Nat) ^ (7 * (i + 1)) < 2 ^ 64 := h
  have := (Nat.pow_lt_pow_iff_right (by decide : 1 < 2)).1 h2
  omega
theorem orG_eq {a m i : Nat} (ha : a < 2 ^ (7 * i)) (hm : a + m % 128 * 2 ^ (7 * i) < 18446744073709551616) : orG a m i = a + m % 128 * 2 ^ (7 * i) := by
  unfold orG
  rw [Nat.mod_eq_of_lt (by omega), or_add ha]

theorem rdG_grp : ∀ (m i a : Nat) (rest : List Nat), i ≤ 9 → a < 2 ^ (7 * i) → (0 < i → 0 < m) → a + m * 2 ^ (7 * i) < 18446744073709551616 → rdG (grp m ++ rest) i a = (a + m * 2 ^ (7 * i), 0, i + (grp m).length) := by
  intro m
  induction m using Nat.strongRecOn with
  | ind m ih =>
    intro i a rest hi ha h0 hlt
    by_cases hm : m < 128
    · rw [grp_lt hm]
      show rdG (m :: rest) i a = _
      rw [rdG_cons, if_neg, if_neg (by omega), orG_eq ha (by rw [Nat.mod_eq_of_lt hm]; exact hlt), Nat.mod_eq_of_lt hm]
      · rfl
      · rintro (⟨rfl, h1⟩ | ⟨h1, h2⟩)
        · have := h0 (by decide)
          have : m * 2 ^ (7 * 9) < 18446744073709551616 := by omega
          have e : (2 : Nat) ^ (7 * 9) = 9223372036854775808 := by decide
          rw [e] at this
          omega
        · have := h0 h1
          omega
    · rw [grp_ge hm]
      have hp : 0 < 2 ^ (7 * i) := Nat.pow_pos (by decide)
      have hsplit : m * 2 ^ (7 * i) = m % 128 * 2 ^ (7 * i) + m / 128 * 2 ^ (7 * (i + 1)) := by
        rw [pow7, ← Nat.mul_assoc, ← Nat.add_mul]
        congr 1
        omega
      have h1 : 1 ≤ m / 128 := by omega
      have hbig : 2 ^ (7 * (i + 1)) ≤ m / 128 * 2 ^ (7 * (i + 1)) := Nat.le_mul_of_pos_left _ h1
      have hi9 : i + 1 ≤ 9 := pow7_10 (by omega)
      show rdG ((m % 128 + 128) :: (grp (m / 128) ++ rest)) i a = _
      rw [rdG_cons, if_neg (by omega), if_pos (by omega)]
      have e : orG a (m % 128 + 128) i = a + m % 128 * 2 ^ (7 * i) := by
        have : (m % 128 + 128) % 128 = m % 128 := by omega
        have h := orG_eq (m := m % 128 + 128) ha (by rw [this]; omega)
        rw [this] at h
        exact h
      rw [e, ih (m / 128) (by omega) (i + 1) _ rest hi9 _ (fun _ => h1) (by omega)]
      · rw [hsplit, List.length_cons]
        simp only [Prod.mk.injEq, true_and]
        omega
      · rw [pow7]
        have : m % 128 * 2 ^ (7 * i) ≤ 127 * 2 ^ (7 * i) := Nat.mul_le_mul_right _ (by omega)
        omega
theorem rdG_back {n : Nat} (h : n < 18446744073709551616) (rest : List Nat) : rdG (grp n ++ rest) 0 0 = (n, 0, (grp n).length) := by
  have := rdG_grp n 0 0 rest (by decide) (by decide) (fun h => absurd h (by decide)) (by simpa using h)
  simpa using this
/-- What is cut off is too short. -/
theorem rdG_cut : ∀ (m i a k : Nat), i ≤ 9 → (0 < i → 0 < m) → m * 2 ^ (7 * i) < 18446744073709551616 → k < (grp m).length → rdG ((grp m).take k) i a = (0, 30, 0) := by
  intro m
  induction m using Nat.strongRecOn with
  | ind m ih =>
    intro i a k hi h0 hlt hk
    cases k with
    | zero => rfl
    | succ k =>
      by_cases hm : m < 128
      · rw [grp_lt hm] at hk
        simp at hk
      · have hp : 0 < 2 ^ (7 * i) := Nat.pow_pos (by decide)
        have hsplit : m * 2 ^ (7 * i) = m % 128 * 2 ^ (7 * i) + m / 128 * 2 ^ (7 * (i + 1)) := by
          rw [pow7, ← Nat.mul_assoc, ← Nat.add_mul]
          congr 1
          omega
        have h1 : 1 ≤ m / 128 := by omega
        have hbig : 2 ^ (7 * (i + 1)) ≤ m / 128 * 2 ^ (7 * (i + 1)) := Nat.le_mul_of_pos_left _ h1
        have hi9 : i + 1 ≤ 9 := pow7_10 (by omega)
        rw [grp_ge hm] at hk ⊢
        rw [List.take_succ_cons, rdG_cons, if_neg (by omega), if_pos (by omega)]
        exact ih (m / 128) (by omega) (i + 1) _ k hi9 (fun _ => h1) (by omega) (by simpa using hk)
theorem rdG_short {n k : Nat} (h : n < 18446744073709551616) (hk : k < (grp n).length) : rdG ((grp n).take k) 0 0 = (0, 30, 0) :=
  rdG_cut n 0 0 k (by decide) (fun h => absurd h (by decide)) (by simpa using h) hk

theorem unz_zz {z : Int} (h1 : -9223372036854775808 ≤ z) (h2 : z < 9223372036854775808) : unz (zz z) = z := by
  unfold zz unz
  split <;> split <;> omega
theorem rdT_back {s rest : List Nat} {most : Int} (h : s.length < 1000000) (hm : (s.length : Int) ≤ most) : rdT most (grp s.length ++ (s ++ rest)) = (s, 0, (grp s.length).length + s.length) := by
  have e := rdG_back (n := s.length) (by omega) (s ++ rest)
  have c : rdC most (grp s.length ++ (s ++ rest)) = (s.length, 0, (grp s.length).length) := by
    unfold rdC
    rw [e, if_pos rfl, if_neg (by simp only; omega)]
  unfold rdT
  rw [c, if_neg (fun h => h rfl), if_neg (by simp only [List.length_append]; omega)]
  simp only [List.drop_left, List.take_left]
theorem rdT_short {s : List Nat} {most : Int} {k : Nat} (h : s.length < 1000000) (hm : (s.length : Int) ≤ most) (hk : k < (grp s.length ++ s).length) : rdT most ((grp s.length ++ s).take k) = ([], 30, 0) := by
  unfold rdT
  by_cases hg : k < (grp s.length).length
  · have c : rdC most ((grp s.length ++ s).take k) = (0, 30, 0) := by
      unfold rdC
      rw [List.take_append_of_le_length (by omega), rdG_short (by omega) hg, if_neg (by decide)]
    rw [c, if_pos (by decide)]
  · have e : (grp s.length ++ s).take k = grp s.length ++ s.take (k - (grp s.length).length) := by
      rw [List.take_append, List.take_of_length_le (by omega)]
    have c : rdC most ((grp s.length ++ s).take k) = (s.length, 0, (grp s.length).length) := by
      unfold rdC
      rw [e, rdG_back (n := s.length) (by omega), if_pos rfl, if_neg (by simp only; omega)]
    rw [c, if_neg (fun h => h rfl), if_pos]
    rw [List.length_append] at hk
    simp only [List.length_take, List.length_append]
    omega

/-! ### A thing's bytes -/
def enc (x : It) : List Nat := grp x.n ++ (grp (zz (sg x.n)) ++ (grp x.s.length ++ (x.s ++ [x.n % 256])))
theorem grp_256 : ∀ (m : Nat), ∀ b ∈ grp m, b < 256 := by
  intro m
  induction m using Nat.strongRecOn with
  | ind m ih =>
    intro b hb
    by_cases hm : m < 128
    · rw [grp_lt hm] at hb
      simp at hb
      omega
    · rw [grp_ge hm] at hb
      rcases List.mem_cons.1 hb with rfl | hb
      · omega
      · exact ih (m / 128) (by omega) b hb
theorem enc_256 {x : It} (h : x.ok) : ∀ b ∈ enc x, b < 256 := by
  intro b hb
  unfold enc at hb
  simp only [List.mem_append, List.mem_singleton] at hb
  rcases hb with h1 | h1 | h1 | h1 | h1
  · exact grp_256 _ _ h1
  · exact grp_256 _ _ h1
  · exact grp_256 _ _ h1
  · exact h.s _ h1
  · omega
theorem enc_len {x : It} (h : x.ok) (hs : x.s.length ≤ 300) : (enc x).length ≤ 331 := by
  have h1 := grp_len10 h.n
  have h2 := grp_len10 (zz_lt (sg_range x.n).1 (sg_range x.n).2)
  have h3 := grp_len10 (n := x.s.length) (by omega)
  unfold enc
  simp only [List.length_append, List.length_singleton]
  omega
theorem encs_len : ∀ {l : List It}, (∀ x ∈ l, x.ok ∧ x.s.length ≤ 300) → (l.flatMap enc).length ≤ l.length * 331
  | [], _ => by simp
  | x :: l, h => by
    rw [List.flatMap_cons, List.length_append, List.length_cons, Nat.succ_mul]
    have h1 := h x (List.mem_cons_self ..)
    have h2 := enc_len h1.1 h1.2
    have h3 := encs_len (l := l) fun y hy => h y (List.mem_cons_of_mem _ hy)
    omega
end Go.Proofs.Ytejmdglmldjliaa.Ae
