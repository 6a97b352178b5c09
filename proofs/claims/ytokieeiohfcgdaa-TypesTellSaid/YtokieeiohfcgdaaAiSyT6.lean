/-
  NAMES, by the rules: letter, part, IsName; is there a circle.
-/
import Derived.Test.YtokieeiohfcgdaaAiSyT2
namespace Go.Proofs.Ytokieeiohfcgdaa.Ae
open Go.AE
set_option linter.unusedVariables false
set_option maxRecDepth 100000

def letB (c : Nat) : Bool := decide ((97 ≤ c ∧ c ≤ 122) ∨ (65 ≤ c ∧ c ≤ 90) ∨ c = 95 ∨ c = 36)
theorem letter_spec {K : FuncId} {A : AW} {c : Nat} : CallP (ES K) 75 [.int .u8 (c : Int)] A fun r A1 => r = .bool (letB c) ∧ A1 = A := by
  unfold letB
  refine call_of rfl rfl rfl ?_
  repeat (first | refine wg_seq ?_ | refine wg_region ?_ | refine wo_nil ?_ | refine wo_move rfl rfl ?_ | refine wo_assign rfl rfl ?_ | refine wo_geq rfl rfl rfl ?_)
  by_cases c1 : 97 ≤ c
  · refine wo_is 5 true rfl (decide_eq_true (by omega)) ?_
    repeat (first | refine wo_move rfl rfl ?_ | refine wo_leq rfl rfl rfl ?_ | refine wo_pick rfl rfl rfl ?_ | refine wo_on rfl ?_)
    by_cases c2 : c ≤ 122
    · refine wo_is 9 true rfl (decide_eq_true (by omega)) ?_
      repeat (first | refine wo_nil ?_ | refine wo_move rfl rfl ?_ | refine wo_assign rfl rfl ?_ | refine wo_pick rfl rfl rfl ?_ | refine wo_off rfl rfl ?_)
      exact wg_ret rfl ⟨congrArg AV.bool (decide_eq_true (by omega)).symm, rfl⟩
    · refine wo_is 9 false rfl (decide_eq_false (by omega)) ?_
      repeat (first | refine wo_move rfl rfl ?_ | refine wo_geq rfl rfl rfl ?_ | refine wo_on rfl ?_)
      refine wo_is 12 true rfl (decide_eq_true (by omega)) ?_
      repeat (first | refine wo_move rfl rfl ?_ | refine wo_leq rfl rfl rfl ?_ | refine wo_pick rfl rfl rfl ?_ | refine wo_on rfl ?_)
      refine wo_is 17 false rfl (decide_eq_false (by omega)) ?_
      repeat (first | refine wo_move rfl rfl ?_ | refine wo_eql rfl rfl rfl ?_ | refine wo_pick rfl rfl rfl ?_ | refine wo_on rfl ?_)
      refine wo_is 21 false rfl (decide_eq_false (by omega)) ?_
      repeat (first | refine wo_nil ?_ | refine wo_move rfl rfl ?_ | refine wo_assign rfl rfl ?_ | refine wo_eql rfl rfl rfl ?_ | refine wo_pick rfl rfl rfl ?_ | refine wo_on rfl ?_)
      exact wg_ret rfl ⟨congrArg AV.bool (decide_eq_decide.2 (by omega)), rfl⟩
  · refine wo_is 5 false rfl (decide_eq_false (by omega)) ?_
    repeat (first | refine wo_move rfl rfl ?_ | refine wo_geq rfl rfl rfl ?_ | refine wo_pick rfl rfl rfl ?_ | refine wo_on rfl ?_ | refine wo_off rfl rfl ?_)
    by_cases c3 : 65 ≤ c
    · refine wo_is 12 true rfl (decide_eq_true (by omega)) ?_
      repeat (first | refine wo_move rfl rfl ?_ | refine wo_leq rfl rfl rfl ?_ | refine wo_pick rfl rfl rfl ?_ | refine wo_on rfl ?_)
      by_cases c4 : c ≤ 90
      · refine wo_is 17 true rfl (decide_eq_true (by omega)) ?_
        repeat (first | refine wo_nil ?_ | refine wo_move rfl rfl ?_ | refine wo_assign rfl rfl ?_ | refine wo_pick rfl rfl rfl ?_ | refine wo_off rfl rfl ?_)
        exact wg_ret rfl ⟨congrArg AV.bool (decide_eq_true (by omega)).symm, rfl⟩
      · refine wo_is 17 false rfl (decide_eq_false (by omega)) ?_
        repeat (first | refine wo_move rfl rfl ?_ | refine wo_eql rfl rfl rfl ?_ | refine wo_pick rfl rfl rfl ?_ | refine wo_on rfl ?_)
        by_cases c5 : c = 95
        · refine wo_is 21 true rfl (decide_eq_true (by omega)) ?_
          repeat (first | refine wo_nil ?_ | refine wo_assign rfl rfl ?_ | refine wo_pick rfl rfl rfl ?_ | refine wo_off rfl rfl ?_)
          exact wg_ret rfl ⟨congrArg AV.bool (decide_eq_true (by omega)).symm, rfl⟩
        · refine wo_is 21 false rfl (decide_eq_false (by omega)) ?_
          repeat (first | refine wo_nil ?_ | refine wo_move rfl rfl ?_ | refine wo_assign rfl rfl ?_ | refine wo_eql rfl rfl rfl ?_ | refine wo_pick rfl rfl rfl ?_ | refine wo_on rfl ?_)
          exact wg_ret rfl ⟨congrArg AV.bool (decide_eq_decide.2 (by omega)), rfl⟩
    · refine wo_is 12 false rfl (decide_eq_false (by omega)) ?_
      repeat (first | refine wo_move rfl rfl ?_ | refine wo_eql rfl rfl rfl ?_ | refine wo_pick rfl rfl rfl ?_ | refine wo_on rfl ?_ | refine wo_off rfl rfl ?_)
      refine wo_is 21 false rfl (decide_eq_false (by omega)) ?_
      repeat (first | refine wo_nil ?_ | refine wo_move rfl rfl ?_ | refine wo_assign rfl rfl ?_ | refine wo_eql rfl rfl rfl ?_ | refine wo_pick rfl rfl rfl ?_ | refine wo_on rfl ?_)
      exact wg_ret rfl ⟨congrArg AV.bool (decide_eq_decide.2 (by omega)), rfl⟩
def partB (c : Nat) : Bool := letB c || decide (48 ≤ c ∧ c ≤ 57)
theorem part_spec {K : FuncId} {A : AW} {c : Nat} : CallP (ES K) 76 [.int .u8 (c : Int)] A fun r A1 => r = .bool (partB c) ∧ A1 = A := by
  unfold partB
  refine call_of rfl rfl rfl ?_
  repeat (first | refine wg_seq ?_ | refine wg_region ?_ | refine wo_nil ?_ | refine wo_move rfl rfl ?_ | refine wo_assign rfl rfl ?_)
  refine wo_call rfl rfl orc_cons rfl letter_spec ?_
  rintro r A1 ⟨rfl, rfl⟩
  repeat refine wo_move rfl rfl ?_
  cases hl : letB c with
  | true =>
    repeat (first | refine wo_nil ?_ | refine wo_assign rfl rfl ?_ | refine wo_pick rfl rfl rfl ?_ | refine wo_off rfl rfl ?_)
    exact wg_ret rfl ⟨rfl, rfl⟩
  | false =>
    repeat (first | refine wo_move rfl rfl ?_ | refine wo_geq rfl rfl rfl ?_ | refine wo_on rfl ?_)
    by_cases c1 : 48 ≤ c
    · refine wo_is 8 true rfl (decide_eq_true (by omega)) ?_
      repeat (first | refine wo_nil ?_ | refine wo_move rfl rfl ?_ | refine wo_assign rfl rfl ?_ | refine wo_leq rfl rfl rfl ?_ | refine wo_pick rfl rfl rfl ?_ | refine wo_on rfl ?_)
      exact wg_ret rfl ⟨congrArg AV.bool (show _ = decide _ from decide_eq_decide.2 (by omega)), rfl⟩
    · refine wo_is 8 false rfl (decide_eq_false (by omega)) ?_
      repeat (first | refine wo_nil ?_ | refine wo_assign rfl rfl ?_ | refine wo_pick rfl rfl rfl ?_ | refine wo_on rfl ?_ | refine wo_off rfl rfl ?_)
      exact wg_ret rfl ⟨congrArg AV.bool (show _ = decide _ from (decide_eq_false (by omega)).symm), rfl⟩
/-- A name. -/
def isN (s : Str) : Prop := s ≠ [] ∧ s.length ≤ 20 ∧ letB (s.getD 0 0) = true ∧ ∀ c ∈ s, partB c = true
instance (s : Str) : Decidable (isN s) := by unfold isN; exact inferInstance
theorem isName_spec {K : FuncId} {A : AW} {s : Str} : CallP (ES K) 53 [.str s] A fun r A1 => r = .bool (decide (isN s)) ∧ A1 = A := by
  refine call_of rfl rfl rfl ?_
  repeat (first | refine wg_seq ?_ | refine wg_scope ?_ | refine wg_region ?_ | refine wo_nil ?_ | refine wo_move rfl rfl ?_ | refine wo_assign rfl rfl ?_ | refine wo_strEq rfl rfl rfl ?_)
  by_cases c1 : s = []
  · refine wo_is 6 true rfl (decide_eq_true c1) ?_
    repeat (first | refine wg_seq ?_ | refine wg_region ?_ | refine wo_nil ?_ | refine wo_move rfl rfl ?_ | refine wo_assign rfl rfl ?_ | refine wo_pick rfl rfl rfl ?_ | refine wo_off rfl rfl ?_ | refine wg_true rfl ?_)
    exact wg_ret rfl ⟨congrArg AV.bool (decide_eq_false fun h => h.1 c1).symm, rfl⟩
  refine wo_is 6 false rfl (decide_eq_false c1) ?_
  repeat (first | refine wo_move rfl rfl ?_ | refine wo_gtr rfl rfl rfl ?_ | refine wo_lenStr rfl rfl rfl ?_ | refine wo_pick rfl rfl rfl ?_ | refine wo_on rfl ?_)
  by_cases c2 : 20 < s.length
  · refine wo_is 11 true rfl (decide_eq_true (by omega)) ?_
    repeat (first | refine wg_seq ?_ | refine wg_region ?_ | refine wo_nil ?_ | refine wo_assign rfl rfl ?_ | refine wo_pick rfl rfl rfl ?_ | refine wo_off rfl rfl ?_ | refine wg_true rfl ?_)
    exact wg_ret rfl ⟨congrArg AV.bool (decide_eq_false fun h => by have := h.2.1; omega).symm, rfl⟩
  refine wo_is 11 false rfl (decide_eq_false (by omega)) ?_
  repeat (first | refine wo_move rfl rfl ?_ | refine wo_on rfl ?_)
  obtain ⟨c, hc⟩ : ∃ c, s[0]? = some c := by
    cases s with
    | nil => exact absurd rfl c1
    | cons c l => exact ⟨c, rfl⟩
  have hcd : s.getD 0 0 = c := by rw [List.getD_eq_getElem?_getD, hc]; rfl
  refine wo_indexStr 0 rfl rfl rfl rfl rfl rfl (by rw [nth_eq]; exact hc) ?_
  repeat refine wo_on rfl ?_
  refine wo_call rfl rfl orc_cons rfl letter_spec ?_
  rintro r A1 ⟨rfl, rfl⟩
  repeat (first | refine wo_nil ?_ | refine wo_not rfl rfl ?_ | refine wo_pick rfl rfl rfl ?_ | refine wo_on rfl ?_)
  refine wg_if rfl (fun hb => ?_) fun hb => ?_
  · repeat (first | refine wg_seq ?_ | refine wg_region ?_ | refine wo_nil ?_ | refine wo_assign rfl rfl ?_)
    refine wg_ret rfl ⟨congrArg AV.bool (decide_eq_false fun h => ?_).symm, rfl⟩
    have h3 := h.2.2.1
    rw [hcd] at h3
    rw [h3] at hb
    cases hb
  have hb : letB c = true := by
    cases hx : letB c
    · rw [hx] at hb; cases hb
    · rfl
  repeat (first | refine wg_seq ?_ | refine wg_skip ?_ | refine wg_region ?_ | refine wo_nil ?_ | refine wo_assign rfl rfl ?_)
  refine wg_label ?_
  refine wg_le (.put 0 (.str s) (.put 3 (.int .i64 ((0 : Nat) : Int)) .nil)) ?_ ⟨rfl, rfl, trivial⟩
  refine wg_ind (ι := Nat) (fun i => s.length - i) (fun i => .put 0 (.str s) (.put 3 (.int .i64 (i : Int)) .nil)) (fun i A2 => A2 = A1 ∧ i ≤ s.length ∧ ∀ c ∈ s.take i, partB c = true) ?_ 0 A1 ⟨rfl, Nat.zero_le _, fun c hc => by simp at hc⟩
  rintro i A2 ⟨rfl, hi, hp⟩ ih
  repeat (first | refine wg_seq ?_ | refine wg_region ?_ | refine wo_nil ?_ | refine wo_move rfl rfl ?_ | refine wo_eql rfl rfl rfl ?_ | refine wo_lenStr rfl rfl rfl ?_)
  refine wg_dec rfl (fun he => ?_) fun he => ?_
  · have he : i = s.length := Int.ofNat_inj.1 he
    subst he
    rw [List.take_length] at hp
    repeat (first | refine wg_seq ?_ | refine wg_region ?_ | refine wo_nil ?_ | refine wo_assign rfl rfl ?_)
    exact wg_ret rfl ⟨congrArg AV.bool (decide_eq_true ⟨c1, by omega, by rw [hcd]; exact hb, hp⟩).symm, rfl⟩
  have hlt : i < s.length := by
    have : ¬ (i : Int) = (s.length : Int) := he
    omega
  obtain ⟨d, hd⟩ : ∃ d, s[i]? = some d := ⟨s[i], List.getElem?_eq_getElem hlt⟩
  repeat (first | refine wg_seq ?_ | refine wg_skip ?_ | refine wg_region ?_ | refine wo_move rfl rfl ?_)
  refine wo_indexStr i rfl rfl rfl rfl rfl rfl (by rw [nth_eq]; exact hd) ?_
  refine wo_call rfl rfl orc_cons rfl part_spec ?_
  rintro r A2 ⟨rfl, e2⟩
  subst e2
  repeat (first | refine wo_nil ?_ | refine wo_not rfl rfl ?_)
  refine wg_if rfl (fun hb2 => ?_) fun hb2 => ?_
  · repeat (first | refine wg_seq ?_ | refine wg_region ?_ | refine wo_nil ?_ | refine wo_assign rfl rfl ?_)
    refine wg_ret rfl ⟨congrArg AV.bool (decide_eq_false fun h => ?_).symm, rfl⟩
    have h4 := h.2.2.2 d (List.mem_of_getElem? hd)
    rw [h4] at hb2
    cases hb2
  · have hb2 : partB d = true := by
      cases hx : partB d
      · rw [hx] at hb2; cases hb2
      · rfl
    repeat (first | refine wg_seq ?_ | refine wg_skip ?_ | refine wg_region ?_ | refine wo_move rfl rfl ?_)
    refine wo_add rfl rfl rfl (by omega) (by omega) ?_
    repeat (first | refine wo_nil ?_ | refine wo_assign rfl rfl ?_)
    refine wg_goto rfl (wg_seq (wg_skip ?_))
    refine wg_le (.put 0 (.str s) (.put 3 (.int .i64 ((i + 1 : Nat) : Int)) .nil)) ?_ ⟨rfl, rfl, trivial⟩
    refine ih (i + 1) _ (by omega) ⟨rfl, hlt, fun c hc => ?_⟩
    rw [List.take_add_one, hd] at hc
    rcases List.mem_append.1 hc with hc | hc
    · exact hp c hc
    · simp at hc
      rw [hc]
      exact hb2
theorem round_spec {K : FuncId} {A : AW} {fr fm : Nat} {vn : AV} {hs : Hs} {k : Str} (h : Hi A fr fm vn hs) (hn : hs.length ≤ 100) : CallP (ES K) 54 [.ptr fr 0 0, .str k] A fun r A1 => r = .bool (rndF hs (hs.length + 1) k) ∧ A1 = A := by
  refine call_of rfl rfl rfl ?_
  have hc := h.cell
  repeat (first | refine wg_seq ?_ | refine wg_scope ?_ | refine wg_region ?_ | refine wo_nil ?_ | refine wo_assign rfl rfl ?_)
  refine wg_label ?_
  refine wg_le (.put 0 (.ptr fr 0 0) (.put 1 (.str k) (.put 5 (.int .i64 ((0 : Nat) : Int)) .nil))) ?_ ⟨rfl, rfl, rfl, trivial⟩
  refine wg_ind (ι := Nat × Str) (fun i => hs.length + 1 - i.1) (fun i => .put 0 (.ptr fr 0 0) (.put 1 (.str i.2) (.put 5 (.int .i64 (i.1 : Int)) .nil))) (fun i A2 => A2 = A ∧ i.1 ≤ hs.length + 1 ∧ rndF hs (hs.length + 1 - i.1) i.2 = rndF hs (hs.length + 1) k) ?_ (0, k) A ⟨rfl, Nat.zero_le _, rfl⟩
  rintro ⟨i, q⟩ A2 ⟨rfl, hi, hr⟩ ih
  have hi : i ≤ hs.length + 1 := hi
  have hr : rndF hs (hs.length + 1 - i) q = rndF hs (hs.length + 1) k := hr
  repeat (first | refine wg_seq ?_ | refine wg_region ?_ | refine wo_nil ?_ | refine wo_move rfl rfl ?_ | refine wo_strEq rfl rfl rfl ?_)
  refine wg_dec rfl (fun ho => ?_) fun ho => ?_
  · have ho : q = objN := ho
    have e : rndF hs (hs.length + 1 - i) q = false := by
      cases hs.length + 1 - i with
      | zero => unfold rndF; exact decide_eq_false fun h => h ho
      | succ m => unfold rndF; rw [if_pos ho]
    rw [← hr, e]
    repeat (first | refine wg_seq ?_ | refine wg_region ?_ | refine wo_nil ?_ | refine wo_assign rfl rfl ?_)
    exact wg_ret rfl ⟨rfl, rfl⟩
  have ho : ¬ q = objN := ho
  repeat (first | refine wg_seq ?_ | refine wg_skip ?_ | refine wg_region ?_ | refine wo_move rfl rfl ?_ | refine wo_fieldAddr rfl rfl rfl ?_ | refine wo_nilCheck rfl rfl ?_ | refine wo_load rfl rfl rfl rfl (by assumption) rfl ?_)
  refine wo_len rfl rfl rfl (vec_lenV h.buf) ?_
  repeat (first | refine wo_nil ?_ | refine wo_gtr rfl rfl rfl ?_)
  refine wg_dec rfl (fun hl => ?_) fun hl => ?_
  · have hl : hs.length < i := Int.ofNat_lt.1 hl
    have e : rndF hs (hs.length + 1 - i) q = true := by
      rw [show hs.length + 1 - i = 0 from by omega]
      exact decide_eq_true ho
    rw [← hr, e]
    repeat (first | refine wg_seq ?_ | refine wg_region ?_ | refine wo_nil ?_ | refine wo_assign rfl rfl ?_)
    exact wg_ret rfl ⟨rfl, rfl⟩
  have hl : i ≤ hs.length := by
    have : ¬ (hs.length : Int) < (i : Int) := hl
    omega
  have e : rndF hs (hs.length + 1 - i) q = rndF hs (hs.length + 1 - (i + 1)) (up hs q) := by
    rw [show hs.length + 1 - i = (hs.length + 1 - (i + 1)) + 1 from by omega]
    conv => lhs; unfold rndF
    rw [if_neg ho]
  rw [e] at hr
  repeat (first | refine wg_seq ?_ | refine wg_skip ?_ | refine wg_region ?_ | refine wo_move rfl rfl ?_ | refine wo_fieldAddr rfl rfl rfl ?_ | refine wo_nilCheck rfl rfl ?_ | refine wo_load rfl rfl rfl rfl (by assumption) rfl ?_)
  refine wo_lookup rfl rfl rfl (lookup_eq false h.map) ?_
  repeat (first | refine wg_seq ?_ | refine wg_region ?_ | refine wo_nil ?_ | refine wo_move rfl rfl ?_ | refine wo_assign rfl rfl ?_)
  refine wo_add rfl rfl rfl (by omega) (by omega) ?_
  repeat (first | refine wo_nil ?_ | refine wo_assign rfl rfl ?_)
  refine wg_goto rfl (wg_seq (wg_skip ?_))
  refine wg_le (.put 0 (.ptr fr 0 0) (.put 1 (.str (up hs q)) (.put 5 (.int .i64 ((i + 1 : Nat) : Int)) .nil))) ?_ ⟨rfl, rfl, rfl, trivial⟩
  exact ih (i + 1, up hs q) A2 (by simp only; omega) ⟨rfl, by simp only; omega, hr⟩
end Go.Proofs.Ytokieeiohfcgdaa.Ae
