/-
  THE DOCUMENT'S NAMES, by the rules.
-/
import Derived.Test.YtokieeiohfcgdaaAiSyT6
namespace Go.Proofs.Ytokieeiohfcgdaa.Ae
open Go.AE
set_option linter.unusedVariables false
set_option maxRecDepth 100000

def rlB (c : Nat) (first : Bool) : Bool := letB c || (decide (48 ≤ c ∧ c ≤ 57) && !first)
theorem rlB_let {c : Nat} {first : Bool} (h : (97 ≤ c ∧ c ≤ 122) ∨ (65 ≤ c ∧ c ≤ 90) ∨ c = 95 ∨ c = 36) : AV.bool true = AV.bool (rlB c first) := by
  unfold rlB letB
  rw [decide_eq_true h]
  rfl
set_option maxHeartbeats 4000000 in
theorem rletter_spec {K : FuncId} {A : AW} {c : Nat} {first : Bool} : CallP (ES K) 78 [.int .u8 (c : Int), .bool first] A fun r A1 => r = .bool (rlB c first) ∧ A1 = A := by
  refine call_of rfl rfl rfl ?_
  repeat (first | refine wg_seq ?_ | refine wg_region ?_ | refine wo_nil ?_ | refine wo_move rfl rfl ?_ | refine wo_assign rfl rfl ?_ | refine wo_geq rfl rfl rfl ?_)
  by_cases c1 : 97 ≤ c
  · refine wo_is 7 true rfl (decide_eq_true (by omega)) ?_
    repeat (first | refine wo_move rfl rfl ?_ | refine wo_leq rfl rfl rfl ?_ | refine wo_pick rfl rfl rfl ?_ | refine wo_on rfl ?_)
    by_cases c2 : c ≤ 122
    · refine wo_is 11 true rfl (decide_eq_true (by omega)) ?_
      repeat (first | refine wo_nil ?_ | refine wo_move rfl rfl ?_ | refine wo_assign rfl rfl ?_ | refine wo_pick rfl rfl rfl ?_ | refine wo_off rfl rfl ?_)
      exact wg_ret rfl ⟨rlB_let (by omega), rfl⟩
    · refine wo_is 11 false rfl (decide_eq_false (by omega)) ?_
      repeat (first | refine wo_move rfl rfl ?_ | refine wo_geq rfl rfl rfl ?_ | refine wo_on rfl ?_)
      refine wo_is 14 true rfl (decide_eq_true (by omega)) ?_
      repeat (first | refine wo_move rfl rfl ?_ | refine wo_leq rfl rfl rfl ?_ | refine wo_pick rfl rfl rfl ?_ | refine wo_on rfl ?_)
      refine wo_is 19 false rfl (decide_eq_false (by omega)) ?_
      repeat (first | refine wo_move rfl rfl ?_ | refine wo_eql rfl rfl rfl ?_ | refine wo_pick rfl rfl rfl ?_ | refine wo_on rfl ?_)
      refine wo_is 23 false rfl (decide_eq_false (by omega)) ?_
      repeat (first | refine wo_move rfl rfl ?_ | refine wo_eql rfl rfl rfl ?_ | refine wo_pick rfl rfl rfl ?_ | refine wo_on rfl ?_)
      refine wo_is 27 false rfl (decide_eq_false (by omega)) ?_
      repeat (first | refine wo_move rfl rfl ?_ | refine wo_geq rfl rfl rfl ?_ | refine wo_on rfl ?_)
      have hL : letB c = false := decide_eq_false (by omega)
      by_cases d1 : 48 ≤ c
      · refine wo_is 30 true rfl (decide_eq_true (by omega)) ?_
        repeat (first | refine wo_move rfl rfl ?_ | refine wo_leq rfl rfl rfl ?_ | refine wo_pick rfl rfl rfl ?_ | refine wo_on rfl ?_)
        by_cases d2 : c ≤ 57
        · refine wo_is 34 true rfl (decide_eq_true (by omega)) ?_
          repeat (first | refine wo_nil ?_ | refine wo_move rfl rfl ?_ | refine wo_assign rfl rfl ?_ | refine wo_not rfl rfl ?_ | refine wo_pick rfl rfl rfl ?_ | refine wo_on rfl ?_)
          exact wg_ret rfl ⟨congrArg AV.bool (by unfold rlB; rw [hL, decide_eq_true ⟨d1, d2⟩]; cases first <;> rfl), rfl⟩
        · refine wo_is 34 false rfl (decide_eq_false (by omega)) ?_
          repeat (first | refine wo_nil ?_ | refine wo_assign rfl rfl ?_ | refine wo_pick rfl rfl rfl ?_ | refine wo_on rfl ?_ | refine wo_off rfl rfl ?_)
          exact wg_ret rfl ⟨congrArg AV.bool (by unfold rlB; rw [hL, decide_eq_false (fun h => d2 h.2)]; rfl), rfl⟩
      · refine wo_is 30 false rfl (decide_eq_false (by omega)) ?_
        repeat (first | refine wo_nil ?_ | refine wo_move rfl rfl ?_ | refine wo_assign rfl rfl ?_ | refine wo_pick rfl rfl rfl ?_ | refine wo_on rfl ?_ | refine wo_off rfl rfl ?_)
        exact wg_ret rfl ⟨congrArg AV.bool (by unfold rlB; rw [hL, decide_eq_false (fun h => d1 h.1)]; rfl), rfl⟩
  · refine wo_is 7 false rfl (decide_eq_false (by omega)) ?_
    repeat (first | refine wo_move rfl rfl ?_ | refine wo_geq rfl rfl rfl ?_ | refine wo_pick rfl rfl rfl ?_ | refine wo_on rfl ?_ | refine wo_off rfl rfl ?_)
    by_cases c3 : 65 ≤ c
    · refine wo_is 14 true rfl (decide_eq_true (by omega)) ?_
      repeat (first | refine wo_move rfl rfl ?_ | refine wo_leq rfl rfl rfl ?_ | refine wo_pick rfl rfl rfl ?_ | refine wo_on rfl ?_)
      by_cases c4 : c ≤ 90
      · refine wo_is 19 true rfl (decide_eq_true (by omega)) ?_
        repeat (first | refine wo_nil ?_ | refine wo_move rfl rfl ?_ | refine wo_assign rfl rfl ?_ | refine wo_pick rfl rfl rfl ?_ | refine wo_off rfl rfl ?_)
        exact wg_ret rfl ⟨rlB_let (by omega), rfl⟩
      · refine wo_is 19 false rfl (decide_eq_false (by omega)) ?_
        repeat (first | refine wo_move rfl rfl ?_ | refine wo_eql rfl rfl rfl ?_ | refine wo_pick rfl rfl rfl ?_ | refine wo_on rfl ?_)
        by_cases c5 : c = 95
        · refine wo_is 23 true rfl (decide_eq_true (by omega)) ?_
          repeat (first | refine wo_nil ?_ | refine wo_move rfl rfl ?_ | refine wo_assign rfl rfl ?_ | refine wo_pick rfl rfl rfl ?_ | refine wo_off rfl rfl ?_)
          exact wg_ret rfl ⟨rlB_let (by omega), rfl⟩
        · refine wo_is 23 false rfl (decide_eq_false (by omega)) ?_
          repeat (first | refine wo_move rfl rfl ?_ | refine wo_eql rfl rfl rfl ?_ | refine wo_pick rfl rfl rfl ?_ | refine wo_on rfl ?_)
          refine wo_is 27 false rfl (decide_eq_false (by omega)) ?_
          repeat (first | refine wo_move rfl rfl ?_ | refine wo_geq rfl rfl rfl ?_ | refine wo_on rfl ?_)
          have hL : letB c = false := decide_eq_false (by omega)
          by_cases d1 : 48 ≤ c
          · refine wo_is 30 true rfl (decide_eq_true (by omega)) ?_
            repeat (first | refine wo_move rfl rfl ?_ | refine wo_leq rfl rfl rfl ?_ | refine wo_pick rfl rfl rfl ?_ | refine wo_on rfl ?_)
            by_cases d2 : c ≤ 57
            · refine wo_is 34 true rfl (decide_eq_true (by omega)) ?_
              repeat (first | refine wo_nil ?_ | refine wo_move rfl rfl ?_ | refine wo_assign rfl rfl ?_ | refine wo_not rfl rfl ?_ | refine wo_pick rfl rfl rfl ?_ | refine wo_on rfl ?_)
              exact wg_ret rfl ⟨congrArg AV.bool (by unfold rlB; rw [hL, decide_eq_true ⟨d1, d2⟩]; cases first <;> rfl), rfl⟩
            · refine wo_is 34 false rfl (decide_eq_false (by omega)) ?_
              repeat (first | refine wo_nil ?_ | refine wo_assign rfl rfl ?_ | refine wo_pick rfl rfl rfl ?_ | refine wo_on rfl ?_ | refine wo_off rfl rfl ?_)
              exact wg_ret rfl ⟨congrArg AV.bool (by unfold rlB; rw [hL, decide_eq_false (fun h => d2 h.2)]; rfl), rfl⟩
          · refine wo_is 30 false rfl (decide_eq_false (by omega)) ?_
            repeat (first | refine wo_nil ?_ | refine wo_move rfl rfl ?_ | refine wo_assign rfl rfl ?_ | refine wo_pick rfl rfl rfl ?_ | refine wo_on rfl ?_ | refine wo_off rfl rfl ?_)
            exact wg_ret rfl ⟨congrArg AV.bool (by unfold rlB; rw [hL, decide_eq_false (fun h => d1 h.1)]; rfl), rfl⟩
    · refine wo_is 14 false rfl (decide_eq_false (by omega)) ?_
      repeat (first | refine wo_move rfl rfl ?_ | refine wo_eql rfl rfl rfl ?_ | refine wo_pick rfl rfl rfl ?_ | refine wo_on rfl ?_ | refine wo_off rfl rfl ?_)
      refine wo_is 23 false rfl (decide_eq_false (by omega)) ?_
      repeat (first | refine wo_move rfl rfl ?_ | refine wo_eql rfl rfl rfl ?_ | refine wo_pick rfl rfl rfl ?_ | refine wo_on rfl ?_)
      by_cases c6 : c = 36
      · refine wo_is 27 true rfl (decide_eq_true (by omega)) ?_
        repeat (first | refine wo_nil ?_ | refine wo_assign rfl rfl ?_ | refine wo_pick rfl rfl rfl ?_ | refine wo_off rfl rfl ?_)
        exact wg_ret rfl ⟨rlB_let (by omega), rfl⟩
      · refine wo_is 27 false rfl (decide_eq_false (by omega)) ?_
        repeat (first | refine wo_move rfl rfl ?_ | refine wo_geq rfl rfl rfl ?_ | refine wo_on rfl ?_)
        have hL : letB c = false := decide_eq_false (by omega)
        by_cases d1 : 48 ≤ c
        · refine wo_is 30 true rfl (decide_eq_true (by omega)) ?_
          repeat (first | refine wo_move rfl rfl ?_ | refine wo_leq rfl rfl rfl ?_ | refine wo_pick rfl rfl rfl ?_ | refine wo_on rfl ?_)
          by_cases d2 : c ≤ 57
          · refine wo_is 34 true rfl (decide_eq_true (by omega)) ?_
            repeat (first | refine wo_nil ?_ | refine wo_move rfl rfl ?_ | refine wo_assign rfl rfl ?_ | refine wo_not rfl rfl ?_ | refine wo_pick rfl rfl rfl ?_ | refine wo_on rfl ?_)
            exact wg_ret rfl ⟨congrArg AV.bool (by unfold rlB; rw [hL, decide_eq_true ⟨d1, d2⟩]; cases first <;> rfl), rfl⟩
          · refine wo_is 34 false rfl (decide_eq_false (by omega)) ?_
            repeat (first | refine wo_nil ?_ | refine wo_assign rfl rfl ?_ | refine wo_pick rfl rfl rfl ?_ | refine wo_on rfl ?_ | refine wo_off rfl rfl ?_)
            exact wg_ret rfl ⟨congrArg AV.bool (by unfold rlB; rw [hL, decide_eq_false (fun h => d2 h.2)]; rfl), rfl⟩
        · refine wo_is 30 false rfl (decide_eq_false (by omega)) ?_
          repeat (first | refine wo_nil ?_ | refine wo_move rfl rfl ?_ | refine wo_assign rfl rfl ?_ | refine wo_pick rfl rfl rfl ?_ | refine wo_on rfl ?_ | refine wo_off rfl rfl ?_)
          exact wg_ret rfl ⟨congrArg AV.bool (by unfold rlB; rw [hL, decide_eq_false (fun h => d1 h.1)]; rfl), rfl⟩
theorem rname_spec {K : FuncId} {A : AW} {s : Str} (hs : s.length < 9223372036854775807) : CallP (ES K) 58 [.str s] A fun r A1 => r = .bool (decide (isN s)) ∧ A1 = A := by
  refine call_of rfl rfl rfl ?_
  repeat (first | refine wg_seq ?_ | refine wg_block ?_ | refine wg_region ?_ | refine wo_nil ?_ | refine wo_assign rfl rfl ?_)
  refine wg_loop ?_
  refine wg_le (.put 0 (.str s) (.put 3 (.int .i64 ((0 : Nat) : Int)) .nil)) ?_ ⟨rfl, rfl, trivial⟩
  refine wg_ind (ι := Nat) (fun i => s.length - i) (fun i => .put 0 (.str s) (.put 3 (.int .i64 (i : Int)) .nil)) (fun i A2 => A2 = A ∧ i ≤ s.length ∧ ∀ (j : Nat) (c : Nat), j < i → s[j]? = some c → rlB c (decide (j = 0)) = true) ?_ 0 A ⟨rfl, Nat.zero_le _, fun j c h => by omega⟩
  rintro i A2 ⟨rfl, hi, hp⟩ ih
  repeat (first | refine wg_seq ?_ | refine wg_region ?_ | refine wo_nil ?_ | refine wo_move rfl rfl ?_ | refine wo_lss rfl rfl rfl ?_ | refine wo_lenStr rfl rfl rfl ?_)
  refine wg_dec rfl (fun hlt => ?_) fun hge => ?_
  · have hlt : i < s.length := Int.ofNat_lt.1 hlt
    obtain ⟨c, hc⟩ : ∃ c, s[i]? = some c := ⟨s[i], List.getElem?_eq_getElem hlt⟩
    repeat (first | refine wg_seq ?_ | refine wg_skip ?_ | refine wg_block ?_ | refine wg_region ?_ | refine wo_move rfl rfl ?_)
    refine wo_indexStr i rfl rfl rfl rfl rfl rfl (by rw [nth_eq]; exact hc) ?_
    repeat (first | refine wo_move rfl rfl ?_ | refine wo_eql rfl rfl rfl ?_)
    refine wo_call rfl rfl orc_cons rfl rletter_spec ?_
    rintro r A3 ⟨rfl, e3⟩
    subst e3
    have ed : decide ((i : Int) = 0) = decide (i = 0) := decide_eq_decide.2 (by omega)
    repeat (first | refine wo_nil ?_ | refine wo_not rfl rfl ?_)
    refine wg_if rfl (fun hb => ?_) fun hb => ?_
    · have hb : rlB c (decide ((i : Int) = 0)) = false := by
        have hb : (!rlB c (decide ((i : Int) = 0))) = true := hb
        cases hx : rlB c (decide ((i : Int) = 0))
        · rfl
        · rw [hx] at hb; cases hb
      repeat (first | refine wg_seq ?_ | refine wg_region ?_ | refine wo_nil ?_ | refine wo_assign rfl rfl ?_)
      refine wg_ret rfl ⟨congrArg AV.bool (decide_eq_false fun h => ?_).symm, rfl⟩
      rw [ed] at hb
      have h4 := h.2.2.2 c (List.mem_of_getElem? hc)
      have h3 := h.2.2.1
      by_cases i0 : i = 0
      · subst i0
        have e : s.getD 0 0 = c := by rw [List.getD_eq_getElem?_getD, hc]; rfl
        rw [e] at h3
        unfold rlB at hb
        rw [h3] at hb
        cases hb
      · unfold rlB at hb
        unfold partB at h4
        rw [decide_eq_false i0, Bool.not_false, Bool.and_true, h4] at hb
        cases hb
    · have hb : rlB c (decide ((i : Int) = 0)) = true := by
        have hb : (!rlB c (decide ((i : Int) = 0))) = false := hb
        cases hx : rlB c (decide ((i : Int) = 0))
        · rw [hx] at hb; cases hb
        · rfl
      rw [ed] at hb
      repeat (first | refine wg_skip ?_ | refine wg_inBlock ?_ | refine wg_region ?_ | refine wo_move rfl rfl ?_)
      refine wo_add rfl rfl rfl (by omega) (by omega) ?_
      repeat (first | refine wo_nil ?_ | refine wo_assign rfl rfl ?_)
      refine wg_inLoop ?_
      refine wg_le (.put 0 (.str s) (.put 3 (.int .i64 ((i + 1 : Nat) : Int)) .nil)) ?_ ⟨rfl, rfl, trivial⟩
      refine ih (i + 1) _ (by omega) ⟨rfl, hlt, fun j d hj hd => ?_⟩
      by_cases e : j = i
      · subst e
        rw [hc] at hd
        cases hd
        exact hb
      · exact hp j d (by omega) hd
  · have hge : i = s.length := by
      have : ¬ (i : Int) < (s.length : Int) := hge
      omega
    refine wg_exit rfl ?_
    repeat (first | refine wg_seq ?_ | refine wg_region ?_ | refine wo_move rfl rfl ?_ | refine wo_geq rfl rfl rfl ?_ | refine wo_lenStr rfl rfl rfl ?_)
    have hpart : ∀ c ∈ s, partB c = true := fun c hc => by
      obtain ⟨j, hj⟩ := List.getElem?_of_mem hc
      have hjl := (List.getElem?_eq_some_iff.1 hj).1
      have h := hp j c (by omega) hj
      unfold rlB at h
      unfold partB
      cases hl : letB c
      · rw [hl] at h
        simp only [Bool.false_or, Bool.and_eq_true] at h
        rw [h.1]
        rfl
      · rfl
    by_cases c1 : 1 ≤ s.length
    · refine wo_is 20 true rfl (decide_eq_true (by omega)) ?_
      repeat (first | refine wo_nil ?_ | refine wo_move rfl rfl ?_ | refine wo_assign rfl rfl ?_ | refine wo_leq rfl rfl rfl ?_ | refine wo_lenStr rfl rfl rfl ?_ | refine wo_pick rfl rfl rfl ?_ | refine wo_on rfl ?_)
      refine wg_ret rfl ⟨congrArg AV.bool (decide_eq_decide.2 ⟨fun h => ⟨fun e => by rw [e] at c1; exact absurd c1 (by decide), by omega, ?_, hpart⟩, fun h => by have := h.2.1; omega⟩), rfl⟩
      obtain ⟨c, hc⟩ : ∃ c, s[0]? = some c := ⟨s[0], List.getElem?_eq_getElem c1⟩
      have h0 := hp 0 c (by omega) hc
      have e : s.getD 0 0 = c := by rw [List.getD_eq_getElem?_getD, hc]; rfl
      rw [e]
      unfold rlB at h0
      simpa using h0
    · refine wo_is 20 false rfl (decide_eq_false (by omega)) ?_
      repeat (first | refine wo_nil ?_ | refine wo_assign rfl rfl ?_ | refine wo_pick rfl rfl rfl ?_ | refine wo_off rfl rfl ?_)
      exact wg_ret rfl ⟨congrArg AV.bool (decide_eq_false fun h => h.1 (List.eq_nil_of_length_eq_zero (by omega))).symm, rfl⟩
end Go.Proofs.Ytokieeiohfcgdaa.Ae
