/-
  NAMES, by the rules (the program's and the document's IsName); calls of function values.
-/
import Derived.Test.YtiecclkgjcnaoaaGreatAiSyTab
import Derived.Test.YtiecclkgjcnaoaaGreatAiSy5
import Derived.Test.YtiecclkgjcnaoaaGreatAiSy4
namespace Go.Proofs.YtiecclkgjcnaoaaGreat.Ae
open Go.AE
set_option linter.unusedVariables false
set_option maxRecDepth 100000
abbrev Str := List Nat
def small (s : Str) : Prop := ∀ b ∈ s, b < 256
section
variable {E : Env} {C : FnE} {all rest : List Oper} {l : Kn} {A : AW} {K : Kn → AW → Prop} {d : Tmp} {ty : TypeId} {pos : String} {after : Array Edge}
theorem wo_makeFunc {f : FuncId} {a b : Array Operand} {vs us : List AV} (hd : Nat.blt d C.N = true) (ha : evsO l a.toList = some vs) (hb : evsO l b.toList = some us) (h : WO E C all rest (.put d (.func f vs us) l) A K) :
    WO E C all (⟨some d, .makeFunc (.func f) a b, ty, pos, after, none⟩ :: rest) l A K :=
  wo_val hd (fun F hF => by
    show OpE.val (.func f (evs F a.toList) (evs F b.toList)) A = _
    rw [hF.evs ha, hF.evs hb]) h
theorem wo_callV {t : Tmp} {f : FuncId} {first cap : List AV} {args : Array Operand} {tys : Array TypeId} {vs ws : List AV} {Q : AV → AW → Prop} (hd : Nat.blt d C.N = true) (ht : l.find t = some (.func f first cap)) (ha : evsO l args.toList = some vs) (hws : first ++ vs ++ cap = ws)
    (ho : E.orc f ws = none) (hb : R.hasB E f = true) (hc : CallP E f ws A Q) (h : ∀ v A1, Q v A1 → WO E C all rest (.put d v l) A1 K) :
    WO E C all (⟨some d, .call ⟨.value (.tmp t), args, tys⟩, ty, pos, after, none⟩ :: rest) l A K :=
  wo_enter hd (fun F hF => by
    show (match ev F (.tmp t) with
      | .func f first captured => enterA E f (first ++ evs F args.toList ++ captured) A
      | _ => .fail 130) = _
    rw [hF.ev (x := .tmp t) ht]
    simp only [hF.evs ha, hws]
    rw [← R.enterF_eq]
    unfold R.enterF
    rw [ho, hb]) hc h
end
def letB (c : Nat) : Bool := decide ((97 ≤ c ∧ c ≤ 122) ∨ (65 ≤ c ∧ c ≤ 90) ∨ c = 95 ∨ c = 36)
theorem letter_spec {K : FuncId} {A : AW} {c : Nat} : CallP (ES K) 53 [.int .u8 (c : Int)] A fun r A1 => r = .bool (letB c) ∧ A1 = A := by
  unfold letB
  refine call_of rfl rfl rfl ?_
  repeat (first | refine qO ?_ | refine qA ?_ | refine qG ?_ | refine qJ rfl rfl ?_ | refine qE rfl rfl ?_ | refine wo_geq rfl rfl rfl ?_)
  by_cases c1 : 97 ≤ c
  · refine xA 5 true rfl (decide_eq_true (by omega)) ?_
    repeat (first | refine qJ rfl rfl ?_ | refine wo_leq rfl rfl rfl ?_ | refine qR rfl rfl rfl ?_ | refine qX rfl ?_)
    by_cases c2 : c ≤ 122
    · refine xA 9 true rfl (decide_eq_true (by omega)) ?_
      repeat (first | refine qG ?_ | refine qJ rfl rfl ?_ | refine qE rfl rfl ?_ | refine qR rfl rfl rfl ?_ | refine xE rfl rfl ?_)
      exact qQ rfl ⟨congrArg AV.bool (decide_eq_true (by omega)).symm, rfl⟩
    · refine xA 9 false rfl (decide_eq_false (by omega)) ?_
      repeat (first | refine qJ rfl rfl ?_ | refine wo_geq rfl rfl rfl ?_ | refine qX rfl ?_)
      refine xA 12 true rfl (decide_eq_true (by omega)) ?_
      repeat (first | refine qJ rfl rfl ?_ | refine wo_leq rfl rfl rfl ?_ | refine qR rfl rfl rfl ?_ | refine qX rfl ?_)
      refine xA 17 false rfl (decide_eq_false (by omega)) ?_
      repeat (first | refine qJ rfl rfl ?_ | refine xD rfl rfl rfl ?_ | refine qR rfl rfl rfl ?_ | refine qX rfl ?_)
      refine xA 21 false rfl (decide_eq_false (by omega)) ?_
      repeat (first | refine qG ?_ | refine qJ rfl rfl ?_ | refine qE rfl rfl ?_ | refine xD rfl rfl rfl ?_ | refine qR rfl rfl rfl ?_ | refine qX rfl ?_)
      exact qQ rfl ⟨congrArg AV.bool (decide_eq_decide.2 (by omega)), rfl⟩
  · refine xA 5 false rfl (decide_eq_false (by omega)) ?_
    repeat (first | refine qJ rfl rfl ?_ | refine wo_geq rfl rfl rfl ?_ | refine qR rfl rfl rfl ?_ | refine qX rfl ?_ | refine xE rfl rfl ?_)
    by_cases c3 : 65 ≤ c
    · refine xA 12 true rfl (decide_eq_true (by omega)) ?_
      repeat (first | refine qJ rfl rfl ?_ | refine wo_leq rfl rfl rfl ?_ | refine qR rfl rfl rfl ?_ | refine qX rfl ?_)
      by_cases c4 : c ≤ 90
      · refine xA 17 true rfl (decide_eq_true (by omega)) ?_
        repeat (first | refine qG ?_ | refine qJ rfl rfl ?_ | refine qE rfl rfl ?_ | refine qR rfl rfl rfl ?_ | refine xE rfl rfl ?_)
        exact qQ rfl ⟨congrArg AV.bool (decide_eq_true (by omega)).symm, rfl⟩
      · refine xA 17 false rfl (decide_eq_false (by omega)) ?_
        repeat (first | refine qJ rfl rfl ?_ | refine xD rfl rfl rfl ?_ | refine qR rfl rfl rfl ?_ | refine qX rfl ?_)
        by_cases c5 : c = 95
        · refine xA 21 true rfl (decide_eq_true (by omega)) ?_
          repeat (first | refine qG ?_ | refine qE rfl rfl ?_ | refine qR rfl rfl rfl ?_ | refine xE rfl rfl ?_)
          exact qQ rfl ⟨congrArg AV.bool (decide_eq_true (by omega)).symm, rfl⟩
        · refine xA 21 false rfl (decide_eq_false (by omega)) ?_
          repeat (first | refine qG ?_ | refine qJ rfl rfl ?_ | refine qE rfl rfl ?_ | refine xD rfl rfl rfl ?_ | refine qR rfl rfl rfl ?_ | refine qX rfl ?_)
          exact qQ rfl ⟨congrArg AV.bool (decide_eq_decide.2 (by omega)), rfl⟩
    · refine xA 12 false rfl (decide_eq_false (by omega)) ?_
      repeat (first | refine qJ rfl rfl ?_ | refine xD rfl rfl rfl ?_ | refine qR rfl rfl rfl ?_ | refine qX rfl ?_ | refine xE rfl rfl ?_)
      refine xA 21 false rfl (decide_eq_false (by omega)) ?_
      repeat (first | refine qG ?_ | refine qJ rfl rfl ?_ | refine qE rfl rfl ?_ | refine xD rfl rfl rfl ?_ | refine qR rfl rfl rfl ?_ | refine qX rfl ?_)
      exact qQ rfl ⟨congrArg AV.bool (decide_eq_decide.2 (by omega)), rfl⟩
def partB (c : Nat) : Bool := letB c || decide (48 ≤ c ∧ c ≤ 57)
theorem part_spec {K : FuncId} {A : AW} {c : Nat} : CallP (ES K) 54 [.int .u8 (c : Int)] A fun r A1 => r = .bool (partB c) ∧ A1 = A := by
  unfold partB
  refine call_of rfl rfl rfl ?_
  repeat (first | refine qO ?_ | refine qA ?_ | refine qG ?_ | refine qJ rfl rfl ?_ | refine qE rfl rfl ?_)
  refine qU rfl rfl orc_cons rfl letter_spec ?_
  rintro r A1 ⟨rfl, rfl⟩
  repeat refine qJ rfl rfl ?_
  cases hl : letB c with
  | true =>
    repeat (first | refine qG ?_ | refine qE rfl rfl ?_ | refine qR rfl rfl rfl ?_ | refine xE rfl rfl ?_)
    exact qQ rfl ⟨rfl, rfl⟩
  | false =>
    repeat (first | refine qJ rfl rfl ?_ | refine wo_geq rfl rfl rfl ?_ | refine qX rfl ?_)
    by_cases c1 : 48 ≤ c
    · refine xA 8 true rfl (decide_eq_true (by omega)) ?_
      repeat (first | refine qG ?_ | refine qJ rfl rfl ?_ | refine qE rfl rfl ?_ | refine wo_leq rfl rfl rfl ?_ | refine qR rfl rfl rfl ?_ | refine qX rfl ?_)
      exact qQ rfl ⟨congrArg AV.bool (show _ = decide _ from decide_eq_decide.2 (by omega)), rfl⟩
    · refine xA 8 false rfl (decide_eq_false (by omega)) ?_
      repeat (first | refine qG ?_ | refine qE rfl rfl ?_ | refine qR rfl rfl rfl ?_ | refine qX rfl ?_ | refine xE rfl rfl ?_)
      exact qQ rfl ⟨congrArg AV.bool (show _ = decide _ from (decide_eq_false (by omega)).symm), rfl⟩
def isN (s : Str) : Prop := s ≠ [] ∧ s.length ≤ 20 ∧ letB (s.getD 0 0) = true ∧ ∀ c ∈ s, partB c = true
instance (s : Str) : Decidable (isN s) := by unfold isN; exact inferInstance
theorem isName_spec {K : FuncId} {A : AW} {s : Str} : CallP (ES K) 12 [.str s] A fun r A1 => r = .bool (decide (isN s)) ∧ A1 = A := by
  refine call_of rfl rfl rfl ?_
  repeat (first | refine qO ?_ | refine wg_scope ?_ | refine qA ?_ | refine qG ?_ | refine qJ rfl rfl ?_ | refine qE rfl rfl ?_ | refine wo_strEq rfl rfl rfl ?_)
  by_cases c1 : s = []
  · refine xA 6 true rfl (decide_eq_true c1) ?_
    repeat (first | refine qO ?_ | refine qA ?_ | refine qG ?_ | refine qJ rfl rfl ?_ | refine qE rfl rfl ?_ | refine qR rfl rfl rfl ?_ | refine xE rfl rfl ?_ | refine xH rfl ?_)
    exact qQ rfl ⟨congrArg AV.bool (decide_eq_false fun h => h.1 c1).symm, rfl⟩
  refine xA 6 false rfl (decide_eq_false c1) ?_
  repeat (first | refine qJ rfl rfl ?_ | refine wo_gtr rfl rfl rfl ?_ | refine wo_lenStr rfl rfl rfl ?_ | refine qR rfl rfl rfl ?_ | refine qX rfl ?_)
  by_cases c2 : 20 < s.length
  · refine xA 11 true rfl (decide_eq_true (by omega)) ?_
    repeat (first | refine qO ?_ | refine qA ?_ | refine qG ?_ | refine qE rfl rfl ?_ | refine qR rfl rfl rfl ?_ | refine xE rfl rfl ?_ | refine xH rfl ?_)
    exact qQ rfl ⟨congrArg AV.bool (decide_eq_false fun h => by have := h.2.1; omega).symm, rfl⟩
  refine xA 11 false rfl (decide_eq_false (by omega)) ?_
  repeat (first | refine qJ rfl rfl ?_ | refine qX rfl ?_)
  obtain ⟨c, hc⟩ : ∃ c, s[0]? = some c := by
    cases s with
    | nil => exact absurd rfl c1
    | cons c l => exact ⟨c, rfl⟩
  have hcd : s.getD 0 0 = c := by rw [List.getD_eq_getElem?_getD, hc]; rfl
  refine wo_indexStr 0 rfl rfl rfl rfl rfl rfl (by rw [nth_eq]; exact hc) ?_
  repeat refine qX rfl ?_
  refine qU rfl rfl orc_cons rfl letter_spec ?_
  rintro r A1 ⟨rfl, rfl⟩
  repeat (first | refine qG ?_ | refine wo_not rfl rfl ?_ | refine qR rfl rfl rfl ?_ | refine qX rfl ?_)
  refine wg_if rfl (fun hb => ?_) fun hb => ?_
  · repeat (first | refine qO ?_ | refine qA ?_ | refine qG ?_ | refine qE rfl rfl ?_)
    refine qQ rfl ⟨congrArg AV.bool (decide_eq_false fun h => ?_).symm, rfl⟩
    have h3 := h.2.2.1
    rw [hcd] at h3
    rw [h3] at hb
    cases hb
  have hb : letB c = true := by
    cases hx : letB c
    · rw [hx] at hb; cases hb
    · rfl
  repeat (first | refine qO ?_ | refine qS ?_ | refine qA ?_ | refine qG ?_ | refine qE rfl rfl ?_)
  refine wg_label ?_
  refine wg_le (.put 0 (.str s) (.put 3 (.int .i64 ((0 : Nat) : Int)) .nil)) ?_ ⟨rfl, rfl, trivial⟩
  refine wg_ind (ι := Nat) (fun i => s.length - i) (fun i => .put 0 (.str s) (.put 3 (.int .i64 (i : Int)) .nil)) (fun i A2 => A2 = A1 ∧ i ≤ s.length ∧ ∀ c ∈ s.take i, partB c = true) ?_ 0 A1 ⟨rfl, Nat.zero_le _, fun c hc => by simp at hc⟩
  rintro i A2 ⟨rfl, hi, hp⟩ ih
  repeat (first | refine qO ?_ | refine qA ?_ | refine qG ?_ | refine qJ rfl rfl ?_ | refine xD rfl rfl rfl ?_ | refine wo_lenStr rfl rfl rfl ?_)
  refine qV rfl (fun he => ?_) fun he => ?_
  · have he : i = s.length := Int.ofNat_inj.1 he
    subst he
    rw [List.take_length] at hp
    repeat (first | refine qO ?_ | refine qA ?_ | refine qG ?_ | refine qE rfl rfl ?_)
    exact qQ rfl ⟨congrArg AV.bool (decide_eq_true ⟨c1, by omega, by rw [hcd]; exact hb, hp⟩).symm, rfl⟩
  have hlt : i < s.length := by
    have : ¬ (i : Int) = (s.length : Int) := he
    omega
  obtain ⟨d, hd⟩ : ∃ d, s[i]? = some d := ⟨s[i], List.getElem?_eq_getElem hlt⟩
  repeat (first | refine qO ?_ | refine qS ?_ | refine qA ?_ | refine qJ rfl rfl ?_)
  refine wo_indexStr i rfl rfl rfl rfl rfl rfl (by rw [nth_eq]; exact hd) ?_
  refine qU rfl rfl orc_cons rfl part_spec ?_
  rintro r A2 ⟨rfl, e2⟩
  subst e2
  repeat (first | refine qG ?_ | refine wo_not rfl rfl ?_)
  refine wg_if rfl (fun hb2 => ?_) fun hb2 => ?_
  · repeat (first | refine qO ?_ | refine qA ?_ | refine qG ?_ | refine qE rfl rfl ?_)
    refine qQ rfl ⟨congrArg AV.bool (decide_eq_false fun h => ?_).symm, rfl⟩
    have h4 := h.2.2.2 d (List.mem_of_getElem? hd)
    rw [h4] at hb2
    cases hb2
  · have hb2 : partB d = true := by
      cases hx : partB d
      · rw [hx] at hb2; cases hb2
      · rfl
    repeat (first | refine qO ?_ | refine qS ?_ | refine qA ?_ | refine qJ rfl rfl ?_)
    refine wo_add rfl rfl rfl (by omega) (by omega) ?_
    repeat (first | refine qG ?_ | refine qE rfl rfl ?_)
    refine wg_goto rfl (qO (qS ?_))
    refine wg_le (.put 0 (.str s) (.put 3 (.int .i64 ((i + 1 : Nat) : Int)) .nil)) ?_ ⟨rfl, rfl, trivial⟩
    refine ih (i + 1) _ (by omega) ⟨rfl, hlt, fun c hc => ?_⟩
    rw [List.take_add_one, hd] at hc
    rcases List.mem_append.1 hc with hc | hc
    · exact hp c hc
    · simp at hc
      rw [hc]
      exact hb2
def rlB (c : Nat) (first : Bool) : Bool := letB c || (decide (48 ≤ c ∧ c ≤ 57) && !first)
theorem rlB_let {c : Nat} {first : Bool} (h : (97 ≤ c ∧ c ≤ 122) ∨ (65 ≤ c ∧ c ≤ 90) ∨ c = 95 ∨ c = 36) : AV.bool true = AV.bool (rlB c first) := by
  unfold rlB letB
  rw [decide_eq_true h]
  rfl
set_option maxHeartbeats 4000000 in
theorem rletter_spec {K : FuncId} {A : AW} {c : Nat} {first : Bool} : CallP (ES K) 129 [.int .u8 (c : Int), .bool first] A fun r A1 => r = .bool (rlB c first) ∧ A1 = A := by
  refine call_of rfl rfl rfl ?_
  repeat (first | refine qO ?_ | refine qA ?_ | refine qG ?_ | refine qJ rfl rfl ?_ | refine qE rfl rfl ?_ | refine wo_geq rfl rfl rfl ?_)
  by_cases c1 : 97 ≤ c
  · refine xA 7 true rfl (decide_eq_true (by omega)) ?_
    repeat (first | refine qJ rfl rfl ?_ | refine wo_leq rfl rfl rfl ?_ | refine qR rfl rfl rfl ?_ | refine qX rfl ?_)
    by_cases c2 : c ≤ 122
    · refine xA 11 true rfl (decide_eq_true (by omega)) ?_
      repeat (first | refine qG ?_ | refine qJ rfl rfl ?_ | refine qE rfl rfl ?_ | refine qR rfl rfl rfl ?_ | refine xE rfl rfl ?_)
      exact qQ rfl ⟨rlB_let (by omega), rfl⟩
    · refine xA 11 false rfl (decide_eq_false (by omega)) ?_
      repeat (first | refine qJ rfl rfl ?_ | refine wo_geq rfl rfl rfl ?_ | refine qX rfl ?_)
      refine xA 14 true rfl (decide_eq_true (by omega)) ?_
      repeat (first | refine qJ rfl rfl ?_ | refine wo_leq rfl rfl rfl ?_ | refine qR rfl rfl rfl ?_ | refine qX rfl ?_)
      refine xA 19 false rfl (decide_eq_false (by omega)) ?_
      repeat (first | refine qJ rfl rfl ?_ | refine xD rfl rfl rfl ?_ | refine qR rfl rfl rfl ?_ | refine qX rfl ?_)
      refine xA 23 false rfl (decide_eq_false (by omega)) ?_
      repeat (first | refine qJ rfl rfl ?_ | refine xD rfl rfl rfl ?_ | refine qR rfl rfl rfl ?_ | refine qX rfl ?_)
      refine xA 27 false rfl (decide_eq_false (by omega)) ?_
      repeat (first | refine qJ rfl rfl ?_ | refine wo_geq rfl rfl rfl ?_ | refine qX rfl ?_)
      have hL : letB c = false := decide_eq_false (by omega)
      by_cases d1 : 48 ≤ c
      · refine xA 30 true rfl (decide_eq_true (by omega)) ?_
        repeat (first | refine qJ rfl rfl ?_ | refine wo_leq rfl rfl rfl ?_ | refine qR rfl rfl rfl ?_ | refine qX rfl ?_)
        by_cases d2 : c ≤ 57
        · refine xA 34 true rfl (decide_eq_true (by omega)) ?_
          repeat (first | refine qG ?_ | refine qJ rfl rfl ?_ | refine qE rfl rfl ?_ | refine wo_not rfl rfl ?_ | refine qR rfl rfl rfl ?_ | refine qX rfl ?_)
          exact qQ rfl ⟨congrArg AV.bool (by unfold rlB; rw [hL, decide_eq_true ⟨d1, d2⟩]; cases first <;> rfl), rfl⟩
        · refine xA 34 false rfl (decide_eq_false (by omega)) ?_
          repeat (first | refine qG ?_ | refine qE rfl rfl ?_ | refine qR rfl rfl rfl ?_ | refine qX rfl ?_ | refine xE rfl rfl ?_)
          exact qQ rfl ⟨congrArg AV.bool (by unfold rlB; rw [hL, decide_eq_false (fun h => d2 h.2)]; rfl), rfl⟩
      · refine xA 30 false rfl (decide_eq_false (by omega)) ?_
        repeat (first | refine qG ?_ | refine qJ rfl rfl ?_ | refine qE rfl rfl ?_ | refine qR rfl rfl rfl ?_ | refine qX rfl ?_ | refine xE rfl rfl ?_)
        exact qQ rfl ⟨congrArg AV.bool (by unfold rlB; rw [hL, decide_eq_false (fun h => d1 h.1)]; rfl), rfl⟩
  · refine xA 7 false rfl (decide_eq_false (by omega)) ?_
    repeat (first | refine qJ rfl rfl ?_ | refine wo_geq rfl rfl rfl ?_ | refine qR rfl rfl rfl ?_ | refine qX rfl ?_ | refine xE rfl rfl ?_)
    by_cases c3 : 65 ≤ c
    · refine xA 14 true rfl (decide_eq_true (by omega)) ?_
      repeat (first | refine qJ rfl rfl ?_ | refine wo_leq rfl rfl rfl ?_ | refine qR rfl rfl rfl ?_ | refine qX rfl ?_)
      by_cases c4 : c ≤ 90
      · refine xA 19 true rfl (decide_eq_true (by omega)) ?_
        repeat (first | refine qG ?_ | refine qJ rfl rfl ?_ | refine qE rfl rfl ?_ | refine qR rfl rfl rfl ?_ | refine xE rfl rfl ?_)
        exact qQ rfl ⟨rlB_let (by omega), rfl⟩
      · refine xA 19 false rfl (decide_eq_false (by omega)) ?_
        repeat (first | refine qJ rfl rfl ?_ | refine xD rfl rfl rfl ?_ | refine qR rfl rfl rfl ?_ | refine qX rfl ?_)
        by_cases c5 : c = 95
        · refine xA 23 true rfl (decide_eq_true (by omega)) ?_
          repeat (first | refine qG ?_ | refine qJ rfl rfl ?_ | refine qE rfl rfl ?_ | refine qR rfl rfl rfl ?_ | refine xE rfl rfl ?_)
          exact qQ rfl ⟨rlB_let (by omega), rfl⟩
        · refine xA 23 false rfl (decide_eq_false (by omega)) ?_
          repeat (first | refine qJ rfl rfl ?_ | refine xD rfl rfl rfl ?_ | refine qR rfl rfl rfl ?_ | refine qX rfl ?_)
          refine xA 27 false rfl (decide_eq_false (by omega)) ?_
          repeat (first | refine qJ rfl rfl ?_ | refine wo_geq rfl rfl rfl ?_ | refine qX rfl ?_)
          have hL : letB c = false := decide_eq_false (by omega)
          by_cases d1 : 48 ≤ c
          · refine xA 30 true rfl (decide_eq_true (by omega)) ?_
            repeat (first | refine qJ rfl rfl ?_ | refine wo_leq rfl rfl rfl ?_ | refine qR rfl rfl rfl ?_ | refine qX rfl ?_)
            by_cases d2 : c ≤ 57
            · refine xA 34 true rfl (decide_eq_true (by omega)) ?_
              repeat (first | refine qG ?_ | refine qJ rfl rfl ?_ | refine qE rfl rfl ?_ | refine wo_not rfl rfl ?_ | refine qR rfl rfl rfl ?_ | refine qX rfl ?_)
              exact qQ rfl ⟨congrArg AV.bool (by unfold rlB; rw [hL, decide_eq_true ⟨d1, d2⟩]; cases first <;> rfl), rfl⟩
            · refine xA 34 false rfl (decide_eq_false (by omega)) ?_
              repeat (first | refine qG ?_ | refine qE rfl rfl ?_ | refine qR rfl rfl rfl ?_ | refine qX rfl ?_ | refine xE rfl rfl ?_)
              exact qQ rfl ⟨congrArg AV.bool (by unfold rlB; rw [hL, decide_eq_false (fun h => d2 h.2)]; rfl), rfl⟩
          · refine xA 30 false rfl (decide_eq_false (by omega)) ?_
            repeat (first | refine qG ?_ | refine qJ rfl rfl ?_ | refine qE rfl rfl ?_ | refine qR rfl rfl rfl ?_ | refine qX rfl ?_ | refine xE rfl rfl ?_)
            exact qQ rfl ⟨congrArg AV.bool (by unfold rlB; rw [hL, decide_eq_false (fun h => d1 h.1)]; rfl), rfl⟩
    · refine xA 14 false rfl (decide_eq_false (by omega)) ?_
      repeat (first | refine qJ rfl rfl ?_ | refine xD rfl rfl rfl ?_ | refine qR rfl rfl rfl ?_ | refine qX rfl ?_ | refine xE rfl rfl ?_)
      refine xA 23 false rfl (decide_eq_false (by omega)) ?_
      repeat (first | refine qJ rfl rfl ?_ | refine xD rfl rfl rfl ?_ | refine qR rfl rfl rfl ?_ | refine qX rfl ?_)
      by_cases c6 : c = 36
      · refine xA 27 true rfl (decide_eq_true (by omega)) ?_
        repeat (first | refine qG ?_ | refine qE rfl rfl ?_ | refine qR rfl rfl rfl ?_ | refine xE rfl rfl ?_)
        exact qQ rfl ⟨rlB_let (by omega), rfl⟩
      · refine xA 27 false rfl (decide_eq_false (by omega)) ?_
        repeat (first | refine qJ rfl rfl ?_ | refine wo_geq rfl rfl rfl ?_ | refine qX rfl ?_)
        have hL : letB c = false := decide_eq_false (by omega)
        by_cases d1 : 48 ≤ c
        · refine xA 30 true rfl (decide_eq_true (by omega)) ?_
          repeat (first | refine qJ rfl rfl ?_ | refine wo_leq rfl rfl rfl ?_ | refine qR rfl rfl rfl ?_ | refine qX rfl ?_)
          by_cases d2 : c ≤ 57
          · refine xA 34 true rfl (decide_eq_true (by omega)) ?_
            repeat (first | refine qG ?_ | refine qJ rfl rfl ?_ | refine qE rfl rfl ?_ | refine wo_not rfl rfl ?_ | refine qR rfl rfl rfl ?_ | refine qX rfl ?_)
            exact qQ rfl ⟨congrArg AV.bool (by unfold rlB; rw [hL, decide_eq_true ⟨d1, d2⟩]; cases first <;> rfl), rfl⟩
          · refine xA 34 false rfl (decide_eq_false (by omega)) ?_
            repeat (first | refine qG ?_ | refine qE rfl rfl ?_ | refine qR rfl rfl rfl ?_ | refine qX rfl ?_ | refine xE rfl rfl ?_)
            exact qQ rfl ⟨congrArg AV.bool (by unfold rlB; rw [hL, decide_eq_false (fun h => d2 h.2)]; rfl), rfl⟩
        · refine xA 30 false rfl (decide_eq_false (by omega)) ?_
          repeat (first | refine qG ?_ | refine qJ rfl rfl ?_ | refine qE rfl rfl ?_ | refine qR rfl rfl rfl ?_ | refine qX rfl ?_ | refine xE rfl rfl ?_)
          exact qQ rfl ⟨congrArg AV.bool (by unfold rlB; rw [hL, decide_eq_false (fun h => d1 h.1)]; rfl), rfl⟩
theorem rname_spec {K : FuncId} {A : AW} {s : Str} (hs : s.length < 9223372036854775807) : CallP (ES K) 111 [.str s] A fun r A1 => r = .bool (decide (isN s)) ∧ A1 = A := by
  refine call_of rfl rfl rfl ?_
  repeat (first | refine qO ?_ | refine qY ?_ | refine qA ?_ | refine qG ?_ | refine qE rfl rfl ?_)
  refine wg_loop ?_
  refine wg_le (.put 0 (.str s) (.put 3 (.int .i64 ((0 : Nat) : Int)) .nil)) ?_ ⟨rfl, rfl, trivial⟩
  refine wg_ind (ι := Nat) (fun i => s.length - i) (fun i => .put 0 (.str s) (.put 3 (.int .i64 (i : Int)) .nil)) (fun i A2 => A2 = A ∧ i ≤ s.length ∧ ∀ (j : Nat) (c : Nat), j < i → s[j]? = some c → rlB c (decide (j = 0)) = true) ?_ 0 A ⟨rfl, Nat.zero_le _, fun j c h => by omega⟩
  rintro i A2 ⟨rfl, hi, hp⟩ ih
  repeat (first | refine qO ?_ | refine qA ?_ | refine qG ?_ | refine qJ rfl rfl ?_ | refine xM rfl rfl rfl ?_ | refine wo_lenStr rfl rfl rfl ?_)
  refine qV rfl (fun hlt => ?_) fun hge => ?_
  · have hlt : i < s.length := Int.ofNat_lt.1 hlt
    obtain ⟨c, hc⟩ : ∃ c, s[i]? = some c := ⟨s[i], List.getElem?_eq_getElem hlt⟩
    repeat (first | refine qO ?_ | refine qS ?_ | refine qY ?_ | refine qA ?_ | refine qJ rfl rfl ?_)
    refine wo_indexStr i rfl rfl rfl rfl rfl rfl (by rw [nth_eq]; exact hc) ?_
    repeat (first | refine qJ rfl rfl ?_ | refine xD rfl rfl rfl ?_)
    refine qU rfl rfl orc_cons rfl rletter_spec ?_
    rintro r A3 ⟨rfl, e3⟩
    subst e3
    have ed : decide ((i : Int) = 0) = decide (i = 0) := decide_eq_decide.2 (by omega)
    repeat (first | refine qG ?_ | refine wo_not rfl rfl ?_)
    refine wg_if rfl (fun hb => ?_) fun hb => ?_
    · have hb : rlB c (decide ((i : Int) = 0)) = false := by
        have hb : (!rlB c (decide ((i : Int) = 0))) = true := hb
        cases hx : rlB c (decide ((i : Int) = 0))
        · rfl
        · rw [hx] at hb; cases hb
      repeat (first | refine qO ?_ | refine qA ?_ | refine qG ?_ | refine qE rfl rfl ?_)
      refine qQ rfl ⟨congrArg AV.bool (decide_eq_false fun h => ?_).symm, rfl⟩
      rw [ed] at hb
      have h4 := h.2.2.2 c (List.mem_of_getElem? hc)
      have h3 := h.2.2.1
      by_cases i0 : i = 0
      · subst i0
        have e : s.getD 0 0 = c := by rw [List.getD_eq_getElem?_getD, hc]; rfl
        rw [e] at h3
        unfold rlB at hb
        rw [h3] at hb
        cases hb
      · unfold rlB at hb
        unfold partB at h4
        rw [decide_eq_false i0, Bool.not_false, Bool.and_true, h4] at hb
        cases hb
    · have hb : rlB c (decide ((i : Int) = 0)) = true := by
        have hb : (!rlB c (decide ((i : Int) = 0))) = false := hb
        cases hx : rlB c (decide ((i : Int) = 0))
        · rw [hx] at hb; cases hb
        · rfl
      rw [ed] at hb
      repeat (first | refine qS ?_ | refine xB ?_ | refine qA ?_ | refine qJ rfl rfl ?_)
      refine wo_add rfl rfl rfl (by omega) (by omega) ?_
      repeat (first | refine qG ?_ | refine qE rfl rfl ?_)
      refine xN ?_
      refine wg_le (.put 0 (.str s) (.put 3 (.int .i64 ((i + 1 : Nat) : Int)) .nil)) ?_ ⟨rfl, rfl, trivial⟩
      refine ih (i + 1) _ (by omega) ⟨rfl, hlt, fun j d hj hd => ?_⟩
      by_cases e : j = i
      · subst e
        rw [hc] at hd
        cases hd
        exact hb
      · exact hp j d (by omega) hd
  · have hge : i = s.length := by
      have : ¬ (i : Int) < (s.length : Int) := hge
      omega
    refine wg_exit rfl ?_
    repeat (first | refine qO ?_ | refine qA ?_ | refine qJ rfl rfl ?_ | refine wo_geq rfl rfl rfl ?_ | refine wo_lenStr rfl rfl rfl ?_)
    have hpart : ∀ c ∈ s, partB c = true := fun c hc => by
      obtain ⟨j, hj⟩ := List.getElem?_of_mem hc
      have hjl := (List.getElem?_eq_some_iff.1 hj).1
      have h := hp j c (by omega) hj
      unfold rlB at h
      unfold partB
      cases hl : letB c
      · rw [hl] at h
        simp only [Bool.false_or, Bool.and_eq_true] at h
        rw [h.1]
        rfl
      · rfl
    by_cases c1 : 1 ≤ s.length
    · refine xA 20 true rfl (decide_eq_true (by omega)) ?_
      repeat (first | refine qG ?_ | refine qJ rfl rfl ?_ | refine qE rfl rfl ?_ | refine wo_leq rfl rfl rfl ?_ | refine wo_lenStr rfl rfl rfl ?_ | refine qR rfl rfl rfl ?_ | refine qX rfl ?_)
      refine qQ rfl ⟨congrArg AV.bool (decide_eq_decide.2 ⟨fun h => ⟨fun e => by rw [e] at c1; exact absurd c1 (by decide), by omega, ?_, hpart⟩, fun h => by have := h.2.1; omega⟩), rfl⟩
      obtain ⟨c, hc⟩ : ∃ c, s[0]? = some c := ⟨s[0], List.getElem?_eq_getElem c1⟩
      have h0 := hp 0 c (by omega) hc
      have e : s.getD 0 0 = c := by rw [List.getD_eq_getElem?_getD, hc]; rfl
      rw [e]
      unfold rlB at h0
      simpa using h0
    · refine xA 20 false rfl (decide_eq_false (by omega)) ?_
      repeat (first | refine qG ?_ | refine qE rfl rfl ?_ | refine qR rfl rfl rfl ?_ | refine xE rfl rfl ?_)
      exact qQ rfl ⟨congrArg AV.bool (decide_eq_false fun h => h.1 (List.eq_nil_of_length_eq_zero (by omega))).symm, rfl⟩
end Go.Proofs.YtiecclkgjcnaoaaGreat.Ae
