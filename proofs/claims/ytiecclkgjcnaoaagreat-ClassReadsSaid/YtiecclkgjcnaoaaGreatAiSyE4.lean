/-
  THE DOCUMENT'S CHECK, by the rules: IsType, Const, Asked.
-/
import Derived.Test.YtiecclkgjcnaoaaGreatAiSyD13
namespace Go.Proofs.YtiecclkgjcnaoaaGreat.Ae
open Go.AE
set_option linter.unusedVariables false
set_option maxRecDepth 100000
theorem ristype_spec {K : FuncId} {A : AW} {t : Ty'} {void : Bool} (hw : Wf A) (hs : t.2.length < 9223372036854775807) : CallP (ES K) 113 [.agg (tyc t), .bool void] A fun r A1 => r = .bool (decide (tyOk void t)) ∧ Only A A1 none' := by
  obtain ⟨k, s⟩ := t
  refine call_of rfl rfl rfl ?_
  unfold tyc
  repeat (first | refine qO ?_ | refine qA ?_)
  refine wo_box rfl rfl rfl rfl ?_
  refine wo_A (fun A1 => Only A A1 none' ∧ A1.heap.get A.nxt = some (.cells 0 false 2 [.int .i64 k, .str s])) ⟨Only.add hw _, by rw [AW.add_get, if_pos rfl]; rfl⟩ ?_
  rintro A1 ⟨o1, hx⟩
  generalize A.nxt = fx at hx
  have e1 : k = 1 ∨ k = 2 ∨ k = 3 → decide (tyOk void (k, s)) = decide (s = []) := fun h => by
    refine decide_eq_decide.2 ?_
    unfold tyOk
    rw [if_pos h]
  repeat (first | refine qO ?_ | refine qY ?_ | refine qA ?_ | refine qG ?_ | refine qE rfl rfl ?_ | refine qI rfl rfl rfl ?_ | refine qP rfl rfl rfl rfl (by assumption) rfl ?_ | refine xD rfl rfl rfl ?_)
  refine qV rfl (fun c1 => ?_) fun c1 => ?_
  · have c1 : k = 1 := c1
    repeat refine qS ?_
    refine qV rfl (fun _ => ?_) fun h => absurd c1 h
    repeat (first | refine qO ?_ | refine qA ?_ | refine qG ?_ | refine qE rfl rfl ?_ | refine qI rfl rfl rfl ?_ | refine qP rfl rfl rfl rfl (by assumption) rfl ?_ | refine wo_strEq rfl rfl rfl ?_)
    exact qQ rfl ⟨by rw [e1 (.inl c1)]; rfl, o1⟩
  have c1 : ¬ k = 1 := c1
  repeat (first | refine qO ?_ | refine qA ?_ | refine qG ?_ | refine qE rfl rfl ?_ | refine xD rfl rfl rfl ?_)
  refine qV rfl (fun c2 => ?_) fun c2 => ?_
  · have c2 : k = 2 := c2
    repeat refine qS ?_
    refine qV rfl (fun _ => ?_) fun h => absurd c2 h
    repeat (first | refine qO ?_ | refine qA ?_ | refine qG ?_ | refine qE rfl rfl ?_ | refine qI rfl rfl rfl ?_ | refine qP rfl rfl rfl rfl (by assumption) rfl ?_ | refine wo_strEq rfl rfl rfl ?_)
    exact qQ rfl ⟨by rw [e1 (.inr (.inl c2))]; rfl, o1⟩
  have c2 : ¬ k = 2 := c2
  repeat (first | refine qA ?_ | refine qG ?_ | refine qE rfl rfl ?_ | refine xD rfl rfl rfl ?_)
  refine qV rfl (fun c3 => ?_) fun c3 => ?_
  · have c3 : k = 3 := c3
    repeat (first | refine qO ?_ | refine qA ?_ | refine qG ?_ | refine qE rfl rfl ?_ | refine qI rfl rfl rfl ?_ | refine qP rfl rfl rfl rfl (by assumption) rfl ?_ | refine wo_strEq rfl rfl rfl ?_)
    exact qQ rfl ⟨by rw [e1 (.inr (.inr c3))]; rfl, o1⟩
  have c3 : ¬ k = 3 := c3
  have e2 : tyOk void (k, s) ↔ if k = 4 then isN s else k = 0 ∧ void = true ∧ s = [] := by
    unfold tyOk
    rw [if_neg (by rintro (h | h | h) <;> contradiction)]
  repeat (first | refine qO ?_ | refine qA ?_ | refine qG ?_ | refine qE rfl rfl ?_ | refine xD rfl rfl rfl ?_)
  refine qV rfl (fun c4 => ?_) fun c4 => ?_
  · have c4 : k = 4 := c4
    rw [if_pos c4] at e2
    repeat (first | refine qO ?_ | refine qA ?_ | refine qI rfl rfl rfl ?_ | refine qP rfl rfl rfl rfl (by assumption) rfl ?_)
    refine qU rfl rfl orc_cons rfl (rname_spec hs) ?_
    rintro r A2 ⟨rfl, e⟩
    obtain rfl : A1 = A2 := e.symm
    repeat (first | refine qG ?_ | refine qE rfl rfl ?_)
    exact qQ rfl ⟨congrArg AV.bool (decide_eq_decide.2 e2.symm), o1⟩
  have c4 : ¬ k = 4 := c4
  rw [if_neg c4] at e2
  repeat (first | refine qO ?_ | refine qA ?_ | refine qG ?_ | refine qE rfl rfl ?_ | refine xD rfl rfl rfl ?_)
  refine qV rfl (fun c0 => ?_) fun c0 => ?_
  · have c0 : k = 0 := c0
    cases void with
    | false =>
      repeat (first | refine qO ?_ | refine qA ?_ | refine qG ?_ | refine qJ rfl rfl ?_ | refine qE rfl rfl ?_ | refine qR rfl rfl rfl ?_ | refine xE rfl rfl ?_)
      exact qQ rfl ⟨congrArg AV.bool (decide_eq_false fun h => by cases (e2.1 h).2.1).symm, o1⟩
    | true =>
      repeat (first | refine qO ?_ | refine qA ?_ | refine qG ?_ | refine qJ rfl rfl ?_ | refine qE rfl rfl ?_ | refine qI rfl rfl rfl ?_ | refine qP rfl rfl rfl rfl (by assumption) rfl ?_ | refine qR rfl rfl rfl ?_ | refine wo_strEq rfl rfl rfl ?_ | refine qX rfl ?_)
      exact qQ rfl ⟨congrArg AV.bool (decide_eq_decide.2 ⟨fun h => e2.2 ⟨c0, rfl, h⟩, fun h => (e2.1 h).2.2⟩), o1⟩
  · have c0 : ¬ k = 0 := c0
    repeat (first | refine qO ?_ | refine qS ?_ | refine xB ?_ | refine qA ?_ | refine qG ?_ | refine qE rfl rfl ?_)
    exact qQ rfl ⟨congrArg AV.bool (decide_eq_false fun h => c0 (e2.1 h).1).symm, o1⟩
theorem not_of' {p : Prop} [Decidable p] (h : (!decide p) = true) : ¬ p := fun k => by
  rw [decide_eq_true k] at h
  cases h
theorem yes_of' {p : Prop} [Decidable p] (h : (!decide p) = false) : p := Decidable.byContradiction fun k => by
  rw [decide_eq_false k] at h
  cases h
def raskP (op : Int) : Int := if op = 1 then 1 else if op = 2 then 2 else if op = 25 ∨ op = 36 ∨ op = 37 then 3 else if op = 26 ∨ op = 27 then 4 else if op = 32 ∨ op = 43 then 5 else 0
theorem raskP_eq {op : Int} (h : opd op = 2) : raskP op = askP op := by
  have hr : 0 ≤ op ∧ op < 48 := (opd_range op).2.2 (by omega)
  obtain ⟨n, rfl⟩ : ∃ n : Nat, op = (n : Int) := ⟨op.toNat, by omega⟩
  have hn : n < 48 := by omega
  have key : ∀ m : Fin 48, opd ((m.val : Nat) : Int) = 2 → raskP ((m.val : Nat) : Int) = askP ((m.val : Nat) : Int) := by decide
  exact key ⟨n, hn⟩ h
theorem rasks_spec {K : FuncId} {A : AW} {op : Int} : CallP (ES K) 133 [.int .i64 op] A fun r A1 => r = .int .i64 (raskP op) ∧ A1 = A := by
  refine call_of rfl rfl rfl ?_
  unfold raskP
  repeat (first | refine qO ?_ | refine qY ?_ | refine qA ?_ | refine qG ?_ | refine qJ rfl rfl ?_ | refine qE rfl rfl ?_ | refine xD rfl rfl rfl ?_)
  refine qV rfl (fun c1 => ?_) fun c1 => ?_
  · rw [if_pos c1]
    repeat (first | refine qO ?_ | refine qA ?_ | refine qG ?_ | refine qE rfl rfl ?_)
    exact qQ rfl ⟨rfl, rfl⟩
  rw [if_neg c1]
  repeat (first | refine qO ?_ | refine qA ?_ | refine qG ?_ | refine qE rfl rfl ?_ | refine xD rfl rfl rfl ?_)
  refine qV rfl (fun c2 => ?_) fun c2 => ?_
  · rw [if_pos c2]
    repeat (first | refine qO ?_ | refine qA ?_ | refine qG ?_ | refine qE rfl rfl ?_)
    exact qQ rfl ⟨rfl, rfl⟩
  rw [if_neg c2]
  repeat (first | refine qO ?_ | refine qA ?_ | refine qG ?_ | refine qE rfl rfl ?_ | refine xD rfl rfl rfl ?_)
  refine qV rfl (fun c3 => ?_) fun c3 => ?_
  · have c3 : op = 25 := c3
    rw [if_pos (.inl c3)]
    repeat refine qS ?_
    refine qV rfl (fun _ => ?_) fun h => absurd c3 h
    repeat (first | refine qO ?_ | refine qA ?_ | refine qG ?_ | refine qE rfl rfl ?_)
    exact qQ rfl ⟨rfl, rfl⟩
  have c3 : ¬ op = 25 := c3
  repeat (first | refine qO ?_ | refine qA ?_ | refine qG ?_ | refine qE rfl rfl ?_ | refine xD rfl rfl rfl ?_)
  refine qV rfl (fun c4 => ?_) fun c4 => ?_
  · have c4 : op = 36 := c4
    rw [if_pos (.inr (.inl c4))]
    repeat refine qS ?_
    refine qV rfl (fun _ => ?_) fun h => absurd c4 h
    repeat (first | refine qO ?_ | refine qA ?_ | refine qG ?_ | refine qE rfl rfl ?_)
    exact qQ rfl ⟨rfl, rfl⟩
  have c4 : ¬ op = 36 := c4
  repeat (first | refine qA ?_ | refine qG ?_ | refine qE rfl rfl ?_ | refine xD rfl rfl rfl ?_)
  refine qV rfl (fun c5 => ?_) fun c5 => ?_
  · rw [if_pos (.inr (.inr c5))]
    repeat (first | refine qO ?_ | refine qA ?_ | refine qG ?_ | refine qE rfl rfl ?_)
    exact qQ rfl ⟨rfl, rfl⟩
  have c5 : ¬ op = 37 := c5
  rw [if_neg (by rintro (h | h | h) <;> contradiction)]
  repeat (first | refine qO ?_ | refine qA ?_ | refine qG ?_ | refine qE rfl rfl ?_ | refine xD rfl rfl rfl ?_)
  refine qV rfl (fun c6 => ?_) fun c6 => ?_
  · have c6 : op = 26 := c6
    rw [if_pos (.inl c6)]
    repeat refine qS ?_
    refine qV rfl (fun _ => ?_) fun h => absurd c6 h
    repeat (first | refine qO ?_ | refine qA ?_ | refine qG ?_ | refine qE rfl rfl ?_)
    exact qQ rfl ⟨rfl, rfl⟩
  have c6 : ¬ op = 26 := c6
  repeat (first | refine qA ?_ | refine qG ?_ | refine qE rfl rfl ?_ | refine xD rfl rfl rfl ?_)
  refine qV rfl (fun c7 => ?_) fun c7 => ?_
  · rw [if_pos (.inr c7)]
    repeat (first | refine qO ?_ | refine qA ?_ | refine qG ?_ | refine qE rfl rfl ?_)
    exact qQ rfl ⟨rfl, rfl⟩
  have c7 : ¬ op = 27 := c7
  rw [if_neg (by rintro (h | h) <;> contradiction)]
  repeat (first | refine qO ?_ | refine qA ?_ | refine qG ?_ | refine qE rfl rfl ?_ | refine xD rfl rfl rfl ?_)
  refine qV rfl (fun c8 => ?_) fun c8 => ?_
  · have c8 : op = 32 := c8
    rw [if_pos (.inl c8)]
    repeat refine qS ?_
    refine qV rfl (fun _ => ?_) fun h => absurd c8 h
    repeat (first | refine qO ?_ | refine qA ?_ | refine qG ?_ | refine qE rfl rfl ?_)
    exact qQ rfl ⟨rfl, rfl⟩
  have c8 : ¬ op = 32 := c8
  repeat (first | refine qA ?_ | refine qG ?_ | refine qE rfl rfl ?_ | refine xD rfl rfl rfl ?_)
  refine qV rfl (fun c9 => ?_) fun c9 => ?_
  · rw [if_pos (.inr c9)]
    repeat (first | refine qO ?_ | refine qA ?_ | refine qG ?_ | refine qE rfl rfl ?_)
    exact qQ rfl ⟨rfl, rfl⟩
  · have c9 : ¬ op = 43 := c9
    rw [if_neg (by rintro (h | h) <;> contradiction)]
    repeat (first | refine qO ?_ | refine qS ?_ | refine xB ?_ | refine qA ?_ | refine qG ?_ | refine qE rfl rfl ?_)
    exact qQ rfl ⟨rfl, rfl⟩
set_option maxHeartbeats 4000000 in
theorem rconstant_spec {K : FuncId} {A : AW} {c : CoT} (hw : Wf A) (l1 : c.cls.length < 9223372036854775807) (l2 : c.name.length < 9223372036854775807) : CallP (ES K) 112 [.agg (coc c)] A fun r A1 => (∃ e, r = .int .i64 e ∧ Err e (coOk c)) ∧ Only A A1 none' := by
  obtain ⟨k, i, x, s, n⟩ := c
  have l1 : s.length < 9223372036854775807 := l1
  have l2 : n.length < 9223372036854775807 := l2
  refine call_of rfl rfl rfl ?_
  unfold coc
  repeat (first | refine qO ?_ | refine qA ?_)
  refine wo_box rfl rfl rfl rfl ?_
  refine wo_A (fun A1 => Only A A1 none' ∧ A1.heap.get A.nxt = some (.cells 0 false 5 [.int .i64 k, .int .i64 i, .cplx .f64 x.1 x.2, .str s, .str n])) ⟨Only.add hw _, by rw [AW.add_get, if_pos rfl]; rfl⟩ ?_
  rintro A1 ⟨o1, hx⟩
  generalize A.nxt = fx at hx
  repeat (first | refine qO ?_ | refine qA ?_ | refine qG ?_ | refine qE rfl rfl ?_ | refine qI rfl rfl rfl ?_ | refine qP rfl rfl rfl rfl (by assumption) rfl ?_)
  refine qU rfl rfl orc_cons rfl bits_spec ?_
  rintro r A2 ⟨rfl, e2⟩
  obtain rfl : A1 = A2 := e2.symm
  repeat (first | refine qG ?_ | refine qJ rfl rfl ?_ | refine qE rfl rfl ?_ | refine xK rfl rfl rfl ?_)
  repeat refine qO ?_
  refine wg_regionTo (.put 1 (.ptr fx 0 0) (.put 5 (.bool (decide (x = (0, 0)))) .nil)) ?_ ?_
  · repeat (first | refine qJ rfl rfl ?_ | refine xD rfl rfl rfl ?_)
    obtain ⟨a, b⟩ := x
    by_cases ca : (a : Int) = 0
    · refine xA 14 true rfl (decide_eq_true ca) ?_
      repeat (first | refine qG ?_ | refine qJ rfl rfl ?_ | refine qE rfl rfl ?_ | refine xD rfl rfl rfl ?_ | refine qR rfl rfl rfl ?_ | refine qX rfl ?_)
      exact ⟨rfl, rfl, congrArg (fun x => some (AV.bool x)) (decide_eq_decide.2 ⟨fun h => by have h : (b : Int) = 0 := h; simp only [Prod.mk.injEq]; omega, fun h => by simp only [Prod.mk.injEq] at h; show (b : Int) = 0; omega⟩), trivial⟩
    · refine xA 14 false rfl (decide_eq_false ca) ?_
      repeat (first | refine qG ?_ | refine qE rfl rfl ?_ | refine qR rfl rfl rfl ?_ | refine xE rfl rfl ?_)
      exact ⟨rfl, rfl, congrArg (fun x => some (AV.bool x)) (decide_eq_false fun h => by simp only [Prod.mk.injEq] at h; omega).symm, trivial⟩
  by_cases c1 : k = 1
  · subst c1
    repeat (first | refine qO ?_ | refine qY ?_ | refine qA ?_ | refine qG ?_ | refine qJ rfl rfl ?_ | refine qE rfl rfl ?_ | refine qI rfl rfl rfl ?_ | refine qP rfl rfl rfl rfl (by assumption) rfl ?_ | refine xD rfl rfl rfl ?_ | refine wo_not rfl rfl ?_ | refine xH rfl ?_)
    by_cases cB : ¬ (x = (0, 0))
    · refine xA 24 true rfl (by rw [decide_eq_false cB]; rfl) ?_
      repeat (first | refine qO ?_ | refine qA ?_ | refine qG ?_ | refine qJ rfl rfl ?_ | refine qE rfl rfl ?_ | refine qR rfl rfl rfl ?_ | refine xE rfl rfl ?_ | refine xH rfl ?_)
      exact qQ rfl ⟨⟨51, rfl, .inr ⟨by decide, by decide, fun ok => cB (ok.2.2.1.resolve_left (by show ¬ (1 : Int) = 2; decide))⟩⟩, o1⟩
    have cB : x = (0, 0) := Decidable.byContradiction cB
    refine xA 24 false rfl (by rw [decide_eq_true cB]; rfl) ?_
    repeat (first | refine qJ rfl rfl ?_ | refine qI rfl rfl rfl ?_ | refine qP rfl rfl rfl rfl (by assumption) rfl ?_ | refine qR rfl rfl rfl ?_ | refine wo_strNe rfl rfl rfl ?_ | refine qX rfl ?_)
    by_cases cS : ¬ (s = [])
    · refine xA 29 true rfl (decide_eq_true cS) ?_
      repeat (first | refine qO ?_ | refine qA ?_ | refine qG ?_ | refine qE rfl rfl ?_ | refine qR rfl rfl rfl ?_ | refine xE rfl rfl ?_ | refine xH rfl ?_)
      exact qQ rfl ⟨⟨51, rfl, .inr ⟨by decide, by decide, fun ok => cS (ok.2.2.2.1.resolve_left (by show ¬ (3 : Int) ≤ 1; decide))⟩⟩, o1⟩
    have cS : s = [] := Decidable.byContradiction cS
    refine xA 29 false rfl (decide_eq_false fun h => h cS) ?_
    repeat (first | refine qG ?_ | refine qI rfl rfl rfl ?_ | refine qP rfl rfl rfl rfl (by assumption) rfl ?_ | refine qR rfl rfl rfl ?_ | refine wo_strNe rfl rfl rfl ?_ | refine qX rfl ?_)
    refine qV rfl (fun cX => ?_) fun cY => ?_
    · repeat (first | refine qO ?_ | refine qA ?_ | refine qG ?_ | refine qE rfl rfl ?_)
      exact qQ rfl ⟨⟨51, rfl, .inr ⟨by decide, by decide, fun ok => cX (ok.2.2.2.2.1.resolve_left (by show ¬ (4 : Int) ≤ 1; decide))⟩⟩, o1⟩
    have cN : n = [] := Decidable.byContradiction cY
    repeat (first | refine qO ?_ | refine qS ?_ | refine qA ?_ | refine qG ?_ | refine qE rfl rfl ?_)
    exact qQ rfl ⟨⟨0, rfl, .inl ⟨rfl, ⟨by show (1 : Int) ≤ 1; decide, by show (1 : Int) ≤ 5; decide⟩, (.inl rfl), (.inr cB), (.inr cS), (.inr cN), (fun h => absurd h (by show ¬ (3 : Int) ≤ 1; decide)), (fun h => absurd h (by show ¬ (4 : Int) ≤ 1; decide))⟩⟩, o1⟩
  by_cases c2 : k = 2
  · subst c2
    repeat (first | refine qO ?_ | refine qY ?_ | refine qA ?_ | refine qG ?_ | refine qJ rfl rfl ?_ | refine qE rfl rfl ?_ | refine qI rfl rfl rfl ?_ | refine qP rfl rfl rfl rfl (by assumption) rfl ?_ | refine xD rfl rfl rfl ?_ | refine xL rfl rfl rfl ?_ | refine xH rfl ?_ | refine wg_false rfl ?_)
    by_cases cI : ¬ (i = 0)
    · refine xA 39 true rfl (decide_eq_true cI) ?_
      repeat (first | refine qO ?_ | refine qA ?_ | refine qG ?_ | refine qJ rfl rfl ?_ | refine qE rfl rfl ?_ | refine qR rfl rfl rfl ?_ | refine xE rfl rfl ?_ | refine xH rfl ?_)
      exact qQ rfl ⟨⟨51, rfl, .inr ⟨by decide, by decide, fun ok => cI (ok.2.1.resolve_left (by show ¬ (2 : Int) = 1; decide))⟩⟩, o1⟩
    have cI : i = 0 := Decidable.byContradiction cI
    refine xA 39 false rfl (decide_eq_false fun h => h cI) ?_
    repeat (first | refine qJ rfl rfl ?_ | refine qI rfl rfl rfl ?_ | refine qP rfl rfl rfl rfl (by assumption) rfl ?_ | refine qR rfl rfl rfl ?_ | refine wo_strNe rfl rfl rfl ?_ | refine qX rfl ?_)
    by_cases cS : ¬ (s = [])
    · refine xA 44 true rfl (decide_eq_true cS) ?_
      repeat (first | refine qO ?_ | refine qA ?_ | refine qG ?_ | refine qE rfl rfl ?_ | refine qR rfl rfl rfl ?_ | refine xE rfl rfl ?_ | refine xH rfl ?_)
      exact qQ rfl ⟨⟨51, rfl, .inr ⟨by decide, by decide, fun ok => cS (ok.2.2.2.1.resolve_left (by show ¬ (3 : Int) ≤ 2; decide))⟩⟩, o1⟩
    have cS : s = [] := Decidable.byContradiction cS
    refine xA 44 false rfl (decide_eq_false fun h => h cS) ?_
    repeat (first | refine qG ?_ | refine qI rfl rfl rfl ?_ | refine qP rfl rfl rfl rfl (by assumption) rfl ?_ | refine qR rfl rfl rfl ?_ | refine wo_strNe rfl rfl rfl ?_ | refine qX rfl ?_)
    refine qV rfl (fun cX => ?_) fun cY => ?_
    · repeat (first | refine qO ?_ | refine qA ?_ | refine qG ?_ | refine qE rfl rfl ?_)
      exact qQ rfl ⟨⟨51, rfl, .inr ⟨by decide, by decide, fun ok => cX (ok.2.2.2.2.1.resolve_left (by show ¬ (4 : Int) ≤ 2; decide))⟩⟩, o1⟩
    have cN : n = [] := Decidable.byContradiction cY
    repeat (first | refine qO ?_ | refine qS ?_ | refine qA ?_ | refine qG ?_ | refine qE rfl rfl ?_)
    exact qQ rfl ⟨⟨0, rfl, .inl ⟨rfl, ⟨by show (1 : Int) ≤ 2; decide, by show (2 : Int) ≤ 5; decide⟩, (.inr cI), (.inl rfl), (.inr cS), (.inr cN), (fun h => absurd h (by show ¬ (3 : Int) ≤ 2; decide)), (fun h => absurd h (by show ¬ (4 : Int) ≤ 2; decide))⟩⟩, o1⟩
  by_cases c3 : k = 3
  · subst c3
    repeat (first | refine qO ?_ | refine qY ?_ | refine qA ?_ | refine qG ?_ | refine qJ rfl rfl ?_ | refine qE rfl rfl ?_ | refine qI rfl rfl rfl ?_ | refine qP rfl rfl rfl rfl (by assumption) rfl ?_ | refine xD rfl rfl rfl ?_ | refine wo_not rfl rfl ?_ | refine xH rfl ?_ | refine wg_false rfl ?_)
    by_cases cB : ¬ (x = (0, 0))
    · refine xA 53 true rfl (by rw [decide_eq_false cB]; rfl) ?_
      repeat (first | refine qO ?_ | refine qA ?_ | refine qG ?_ | refine qJ rfl rfl ?_ | refine qE rfl rfl ?_ | refine qR rfl rfl rfl ?_ | refine xE rfl rfl ?_ | refine xH rfl ?_)
      exact qQ rfl ⟨⟨51, rfl, .inr ⟨by decide, by decide, fun ok => cB (ok.2.2.1.resolve_left (by show ¬ (3 : Int) = 2; decide))⟩⟩, o1⟩
    have cB : x = (0, 0) := Decidable.byContradiction cB
    refine xA 53 false rfl (by rw [decide_eq_true cB]; rfl) ?_
    repeat (first | refine qJ rfl rfl ?_ | refine qI rfl rfl rfl ?_ | refine qP rfl rfl rfl rfl (by assumption) rfl ?_ | refine xL rfl rfl rfl ?_ | refine qR rfl rfl rfl ?_ | refine qX rfl ?_)
    by_cases cI : ¬ (i = 0)
    · refine xA 58 true rfl (decide_eq_true cI) ?_
      repeat (first | refine qO ?_ | refine qA ?_ | refine qG ?_ | refine qE rfl rfl ?_ | refine qR rfl rfl rfl ?_ | refine xE rfl rfl ?_ | refine xH rfl ?_)
      exact qQ rfl ⟨⟨51, rfl, .inr ⟨by decide, by decide, fun ok => cI (ok.2.1.resolve_left (by show ¬ (3 : Int) = 1; decide))⟩⟩, o1⟩
    have cI : i = 0 := Decidable.byContradiction cI
    refine xA 58 false rfl (decide_eq_false fun h => h cI) ?_
    repeat (first | refine qG ?_ | refine qI rfl rfl rfl ?_ | refine qP rfl rfl rfl rfl (by assumption) rfl ?_ | refine qR rfl rfl rfl ?_ | refine wo_strNe rfl rfl rfl ?_ | refine qX rfl ?_)
    refine qV rfl (fun cX => ?_) fun cY => ?_
    · repeat (first | refine qO ?_ | refine qA ?_ | refine qG ?_ | refine qE rfl rfl ?_)
      exact qQ rfl ⟨⟨51, rfl, .inr ⟨by decide, by decide, fun ok => cX (ok.2.2.2.2.1.resolve_left (by show ¬ (4 : Int) ≤ 3; decide))⟩⟩, o1⟩
    have cN : n = [] := Decidable.byContradiction cY
    repeat (first | refine qO ?_ | refine qS ?_ | refine qA ?_ | refine qI rfl rfl rfl ?_ | refine qP rfl rfl rfl rfl (by assumption) rfl ?_)
    refine qU rfl rfl orc_cons rfl (rname_spec l1) ?_
    rintro r A4 ⟨rfl, e4⟩
    subst e4
    repeat (first | refine qG ?_ | refine wo_not rfl rfl ?_)
    refine wg_if rfl (fun hb => ?_) fun hb => ?_
    · repeat (first | refine qO ?_ | refine qA ?_ | refine qG ?_ | refine qE rfl rfl ?_)
      exact qQ rfl ⟨⟨50, rfl, .inr ⟨by decide, by decide, fun ok => not_of' hb (ok.2.2.2.2.2.1 (by show (3 : Int) ≤ 3; decide))⟩⟩, o1⟩
    have hs := yes_of' hb
    repeat (first | refine qO ?_ | refine qS ?_ | refine qA ?_ | refine qG ?_ | refine qE rfl rfl ?_)
    exact qQ rfl ⟨⟨0, rfl, .inl ⟨rfl, ⟨by show (1 : Int) ≤ 3; decide, by show (3 : Int) ≤ 5; decide⟩, (.inr cI), (.inr cB), (.inl (by show (3 : Int) ≤ 3; decide)), (.inr cN), (fun _ => hs), (fun h => absurd h (by show ¬ (4 : Int) ≤ 3; decide))⟩⟩, o1⟩
  by_cases c4 : k = 4
  · subst c4
    repeat (first | refine qO ?_ | refine qS ?_ | refine qY ?_ | refine qA ?_ | refine qG ?_ | refine qJ rfl rfl ?_ | refine qE rfl rfl ?_ | refine qI rfl rfl rfl ?_ | refine qP rfl rfl rfl rfl (by assumption) rfl ?_ | refine xD rfl rfl rfl ?_ | refine wo_not rfl rfl ?_ | refine xH rfl ?_ | refine wg_false rfl ?_)
    by_cases cB : ¬ (x = (0, 0))
    · refine xA 72 true rfl (by rw [decide_eq_false cB]; rfl) ?_
      repeat (first | refine qO ?_ | refine qA ?_ | refine qG ?_ | refine qE rfl rfl ?_ | refine qR rfl rfl rfl ?_ | refine xE rfl rfl ?_ | refine xH rfl ?_)
      exact qQ rfl ⟨⟨51, rfl, .inr ⟨by decide, by decide, fun ok => cB (ok.2.2.1.resolve_left (by show ¬ (4 : Int) = 2; decide))⟩⟩, o1⟩
    have cB : x = (0, 0) := Decidable.byContradiction cB
    refine xA 72 false rfl (by rw [decide_eq_true cB]; rfl) ?_
    repeat (first | refine qG ?_ | refine qI rfl rfl rfl ?_ | refine qP rfl rfl rfl rfl (by assumption) rfl ?_ | refine xL rfl rfl rfl ?_ | refine qR rfl rfl rfl ?_ | refine qX rfl ?_)
    refine qV rfl (fun cX => ?_) fun cY => ?_
    · repeat (first | refine qO ?_ | refine qA ?_ | refine qG ?_ | refine qE rfl rfl ?_)
      exact qQ rfl ⟨⟨51, rfl, .inr ⟨by decide, by decide, fun ok => cX (ok.2.1.resolve_left (by show ¬ (4 : Int) = 1; decide))⟩⟩, o1⟩
    have cI : i = 0 := Decidable.byContradiction cY
    repeat (first | refine qO ?_ | refine qS ?_ | refine qA ?_ | refine qI rfl rfl rfl ?_ | refine qP rfl rfl rfl rfl (by assumption) rfl ?_)
    refine qU rfl rfl orc_cons rfl (rname_spec l1) ?_
    rintro r A4 ⟨rfl, e4⟩
    subst e4
    repeat (first | refine qJ rfl rfl ?_ | refine wo_not rfl rfl ?_)
    by_cases hs : ¬ (isN s)
    · refine xA 81 true rfl (by rw [decide_eq_false hs]; rfl) ?_
      repeat (first | refine qO ?_ | refine qA ?_ | refine qG ?_ | refine qE rfl rfl ?_ | refine qR rfl rfl rfl ?_ | refine xE rfl rfl ?_ | refine xH rfl ?_)
      exact qQ rfl ⟨⟨50, rfl, .inr ⟨by decide, by decide, fun ok => hs (ok.2.2.2.2.2.1 (by show (3 : Int) ≤ 4; decide))⟩⟩, o1⟩
    have hs : isN s := Decidable.byContradiction hs
    refine xA 81 false rfl (by rw [decide_eq_true hs]; rfl) ?_
    repeat (first | refine qI rfl rfl rfl ?_ | refine qP rfl rfl rfl rfl (by assumption) rfl ?_ | refine qX rfl ?_)
    refine qU rfl rfl orc_cons rfl (rname_spec l2) ?_
    rintro r A5 ⟨rfl, e5⟩
    subst e5
    repeat (first | refine qG ?_ | refine wo_not rfl rfl ?_ | refine qR rfl rfl rfl ?_ | refine qX rfl ?_)
    refine wg_if rfl (fun hb => ?_) fun hb => ?_
    · repeat (first | refine qO ?_ | refine qA ?_ | refine qG ?_ | refine qE rfl rfl ?_)
      exact qQ rfl ⟨⟨50, rfl, .inr ⟨by decide, by decide, fun ok => not_of' hb (ok.2.2.2.2.2.2 (by show (4 : Int) ≤ 4; decide))⟩⟩, o1⟩
    have hn := yes_of' hb
    repeat (first | refine qO ?_ | refine qS ?_ | refine qA ?_ | refine qG ?_ | refine qE rfl rfl ?_)
    exact qQ rfl ⟨⟨0, rfl, .inl ⟨rfl, ⟨by show (1 : Int) ≤ 4; decide, by show (4 : Int) ≤ 5; decide⟩, (.inr cI), (.inr cB), (.inl (by show (3 : Int) ≤ 4; decide)), (.inl (by show (4 : Int) ≤ 4; decide)), (fun _ => hs), (fun _ => hn)⟩⟩, o1⟩
  by_cases c5 : k = 5
  · subst c5
    repeat (first | refine qO ?_ | refine qY ?_ | refine qA ?_ | refine qG ?_ | refine qJ rfl rfl ?_ | refine qE rfl rfl ?_ | refine qI rfl rfl rfl ?_ | refine qP rfl rfl rfl rfl (by assumption) rfl ?_ | refine xD rfl rfl rfl ?_ | refine wo_not rfl rfl ?_ | refine xH rfl ?_ | refine wg_false rfl ?_)
    by_cases cB : ¬ (x = (0, 0))
    · refine xA 72 true rfl (by rw [decide_eq_false cB]; rfl) ?_
      repeat (first | refine qO ?_ | refine qA ?_ | refine qG ?_ | refine qE rfl rfl ?_ | refine qR rfl rfl rfl ?_ | refine xE rfl rfl ?_ | refine xH rfl ?_)
      exact qQ rfl ⟨⟨51, rfl, .inr ⟨by decide, by decide, fun ok => cB (ok.2.2.1.resolve_left (by show ¬ (5 : Int) = 2; decide))⟩⟩, o1⟩
    have cB : x = (0, 0) := Decidable.byContradiction cB
    refine xA 72 false rfl (by rw [decide_eq_true cB]; rfl) ?_
    repeat (first | refine qG ?_ | refine qI rfl rfl rfl ?_ | refine qP rfl rfl rfl rfl (by assumption) rfl ?_ | refine xL rfl rfl rfl ?_ | refine qR rfl rfl rfl ?_ | refine qX rfl ?_)
    refine qV rfl (fun cX => ?_) fun cY => ?_
    · repeat (first | refine qO ?_ | refine qA ?_ | refine qG ?_ | refine qE rfl rfl ?_)
      exact qQ rfl ⟨⟨51, rfl, .inr ⟨by decide, by decide, fun ok => cX (ok.2.1.resolve_left (by show ¬ (5 : Int) = 1; decide))⟩⟩, o1⟩
    have cI : i = 0 := Decidable.byContradiction cY
    repeat (first | refine qO ?_ | refine qS ?_ | refine qA ?_ | refine qI rfl rfl rfl ?_ | refine qP rfl rfl rfl rfl (by assumption) rfl ?_)
    refine qU rfl rfl orc_cons rfl (rname_spec l1) ?_
    rintro r A4 ⟨rfl, e4⟩
    subst e4
    repeat (first | refine qJ rfl rfl ?_ | refine wo_not rfl rfl ?_)
    by_cases hs : ¬ (isN s)
    · refine xA 81 true rfl (by rw [decide_eq_false hs]; rfl) ?_
      repeat (first | refine qO ?_ | refine qA ?_ | refine qG ?_ | refine qE rfl rfl ?_ | refine qR rfl rfl rfl ?_ | refine xE rfl rfl ?_ | refine xH rfl ?_)
      exact qQ rfl ⟨⟨50, rfl, .inr ⟨by decide, by decide, fun ok => hs (ok.2.2.2.2.2.1 (by show (3 : Int) ≤ 5; decide))⟩⟩, o1⟩
    have hs : isN s := Decidable.byContradiction hs
    refine xA 81 false rfl (by rw [decide_eq_true hs]; rfl) ?_
    repeat (first | refine qI rfl rfl rfl ?_ | refine qP rfl rfl rfl rfl (by assumption) rfl ?_ | refine qX rfl ?_)
    refine qU rfl rfl orc_cons rfl (rname_spec l2) ?_
    rintro r A5 ⟨rfl, e5⟩
    subst e5
    repeat (first | refine qG ?_ | refine wo_not rfl rfl ?_ | refine qR rfl rfl rfl ?_ | refine qX rfl ?_)
    refine wg_if rfl (fun hb => ?_) fun hb => ?_
    · repeat (first | refine qO ?_ | refine qA ?_ | refine qG ?_ | refine qE rfl rfl ?_)
      exact qQ rfl ⟨⟨50, rfl, .inr ⟨by decide, by decide, fun ok => not_of' hb (ok.2.2.2.2.2.2 (by show (4 : Int) ≤ 5; decide))⟩⟩, o1⟩
    have hn := yes_of' hb
    repeat (first | refine qO ?_ | refine qS ?_ | refine qA ?_ | refine qG ?_ | refine qE rfl rfl ?_)
    exact qQ rfl ⟨⟨0, rfl, .inl ⟨rfl, ⟨by show (1 : Int) ≤ 5; decide, by show (5 : Int) ≤ 5; decide⟩, (.inr cI), (.inr cB), (.inl (by show (3 : Int) ≤ 5; decide)), (.inl (by show (4 : Int) ≤ 5; decide)), (fun _ => hs), (fun _ => hn)⟩⟩, o1⟩
  repeat (first | refine qO ?_ | refine qY ?_ | refine qA ?_ | refine qG ?_ | refine qE rfl rfl ?_ | refine qI rfl rfl rfl ?_ | refine qP rfl rfl rfl rfl (by assumption) rfl ?_ | refine xD rfl rfl rfl ?_)
  refine qV rfl (fun h => absurd h c1) fun _ => ?_
  repeat (first | refine qO ?_ | refine qA ?_ | refine qG ?_ | refine qE rfl rfl ?_ | refine xD rfl rfl rfl ?_)
  refine qV rfl (fun h => absurd h c2) fun _ => ?_
  repeat (first | refine qO ?_ | refine qA ?_ | refine qG ?_ | refine qE rfl rfl ?_ | refine xD rfl rfl rfl ?_)
  refine qV rfl (fun h => absurd h c3) fun _ => ?_
  repeat (first | refine qO ?_ | refine qA ?_ | refine qG ?_ | refine qE rfl rfl ?_ | refine xD rfl rfl rfl ?_)
  refine qV rfl (fun h => absurd h c4) fun _ => ?_
  repeat (first | refine qA ?_ | refine qG ?_ | refine qE rfl rfl ?_ | refine xD rfl rfl rfl ?_)
  refine qV rfl (fun h => absurd h c5) fun _ => ?_
  repeat (first | refine qO ?_ | refine qS ?_ | refine xB ?_ | refine qA ?_ | refine qG ?_ | refine qE rfl rfl ?_)
  exact qQ rfl ⟨⟨51, rfl, .inr ⟨by decide, by decide, fun ok => by have h1 : (1 : Int) ≤ k := ok.1.1; have h2 : k ≤ (5 : Int) := ok.1.2; omega⟩⟩, o1⟩
end Go.Proofs.YtiecclkgjcnaoaaGreat.Ae
