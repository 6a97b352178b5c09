/-
  INSTRUCTIONS AND HANDLERS ARE CHECKED, by the rules: asks, Stops, ins, handler.
-/
import Derived.Test.YtiecclkgjcnaoaaGreatAiSyD11
namespace Go.Proofs.YtiecclkgjcnaoaaGreat.Ae
open Go.AE
set_option linter.unusedVariables false
set_option maxRecDepth 100000
section
variable {E : Env} {C : FnE} {all : List Oper} {bs order : List Nat} {seen : List Seen} {l : Kn} {A : AW} {K : Kn → AW → Prop} {i b : Nat} {o : Oper}
theorem wd_off (hi : nth all i = some o) (hb : nth bs i = some b) (ha : acts o.op = false) (hm : makes o.op = false) (hg : wantO all l o = some false)
    (h : WO E C all [o] l A fun l1 A1 => A1 = A ∧ WD E C all bs order seen l1 A K) : WD E C all bs (i :: order) seen l A K := ⟨fun F hF => by
  obtain ⟨F1, A1, l1, hF1, ⟨rfl, hk⟩, ho⟩ := h.run F hF
  obtain ⟨n1, ho⟩ := ops_one ho
  obtain ⟨F2, A2, l2, hF2, hk2, n2, hd⟩ := hk.run F1 hF1
  refine ⟨F2, A2, l2, hF2, hk2, n1 + n2, fun n hn => ?_⟩
  have hw := wantO_spec hF hg
  simp only [drawA, hi, hb, ho n (by omega), ha, cond_false, hm, Nat.beq_refl, cond_true, hw]
  exact hd n (by omega)⟩
end
def askP (op : Int) : Int := if op = 1 then 1 else if op = 2 then 2 else if op = 26 ∨ op = 27 then 4 else if op = 32 ∨ op = 43 then 5 else 3
theorem asks_spec {K : FuncId} {A : AW} {op : Int} : CallP (ES K) 132 [.int .i64 op] A fun r A1 => r = .int .i64 (askP op) ∧ A1 = A := by
  refine call_of rfl rfl rfl ?_
  unfold askP
  repeat (first | refine qO ?_ | refine qY ?_ | refine qA ?_ | refine qG ?_ | refine qJ rfl rfl ?_ | refine qE rfl rfl ?_ | refine xD rfl rfl rfl ?_)
  refine qV rfl (fun c1 => ?_) fun c1 => ?_
  · rw [if_pos c1]
    repeat (first | refine qO ?_ | refine qA ?_ | refine qG ?_ | refine qE rfl rfl ?_)
    exact qQ rfl ⟨rfl, rfl⟩
  rw [if_neg c1]
  repeat (first | refine qO ?_ | refine qA ?_ | refine qG ?_ | refine qE rfl rfl ?_ | refine xD rfl rfl rfl ?_)
  refine qV rfl (fun c2 => ?_) fun c2 => ?_
  · rw [if_pos c2]
    repeat (first | refine qO ?_ | refine qA ?_ | refine qG ?_ | refine qE rfl rfl ?_)
    exact qQ rfl ⟨rfl, rfl⟩
  rw [if_neg c2]
  repeat (first | refine qO ?_ | refine qA ?_ | refine qG ?_ | refine qE rfl rfl ?_ | refine xD rfl rfl rfl ?_)
  refine qV rfl (fun c3 => ?_) fun c3 => ?_
  · have c3 : op = 26 := c3
    rw [if_pos (.inl c3)]
    repeat refine qS ?_
    refine qV rfl (fun _ => ?_) fun h => absurd c3 h
    repeat (first | refine qO ?_ | refine qA ?_ | refine qG ?_ | refine qE rfl rfl ?_)
    exact qQ rfl ⟨rfl, rfl⟩
  have c3 : ¬ op = 26 := c3
  repeat (first | refine qA ?_ | refine qG ?_ | refine qE rfl rfl ?_ | refine xD rfl rfl rfl ?_)
  refine qV rfl (fun c4 => ?_) fun c4 => ?_
  · rw [if_pos (.inr c4)]
    repeat (first | refine qO ?_ | refine qA ?_ | refine qG ?_ | refine qE rfl rfl ?_)
    exact qQ rfl ⟨rfl, rfl⟩
  have c4 : ¬ op = 27 := c4
  rw [if_neg (fun h => h.elim c3 c4)]
  repeat (first | refine qO ?_ | refine qA ?_ | refine qG ?_ | refine qE rfl rfl ?_ | refine xD rfl rfl rfl ?_)
  refine qV rfl (fun c5 => ?_) fun c5 => ?_
  · have c5 : op = 32 := c5
    rw [if_pos (.inl c5)]
    repeat refine qS ?_
    refine qV rfl (fun _ => ?_) fun h => absurd c5 h
    repeat (first | refine qO ?_ | refine qA ?_ | refine qG ?_ | refine qE rfl rfl ?_)
    exact qQ rfl ⟨rfl, rfl⟩
  have c5 : ¬ op = 32 := c5
  repeat (first | refine qA ?_ | refine qG ?_ | refine qE rfl rfl ?_ | refine xD rfl rfl rfl ?_)
  refine qV rfl (fun c6 => ?_) fun c6 => ?_
  · rw [if_pos (.inr c6)]
    repeat (first | refine qO ?_ | refine qA ?_ | refine qG ?_ | refine qE rfl rfl ?_)
    exact qQ rfl ⟨rfl, rfl⟩
  · have c6 : ¬ op = 43 := c6
    rw [if_neg (fun h => h.elim c5 c6)]
    repeat (first | refine qO ?_ | refine qS ?_ | refine xB ?_ | refine qA ?_ | refine qG ?_ | refine qE rfl rfl ?_)
    exact qQ rfl ⟨rfl, rfl⟩
def stP (op : Int) : Prop := op = 22 ∨ op = 33 ∨ op = 34 ∨ op = 35
instance (op : Int) : Decidable (stP op) := by unfold stP; exact inferInstance
theorem stops_spec {K : FuncId} {A : AW} {op : Int} : CallP (ES K) 125 [.int .i64 op] A fun r A1 => r = .bool (decide (stP op)) ∧ A1 = A := by
  refine call_of rfl rfl rfl ?_
  repeat (first | refine qO ?_ | refine qA ?_ | refine qG ?_ | refine qJ rfl rfl ?_ | refine qE rfl rfl ?_ | refine xD rfl rfl rfl ?_)
  have yes : ∀ h : stP op, decide (stP op) = true := fun h => decide_eq_true h
  by_cases c1 : op = 22
  · refine xA 5 true rfl (decide_eq_true c1) ?_
    repeat (first | refine qG ?_ | refine qJ rfl rfl ?_ | refine qE rfl rfl ?_ | refine qR rfl rfl rfl ?_ | refine xE rfl rfl ?_)
    exact qQ rfl ⟨congrArg AV.bool (yes (.inl c1)).symm, rfl⟩
  refine xA 5 false rfl (decide_eq_false c1) ?_
  repeat (first | refine qJ rfl rfl ?_ | refine xD rfl rfl rfl ?_ | refine qR rfl rfl rfl ?_ | refine qX rfl ?_)
  by_cases c2 : op = 33
  · refine xA 9 true rfl (decide_eq_true c2) ?_
    repeat (first | refine qG ?_ | refine qJ rfl rfl ?_ | refine qE rfl rfl ?_ | refine qR rfl rfl rfl ?_ | refine xE rfl rfl ?_)
    exact qQ rfl ⟨congrArg AV.bool (yes (.inr (.inl c2))).symm, rfl⟩
  refine xA 9 false rfl (decide_eq_false c2) ?_
  repeat (first | refine qJ rfl rfl ?_ | refine xD rfl rfl rfl ?_ | refine qR rfl rfl rfl ?_ | refine qX rfl ?_)
  by_cases c3 : op = 34
  · refine xA 13 true rfl (decide_eq_true c3) ?_
    repeat (first | refine qG ?_ | refine qE rfl rfl ?_ | refine qR rfl rfl rfl ?_ | refine xE rfl rfl ?_)
    exact qQ rfl ⟨congrArg AV.bool (yes (.inr (.inr (.inl c3)))).symm, rfl⟩
  refine xA 13 false rfl (decide_eq_false c3) ?_
  repeat (first | refine qG ?_ | refine qJ rfl rfl ?_ | refine qE rfl rfl ?_ | refine xD rfl rfl rfl ?_ | refine qR rfl rfl rfl ?_ | refine qX rfl ?_)
  exact qQ rfl ⟨congrArg AV.bool (decide_eq_decide.2 ⟨fun h => .inr (.inr (.inr h)), fun h => ((h.resolve_left c1).resolve_left c2).resolve_left c3⟩), rfl⟩
theorem rstops_spec {K : FuncId} {A : AW} {op : Int} : CallP (ES K) 134 [.int .i64 op] A fun r A1 => r = .bool (decide (stP op)) ∧ A1 = A := by
  refine call_of rfl rfl rfl ?_
  repeat (first | refine qO ?_ | refine qA ?_ | refine qG ?_ | refine qJ rfl rfl ?_ | refine qE rfl rfl ?_ | refine xD rfl rfl rfl ?_)
  have yes : ∀ h : stP op, decide (stP op) = true := fun h => decide_eq_true h
  by_cases c1 : op = 22
  · refine xA 5 true rfl (decide_eq_true c1) ?_
    repeat (first | refine qG ?_ | refine qJ rfl rfl ?_ | refine qE rfl rfl ?_ | refine qR rfl rfl rfl ?_ | refine xE rfl rfl ?_)
    exact qQ rfl ⟨congrArg AV.bool (yes (.inl c1)).symm, rfl⟩
  refine xA 5 false rfl (decide_eq_false c1) ?_
  repeat (first | refine qJ rfl rfl ?_ | refine xD rfl rfl rfl ?_ | refine qR rfl rfl rfl ?_ | refine qX rfl ?_)
  by_cases c2 : op = 33
  · refine xA 9 true rfl (decide_eq_true c2) ?_
    repeat (first | refine qG ?_ | refine qJ rfl rfl ?_ | refine qE rfl rfl ?_ | refine qR rfl rfl rfl ?_ | refine xE rfl rfl ?_)
    exact qQ rfl ⟨congrArg AV.bool (yes (.inr (.inl c2))).symm, rfl⟩
  refine xA 9 false rfl (decide_eq_false c2) ?_
  repeat (first | refine qJ rfl rfl ?_ | refine xD rfl rfl rfl ?_ | refine qR rfl rfl rfl ?_ | refine qX rfl ?_)
  by_cases c3 : op = 34
  · refine xA 13 true rfl (decide_eq_true c3) ?_
    repeat (first | refine qG ?_ | refine qE rfl rfl ?_ | refine qR rfl rfl rfl ?_ | refine xE rfl rfl ?_)
    exact qQ rfl ⟨congrArg AV.bool (yes (.inr (.inr (.inl c3)))).symm, rfl⟩
  refine xA 13 false rfl (decide_eq_false c3) ?_
  repeat (first | refine qG ?_ | refine qJ rfl rfl ?_ | refine qE rfl rfl ?_ | refine xD rfl rfl rfl ?_ | refine qR rfl rfl rfl ?_ | refine qX rfl ?_)
  exact qQ rfl ⟨congrArg AV.bool (decide_eq_decide.2 ⟨fun h => .inr (.inr (.inr h)), fun h => ((h.resolve_left c1).resolve_left c2).resolve_left c3⟩), rfl⟩
def clc (name super : Str) (pv fv mv : AV) : List AV := [.str name, .str super, pv, fv, mv]
def insOk (pool : List CoT) (locals : Int) (n : Nat) (x : In) : Prop :=
  isP x.1 x.2 ∧ (opd x.1 = 1 → x.2 < locals) ∧ (opd x.1 = 2 → ∃ c, pool[x.2.toNat]? = some c ∧ c.kind = askP x.1) ∧ (opd x.1 = 3 → x.2 < (n : Int))
theorem stillI {K : FuncId} {C : FnE} {l : Kn} {A : AW} {d : Option Tmp} {t : Tmp} {pos : String} {ty : TypeId} {after : Array Edge} {gd : Option (Nat × Bool)} {f s o es : Nat} {ro : Bool} {cs : List AV} {z : Int} (hl : l.find t = some (.ptr f s o)) (hf : A.heap.get f = some (.cells s ro es cs)) (hn : nth cs o = some (.int .i64 z)) :
    (∀ F, Kf C l F → execA (ES K) F ⟨d, .load 3 (.tmp t), ty, pos, after, gd⟩ A = .val (.int .i64 z) A) ∧ valEq (.int .i64 z) (.int .i64 z) = true := by
  refine ⟨fun F hF => ?_, stillInt⟩
  show liftR (loadA (ES K) 3 (ev F (.tmp t)) A) = _
  rw [hF.ev (x := .tmp t) (v := .ptr f s o) hl, loadA_eq (dt := d3) rfl rfl hf hn]
  rfl
theorem stillV {K : FuncId} {C : FnE} {l : Kn} {A : AW} {d : Option Tmp} {t : Tmp} {pos : String} {ty : TypeId} {after : Array Edge} {gd : Option (Nat × Bool)} {f s o es : Nat} {ro : Bool} {cs : List AV} {v : AV} (hl : l.find t = some (.ptr f s o)) (hf : A.heap.get f = some (.cells s ro es cs)) (hn : nth cs o = some v) (hv : valEq v v = true) :
    (∀ F, Kf C l F → execA (ES K) F ⟨d, .load 24 (.tmp t), ty, pos, after, gd⟩ A = .val v A) ∧ valEq v v = true := by
  refine ⟨fun F hF => ?_, hv⟩
  show liftR (loadA (ES K) 24 (ev F (.tmp t)) A) = _
  rw [hF.ev (x := .tmp t) (v := .ptr f s o) hl, loadA_eq (dt := d24) rfl rfl hf hn]
  rfl
set_option maxHeartbeats 4000000 in
theorem cins_spec {K : FuncId} {A : AW} {name super : Str} {pv fv mv : AV} {pool : List CoT} {m : MeT} {qv cv hv : AV} {x : In} (hw : Wf A) (hp : Full A 5 pv pool.length (pool.flatMap coc)) (hc : Row A 2 cv m.code.length (ics m.code)) (hl : pool.length < 1000000) :
    CallP (ES K) 124 [.agg (clc name super pv fv mv), .agg (mec m qv cv hv), .agg (icl x)] A fun r A1 => (∃ e, r = .int .i64 e ∧ Err e (insOk pool m.locals m.code.length x)) ∧ Only A A1 none' := by
  obtain ⟨op, a⟩ := x
  refine call_of rfl rfl rfl ?_
  unfold clc mec icl
  repeat (first | refine qO ?_ | refine qA ?_)
  refine wo_box rfl rfl rfl rfl ?_
  refine wo_A (fun A1 => Only A A1 none' ∧ A1.heap.get A.nxt = some (.cells 0 false 5 [.str name, .str super, pv, fv, mv])) ⟨Only.add hw _, by rw [AW.add_get, if_pos rfl]; rfl⟩ ?_
  rintro A1 ⟨o1, h3⟩
  generalize A.nxt = f3 at h3
  refine wo_box rfl rfl rfl rfl ?_
  refine wo_A (fun A2 => Only A1 A2 none' ∧ A2.heap.get A1.nxt = some (.cells 0 false 8 (mec m qv cv hv))) ⟨Only.add o1.wf _, by rw [AW.add_get, if_pos rfl]; rfl⟩ ?_
  rintro A2 ⟨o2, h4⟩
  generalize A1.nxt = f4 at h4
  have h3 := o2.keep _ _ h3 fun h => h
  have o12 := o1.same o2
  refine wo_box rfl rfl rfl rfl ?_
  refine wo_A (fun A3 => Only A2 A3 none' ∧ A3.heap.get A2.nxt = some (.cells 0 false 2 [.int .i64 op, .int .i64 a])) ⟨Only.add o12.wf _, by rw [AW.add_get, if_pos rfl]; rfl⟩ ?_
  rintro A3 ⟨o3, h5⟩
  generalize A2.nxt = f5 at h5
  have h3 := o3.keep _ _ h3 fun h => h
  have h4 := o3.keep _ _ h4 fun h => h
  have o13 := o12.same o3
  unfold mec at h4
  repeat (first | refine qO ?_ | refine qA ?_ | refine qG ?_ | refine qE rfl rfl ?_)
  refine xG (vs := icl (op, a)) rfl rfl rfl rfl h5 rfl ?_
  refine qU rfl rfl orc_cons rfl (is_spec (op := op) (a := a) o13.wf) ?_
  rintro r A4 ⟨rfl, o4⟩
  have h3 := o4.keep _ _ h3 fun h => h
  have h4 := o4.keep _ _ h4 fun h => h
  have h5 := o4.keep _ _ h5 fun h => h
  have o14 := o13.same o4
  repeat (first | refine qG ?_ | refine wo_not rfl rfl ?_)
  refine wg_if rfl (fun hb => ?_) fun hb => ?_
  · have hn : ¬ isP op a := fun h => by
      have hb : (!decide (isP op a)) = true := hb
      rw [decide_eq_true h] at hb
      cases hb
    repeat (first | refine qO ?_ | refine qA ?_ | refine qG ?_ | refine qE rfl rfl ?_)
    exact qQ rfl ⟨⟨40, rfl, .inr ⟨by decide, by decide, fun ok => hn ok.1⟩⟩, o14⟩
  have hP : isP op a := Decidable.byContradiction fun h => by
    have hb : (!decide (isP op a)) = false := hb
    rw [decide_eq_false h] at hb
    cases hb
  repeat (first | refine qO ?_ | refine qS ?_ | refine qA ?_ | refine qI rfl rfl rfl ?_ | refine qP rfl rfl rfl rfl (by assumption) rfl ?_)
  refine qU rfl rfl orc_cons rfl operand_spec ?_
  rintro r A5 ⟨rfl, e5⟩
  obtain rfl : A4 = A5 := e5.symm
  repeat (first | refine qO ?_ | refine qY ?_ | refine qA ?_ | refine qG ?_ | refine qE rfl rfl ?_ | refine xD rfl rfl rfl ?_)
  refine qV rfl (fun c1 => ?_) fun c1 => ?_
  · have c1 : opd op = 1 := c1
    repeat (first | refine qO ?_ | refine qA ?_ | refine qG ?_ | refine qI rfl rfl rfl ?_ | refine qP rfl rfl rfl rfl (by assumption) rfl ?_ | refine wo_geq rfl rfl rfl ?_)
    refine qV rfl (fun hx => ?_) fun hx => ?_
    · have hx : m.locals ≤ a := hx
      repeat (first | refine qO ?_ | refine qA ?_ | refine qG ?_ | refine qE rfl rfl ?_)
      exact qQ rfl ⟨⟨52, rfl, .inr ⟨by decide, by decide, fun ok => by have h : a < m.locals := ok.2.1 c1; omega⟩⟩, o14⟩
    · have hx : ¬ m.locals ≤ a := hx
      repeat (first | refine qO ?_ | refine qS ?_ | refine xB ?_ | refine qA ?_ | refine qG ?_ | refine qE rfl rfl ?_)
      exact qQ rfl ⟨⟨0, rfl, .inl ⟨rfl, hP, fun _ => by show a < m.locals; omega, fun h => by have h : opd op = 2 := h; omega, fun h => by have h : opd op = 3 := h; omega⟩⟩, o14⟩
  have c1 : ¬ opd op = 1 := c1
  repeat (first | refine qO ?_ | refine qA ?_ | refine qG ?_ | refine qE rfl rfl ?_ | refine xD rfl rfl rfl ?_)
  refine qV rfl (fun c2 => ?_) fun c2 => ?_
  · have c2 : opd op = 2 := c2
    have ha : 0 ≤ a := (hP.2.2 (by omega)).1
    have hF := hp.keep o14 fun _ _ h => h
    repeat refine qO ?_
    refine wg_draw rfl ?_
    repeat (first
      | (refine xC rfl rfl rfl rfl rfl ?_
         repeat (first | refine qG ?_ | refine qI rfl rfl rfl ?_)
         refine ⟨rfl, ?_⟩)
      | (refine xI rfl rfl rfl rfl rfl rfl rfl ?_
         repeat (first | refine qG ?_ | refine qP rfl rfl rfl rfl (by assumption) rfl ?_)
         refine ⟨rfl, _, rfl, ?_⟩))
    refine xI rfl rfl rfl rfl rfl rfl rfl ?_
    refine xJ rfl rfl rfl hF.row.lenV ?_
    repeat refine qG ?_
    refine ⟨rfl, _, rfl, ?_⟩
    repeat (first
      | (refine xC rfl rfl rfl rfl rfl ?_
         repeat (first | refine qG ?_ | refine qJ rfl rfl ?_ | refine wo_geq rfl rfl rfl ?_)
         refine ⟨rfl, ?_⟩))
    by_cases hx : (pool.length : Int) ≤ a
    · refine wd_is 28 true rfl (decide_eq_true hx) ?_
      repeat (first
        | (refine xC rfl rfl rfl rfl rfl ?_
           repeat (first | refine qG ?_ | refine xE rfl rfl ?_)
           refine ⟨rfl, ?_⟩))
      refine wd_off rfl rfl rfl rfl rfl ?_
      repeat (first | refine qG ?_ | refine xE rfl rfl ?_)
      refine ⟨rfl, ?_⟩
      repeat (first
        | (refine xC rfl rfl rfl rfl rfl ?_
           repeat (first | refine qG ?_ | refine xE rfl rfl ?_)
           refine ⟨rfl, ?_⟩))
      refine wd_off rfl rfl rfl rfl rfl ?_
      repeat (first | refine qG ?_ | refine xE rfl rfl ?_)
      refine ⟨rfl, ?_⟩
      repeat (first
        | (refine xC rfl rfl rfl rfl rfl ?_
           repeat (first | refine qG ?_ | refine xE rfl rfl ?_)
           refine ⟨rfl, ?_⟩))
      refine wd_off rfl rfl rfl rfl rfl ?_
      repeat (first | refine qG ?_ | refine xE rfl rfl ?_)
      refine ⟨rfl, ?_⟩
      repeat (first
        | (refine xC rfl rfl rfl rfl rfl ?_
           repeat (first | refine qG ?_ | refine xE rfl rfl ?_)
           refine ⟨rfl, ?_⟩))
      refine wd_off rfl rfl rfl rfl rfl ?_
      repeat (first | refine qG ?_ | refine xE rfl rfl ?_)
      refine ⟨rfl, ?_⟩
      refine wd_act rfl rfl rfl ?_
      repeat (first | refine qG ?_ | refine xE rfl rfl ?_)
      refine ⟨⟨.inl (by show bit 49279 4 = true; rfl), .inl (by show bit 49279 3 = true; rfl), .inl (by show bit 49279 1 = true; rfl), trivial⟩, ?_⟩
      repeat (first
        | (refine xC rfl rfl rfl rfl rfl ?_
           repeat (first | refine qG ?_ | refine qR rfl rfl rfl ?_ | refine xE rfl rfl ?_)
           refine ⟨rfl, ?_⟩))
      refine wd_nil ?_
      repeat (first | refine qO ?_ | refine qA ?_ | refine qG ?_ | refine qE rfl rfl ?_ | refine xH rfl ?_)
      refine qQ rfl ⟨⟨51, rfl, .inr ⟨by decide, by decide, fun ok => ?_⟩⟩, o14⟩
      obtain ⟨c, hc, _⟩ := ok.2.2.1 c2
      have := (List.getElem?_eq_some_iff.1 hc).1
      have : a.toNat < pool.length := this
      omega
    · refine wd_is 28 false rfl (decide_eq_false hx) ?_
      obtain ⟨i, hi⟩ : ∃ i : Nat, a = (i : Int) := ⟨a.toNat, by omega⟩
      have hil : i < pool.length := by omega
      obtain ⟨y, hy⟩ : ∃ y, pool[i]? = some y := ⟨pool[i], List.getElem?_eq_getElem hil⟩
      obtain ⟨f, t, o, c, ex, ro, all, e0, hh, _, hat⟩ := row_el (cl := coc) (fun _ => rfl) hF.row hy
      have hn : nth all (Nat.add (Nat.add o (Nat.mul i 5)) 0) = some (.int .i64 y.kind) := nth_take ((hat 1 0 (by decide)).trans rfl)
      repeat (first
        | (refine xC rfl rfl rfl rfl rfl ?_
           repeat (first | refine qG ?_ | refine qI rfl rfl rfl ?_ | refine qX rfl ?_)
           refine ⟨rfl, ?_⟩)
        | (refine xI rfl rfl rfl rfl rfl rfl rfl ?_
           repeat (first | refine qG ?_ | refine qP rfl rfl rfl rfl (by assumption) rfl ?_ | refine qX rfl ?_)
           refine ⟨rfl, _, rfl, ?_⟩))
      refine xC rfl rfl rfl rfl rfl ?_
      refine qX rfl ?_
      refine xF i rfl (congrArg some e0) rfl rfl hi hil ?_
      repeat refine qG ?_
      refine ⟨rfl, ?_⟩
      refine xC rfl rfl rfl rfl rfl ?_
      repeat (first | refine qG ?_ | refine qI rfl rfl rfl ?_ | refine qX rfl ?_)
      refine ⟨rfl, ?_⟩
      refine xI rfl rfl rfl rfl rfl rfl rfl ?_
      refine qX rfl ?_
      refine qP rfl rfl rfl rfl hh hn ?_
      repeat refine qG ?_
      refine ⟨rfl, _, rfl, ?_⟩
      repeat (first
        | (refine xC rfl rfl rfl rfl rfl ?_
           repeat (first | refine qG ?_ | refine qI rfl rfl rfl ?_ | refine qX rfl ?_)
           refine ⟨rfl, ?_⟩)
        | (refine xI rfl rfl rfl rfl rfl rfl rfl ?_
           repeat (first | refine qG ?_ | refine qP rfl rfl rfl rfl (by assumption) rfl ?_ | refine qX rfl ?_)
           refine ⟨rfl, _, rfl, ?_⟩))
      refine wd_act rfl rfl rfl ?_
      refine qX rfl ?_
      refine qU rfl rfl orc_cons rfl asks_spec ?_
      rintro r A5 ⟨rfl, e5⟩
      obtain rfl : A4 = A5 := e5.symm
      repeat refine qG ?_
      refine ⟨⟨.inl (by show bit 49279 15 = true; rfl), .inr (stillI rfl hh hn), .inr (stillI rfl h5 rfl), .inr (stillV rfl h3 rfl hF.still), .inl (by show bit 49279 4 = true; rfl), .inl (by show bit 49279 3 = true; rfl), .inl (by show bit 49279 1 = true; rfl), trivial⟩, ?_⟩
      repeat (first
        | (refine xC rfl rfl rfl rfl rfl ?_
           repeat (first | refine qG ?_ | refine xL rfl rfl rfl ?_ | refine qR rfl rfl rfl ?_ | refine qX rfl ?_)
           refine ⟨rfl, ?_⟩))
      refine wd_nil ?_
      have hti : a.toNat = i := by omega
      refine qV rfl (fun hk => ?_) fun hk => ?_
      · have hk : y.kind ≠ askP op := hk
        repeat (first | refine qO ?_ | refine qA ?_ | refine qG ?_ | refine qE rfl rfl ?_)
        refine qQ rfl ⟨⟨51, rfl, .inr ⟨by decide, by decide, fun ok => ?_⟩⟩, o14⟩
        obtain ⟨c, hc, hck⟩ := ok.2.2.1 c2
        have hc : pool[a.toNat]? = some c := hc
        rw [hti, hy] at hc
        cases hc
        exact hk hck
      · have hk : y.kind = askP op := Decidable.byContradiction hk
        repeat (first | refine qO ?_ | refine qS ?_ | refine xB ?_ | refine qA ?_ | refine qG ?_ | refine qE rfl rfl ?_)
        exact qQ rfl ⟨⟨0, rfl, .inl ⟨rfl, hP, fun h => absurd h c1, fun _ => ⟨y, by show pool[a.toNat]? = some y; rw [hti]; exact hy, hk⟩, fun h => by have h : opd op = 3 := h; omega⟩⟩, o14⟩
  have c2 : ¬ opd op = 2 := c2
  repeat (first | refine qO ?_ | refine qA ?_ | refine qG ?_ | refine qE rfl rfl ?_ | refine xD rfl rfl rfl ?_)
  refine qV rfl (fun c3 => ?_) fun c3 => ?_
  · have c3 : opd op = 3 := c3
    have hC := hc.keep o14 fun _ _ h => h
    repeat (first | refine qO ?_ | refine qA ?_ | refine qI rfl rfl rfl ?_ | refine qP rfl rfl rfl rfl (by assumption) rfl ?_)
    refine xJ rfl rfl rfl hC.lenV ?_
    repeat (first | refine qG ?_ | refine wo_geq rfl rfl rfl ?_)
    refine qV rfl (fun hx => ?_) fun hx => ?_
    · have hx : (m.code.length : Int) ≤ a := hx
      repeat (first | refine qO ?_ | refine qA ?_ | refine qG ?_ | refine qE rfl rfl ?_)
      exact qQ rfl ⟨⟨52, rfl, .inr ⟨by decide, by decide, fun ok => by have h : a < (m.code.length : Int) := ok.2.2.2 c3; omega⟩⟩, o14⟩
    · have hx : ¬ (m.code.length : Int) ≤ a := hx
      repeat (first | refine qO ?_ | refine qS ?_ | refine xB ?_ | refine qA ?_ | refine qG ?_ | refine qE rfl rfl ?_)
      exact qQ rfl ⟨⟨0, rfl, .inl ⟨rfl, hP, fun h => by have h : opd op = 1 := h; omega, fun h => by have h : opd op = 2 := h; omega, fun _ => by show a < (m.code.length : Int); omega⟩⟩, o14⟩
  · have c3 : ¬ opd op = 3 := c3
    repeat (first | refine qO ?_ | refine qS ?_ | refine xB ?_ | refine qA ?_ | refine qG ?_ | refine qE rfl rfl ?_)
    exact qQ rfl ⟨⟨0, rfl, .inl ⟨rfl, hP, fun h => absurd h c1, fun h => absurd h c2, fun h => absurd h c3⟩⟩, o14⟩
def haOk (pool : List CoT) (n : Nat) (h : HaT) : Prop :=
  (0 ≤ h.lo ∧ h.lo < h.hi ∧ h.hi ≤ (n : Int) ∧ 0 ≤ h.tg ∧ h.tg < (n : Int)) ∧ (-1 ≤ h.cl ∧ h.cl < (pool.length : Int) ∧ (0 ≤ h.cl → ∃ c, pool[h.cl.toNat]? = some c ∧ c.kind = 3)) ∧ 0 ≤ h.de ∧ h.de ≤ 6
set_option maxHeartbeats 4000000 in
theorem chand_spec {K : FuncId} {A : AW} {name super : Str} {pv fv mv : AV} {pool : List CoT} {m : MeT} {qv cv hv : AV} {h : HaT} (hw : Wf A) (hp : Full A 5 pv pool.length (pool.flatMap coc)) (hc : Row A 2 cv m.code.length (ics m.code)) (hl : pool.length < 1000000) :
    CallP (ES K) 126 [.agg (clc name super pv fv mv), .agg (mec m qv cv hv), .agg (hac h)] A fun r A1 => (∃ e, r = .int .i64 e ∧ Err e (haOk pool m.code.length h)) ∧ Only A A1 none' := by
  obtain ⟨lo, hi, tg, cl, de⟩ := h
  refine call_of rfl rfl rfl ?_
  unfold clc mec hac
  repeat (first | refine qO ?_ | refine qA ?_)
  refine wo_box rfl rfl rfl rfl ?_
  refine wo_A (fun A1 => Only A A1 none' ∧ A1.heap.get A.nxt = some (.cells 0 false 5 [.str name, .str super, pv, fv, mv])) ⟨Only.add hw _, by rw [AW.add_get, if_pos rfl]; rfl⟩ ?_
  rintro A1 ⟨o1, h3⟩
  generalize A.nxt = f3 at h3
  refine wo_box rfl rfl rfl rfl ?_
  refine wo_A (fun A2 => Only A1 A2 none' ∧ A2.heap.get A1.nxt = some (.cells 0 false 8 (mec m qv cv hv))) ⟨Only.add o1.wf _, by rw [AW.add_get, if_pos rfl]; rfl⟩ ?_
  rintro A2 ⟨o2, h4⟩
  generalize A1.nxt = f4 at h4
  have h3 := o2.keep _ _ h3 fun h => h
  have o12 := o1.same o2
  refine wo_box rfl rfl rfl rfl ?_
  refine wo_A (fun A3 => Only A2 A3 none' ∧ A3.heap.get A2.nxt = some (.cells 0 false 5 [.int .i64 lo, .int .i64 hi, .int .i64 tg, .int .i64 cl, .int .i64 de])) ⟨Only.add o12.wf _, by rw [AW.add_get, if_pos rfl]; rfl⟩ ?_
  rintro A3 ⟨o3, h5⟩
  generalize A2.nxt = f5 at h5
  have h3 := o3.keep _ _ h3 fun h => h
  have h4 := o3.keep _ _ h4 fun h => h
  have o13 := o12.same o3
  unfold mec at h4
  have hF := hp.keep o13 fun _ _ h => h
  have hC := hc.keep o13 fun _ _ h => h
  generalize hn : m.code.length = n at hC
  repeat (first | refine qO ?_ | refine qA ?_ | refine qG ?_ | refine qE rfl rfl ?_ | refine qI rfl rfl rfl ?_ | refine qP rfl rfl rfl rfl (by assumption) rfl ?_)
  refine xJ rfl rfl rfl hC.lenV ?_
  repeat (first | refine qO ?_ | refine qY ?_ | refine qA ?_ | refine qG ?_ | refine qJ rfl rfl ?_ | refine qE rfl rfl ?_ | refine qI rfl rfl rfl ?_ | refine qP rfl rfl rfl rfl (by assumption) rfl ?_ | refine xM rfl rfl rfl ?_)
  by_cases c1 : lo < 0
  · refine xA 15 true rfl (decide_eq_true c1) ?_
    repeat (first | refine qO ?_ | refine qA ?_ | refine qG ?_ | refine qJ rfl rfl ?_ | refine qE rfl rfl ?_ | refine qR rfl rfl rfl ?_ | refine xE rfl rfl ?_ | refine xH rfl ?_)
    exact qQ rfl ⟨⟨52, rfl, .inr ⟨by decide, by decide, fun ok => by have h : 0 ≤ lo := ok.1.1; omega⟩⟩, o13⟩
  refine xA 15 false rfl (decide_eq_false c1) ?_
  repeat (first | refine qJ rfl rfl ?_ | refine qI rfl rfl rfl ?_ | refine qP rfl rfl rfl rfl (by assumption) rfl ?_ | refine wo_geq rfl rfl rfl ?_ | refine qR rfl rfl rfl ?_ | refine qX rfl ?_)
  by_cases c2 : hi ≤ lo
  · refine xA 22 true rfl (decide_eq_true c2) ?_
    repeat (first | refine qO ?_ | refine qA ?_ | refine qG ?_ | refine qJ rfl rfl ?_ | refine qE rfl rfl ?_ | refine qR rfl rfl rfl ?_ | refine xE rfl rfl ?_ | refine xH rfl ?_)
    exact qQ rfl ⟨⟨52, rfl, .inr ⟨by decide, by decide, fun ok => by have h : lo < hi := ok.1.2.1; omega⟩⟩, o13⟩
  refine xA 22 false rfl (decide_eq_false c2) ?_
  repeat (first | refine qJ rfl rfl ?_ | refine qI rfl rfl rfl ?_ | refine qP rfl rfl rfl rfl (by assumption) rfl ?_ | refine wo_gtr rfl rfl rfl ?_ | refine qR rfl rfl rfl ?_ | refine qX rfl ?_)
  by_cases c3 : (n : Int) < hi
  · refine xA 28 true rfl (decide_eq_true c3) ?_
    repeat (first | refine qO ?_ | refine qA ?_ | refine qG ?_ | refine qJ rfl rfl ?_ | refine qE rfl rfl ?_ | refine qR rfl rfl rfl ?_ | refine xE rfl rfl ?_ | refine xH rfl ?_)
    exact qQ rfl ⟨⟨52, rfl, .inr ⟨by decide, by decide, fun ok => by have h : hi ≤ (n : Int) := ok.1.2.2.1; omega⟩⟩, o13⟩
  refine xA 28 false rfl (decide_eq_false c3) ?_
  repeat (first | refine qJ rfl rfl ?_ | refine qI rfl rfl rfl ?_ | refine qP rfl rfl rfl rfl (by assumption) rfl ?_ | refine xM rfl rfl rfl ?_ | refine qR rfl rfl rfl ?_ | refine qX rfl ?_)
  by_cases c4 : tg < 0
  · refine xA 33 true rfl (decide_eq_true c4) ?_
    repeat (first | refine qO ?_ | refine qA ?_ | refine qG ?_ | refine qE rfl rfl ?_ | refine qR rfl rfl rfl ?_ | refine xE rfl rfl ?_ | refine xH rfl ?_)
    exact qQ rfl ⟨⟨52, rfl, .inr ⟨by decide, by decide, fun ok => by have h : 0 ≤ tg := ok.1.2.2.2.1; omega⟩⟩, o13⟩
  refine xA 33 false rfl (decide_eq_false c4) ?_
  repeat (first | refine qG ?_ | refine qJ rfl rfl ?_ | refine qE rfl rfl ?_ | refine qI rfl rfl rfl ?_ | refine qP rfl rfl rfl rfl (by assumption) rfl ?_ | refine wo_geq rfl rfl rfl ?_ | refine qR rfl rfl rfl ?_ | refine qX rfl ?_)
  refine qV rfl (fun c5 => ?_) fun c5 => ?_
  · have c5 : (n : Int) ≤ tg := c5
    repeat (first | refine qO ?_ | refine qA ?_ | refine qG ?_ | refine qE rfl rfl ?_)
    exact qQ rfl ⟨⟨52, rfl, .inr ⟨by decide, by decide, fun ok => by have h : tg < (n : Int) := ok.1.2.2.2.2; omega⟩⟩, o13⟩
  have c5 : ¬ (n : Int) ≤ tg := c5
  have ok1 : 0 ≤ lo ∧ lo < hi ∧ hi ≤ (n : Int) ∧ 0 ≤ tg ∧ tg < (n : Int) := by omega
  repeat (first | refine qO ?_ | refine qA ?_ | refine qJ rfl rfl ?_ | refine qI rfl rfl rfl ?_ | refine qP rfl rfl rfl rfl (by assumption) rfl ?_ | refine xM rfl rfl rfl ?_)
  by_cases c6 : cl < -1
  · refine xA 43 true rfl (decide_eq_true c6) ?_
    repeat (first | refine qO ?_ | refine qA ?_ | refine qG ?_ | refine qJ rfl rfl ?_ | refine qE rfl rfl ?_ | refine qR rfl rfl rfl ?_ | refine xE rfl rfl ?_ | refine xH rfl ?_)
    exact qQ rfl ⟨⟨51, rfl, .inr ⟨by decide, by decide, fun ok => by have h : -1 ≤ cl := ok.2.1.1; omega⟩⟩, o13⟩
  refine xA 43 false rfl (decide_eq_false c6) ?_
  repeat (first | refine qI rfl rfl rfl ?_ | refine qP rfl rfl rfl rfl (by assumption) rfl ?_ | refine qX rfl ?_)
  refine xJ rfl rfl rfl hF.row.lenV ?_
  repeat (first | refine qJ rfl rfl ?_ | refine wo_geq rfl rfl rfl ?_ | refine qR rfl rfl rfl ?_ | refine qX rfl ?_)
  by_cases c7 : (pool.length : Int) ≤ cl
  · refine xA 51 true rfl (decide_eq_true c7) ?_
    repeat (first | refine qO ?_ | refine qA ?_ | refine qG ?_ | refine qE rfl rfl ?_ | refine qR rfl rfl rfl ?_ | refine xE rfl rfl ?_ | refine xH rfl ?_)
    exact qQ rfl ⟨⟨51, rfl, .inr ⟨by decide, by decide, fun ok => by have h : cl < (pool.length : Int) := ok.2.1.2.1; omega⟩⟩, o13⟩
  refine xA 51 false rfl (decide_eq_false c7) ?_
  repeat (first | refine qJ rfl rfl ?_ | refine qI rfl rfl rfl ?_ | refine qP rfl rfl rfl rfl (by assumption) rfl ?_ | refine wo_geq rfl rfl rfl ?_ | refine qX rfl ?_)
  by_cases c0 : 0 ≤ cl
  · refine xA 55 true rfl (decide_eq_true c0) ?_
    obtain ⟨i, hci⟩ : ∃ i : Nat, cl = (i : Int) := ⟨cl.toNat, by omega⟩
    have hil : i < pool.length := by omega
    have hti : cl.toNat = i := by omega
    obtain ⟨y, hy⟩ : ∃ y, pool[i]? = some y := ⟨pool[i], List.getElem?_eq_getElem hil⟩
    obtain ⟨f, t, o, c, ex, ro, all, e0, hh, _, hat⟩ := row_el (cl := coc) (fun _ => rfl) hF.row hy
    have hnt : nth all (Nat.add (Nat.add o (Nat.mul i 5)) 0) = some (.int .i64 y.kind) := nth_take ((hat 1 0 (by decide)).trans rfl)
    repeat (first | refine qI rfl rfl rfl ?_ | refine qP rfl rfl rfl rfl (by assumption) rfl ?_ | refine qX rfl ?_)
    refine xF i rfl (congrArg some e0) rfl rfl hci hil ?_
    repeat (first | refine qI rfl rfl rfl ?_ | refine qX rfl ?_)
    refine qP rfl rfl rfl rfl hh hnt ?_
    repeat (first | refine qG ?_ | refine qE rfl rfl ?_ | refine xL rfl rfl rfl ?_ | refine qR rfl rfl rfl ?_ | refine qX rfl ?_)
    refine qV rfl (fun hk => ?_) fun hk => ?_
    · have hk : y.kind ≠ 3 := hk
      repeat (first | refine qO ?_ | refine qA ?_ | refine qG ?_ | refine qE rfl rfl ?_)
      refine qQ rfl ⟨⟨51, rfl, .inr ⟨by decide, by decide, fun ok => ?_⟩⟩, o13⟩
      obtain ⟨c, hc, hck⟩ := ok.2.1.2.2 c0
      have hc : pool[cl.toNat]? = some c := hc
      rw [hti, hy] at hc
      cases hc
      exact hk hck
    · have hk : y.kind = 3 := Decidable.byContradiction hk
      have hcl : 0 ≤ cl → ∃ c, pool[cl.toNat]? = some c ∧ c.kind = 3 := fun _ => ⟨y, by rw [hti]; exact hy, hk⟩
      repeat (first | refine qO ?_ | refine qA ?_ | refine qJ rfl rfl ?_ | refine qI rfl rfl rfl ?_ | refine qP rfl rfl rfl rfl (by assumption) rfl ?_ | refine xM rfl rfl rfl ?_)
      by_cases c8 : de < 0
      · refine xA 70 true rfl (decide_eq_true c8) ?_
        repeat (first | refine qO ?_ | refine qA ?_ | refine qG ?_ | refine qE rfl rfl ?_ | refine qR rfl rfl rfl ?_ | refine xE rfl rfl ?_ | refine xH rfl ?_)
        exact qQ rfl ⟨⟨32, rfl, .inr ⟨by decide, by decide, fun ok => by have h : 0 ≤ de := ok.2.2.1; omega⟩⟩, o13⟩
      refine xA 70 false rfl (decide_eq_false c8) ?_
      repeat (first | refine qG ?_ | refine qE rfl rfl ?_ | refine qI rfl rfl rfl ?_ | refine qP rfl rfl rfl rfl (by assumption) rfl ?_ | refine wo_gtr rfl rfl rfl ?_ | refine qR rfl rfl rfl ?_ | refine qX rfl ?_)
      refine qV rfl (fun c9 => ?_) fun c9 => ?_
      · have c9 : (6 : Int) < de := c9
        repeat (first | refine qO ?_ | refine qA ?_ | refine qG ?_ | refine qE rfl rfl ?_)
        exact qQ rfl ⟨⟨32, rfl, .inr ⟨by decide, by decide, fun ok => by have h : de ≤ 6 := ok.2.2.2; omega⟩⟩, o13⟩
      · have c9 : ¬ (6 : Int) < de := c9
        repeat (first | refine qO ?_ | refine qS ?_ | refine xB ?_ | refine qA ?_ | refine qG ?_ | refine qE rfl rfl ?_)
        refine qQ rfl ⟨⟨0, rfl, .inl ⟨rfl, ?_, ⟨?_, ?_, hcl⟩, ?_, ?_⟩⟩, o13⟩
        · exact ok1
        · show -1 ≤ cl
          omega
        · show cl < (pool.length : Int)
          omega
        · show 0 ≤ de
          omega
        · show de ≤ 6
          omega
  · refine xA 55 false rfl (decide_eq_false c0) ?_
    have hcl : 0 ≤ cl → ∃ c, pool[cl.toNat]? = some c ∧ c.kind = 3 := fun h => absurd h c0
    repeat (first | refine qO ?_ | refine qA ?_ | refine qG ?_ | refine qJ rfl rfl ?_ | refine qE rfl rfl ?_ | refine qI rfl rfl rfl ?_ | refine qP rfl rfl rfl rfl (by assumption) rfl ?_ | refine xM rfl rfl rfl ?_ | refine qR rfl rfl rfl ?_ | refine qX rfl ?_ | refine xE rfl rfl ?_ | refine wg_false rfl ?_)
    by_cases c8 : de < 0
    · refine xA 70 true rfl (decide_eq_true c8) ?_
      repeat (first | refine qO ?_ | refine qA ?_ | refine qG ?_ | refine qE rfl rfl ?_ | refine qR rfl rfl rfl ?_ | refine xE rfl rfl ?_ | refine xH rfl ?_)
      exact qQ rfl ⟨⟨32, rfl, .inr ⟨by decide, by decide, fun ok => by have h : 0 ≤ de := ok.2.2.1; omega⟩⟩, o13⟩
    refine xA 70 false rfl (decide_eq_false c8) ?_
    repeat (first | refine qG ?_ | refine qE rfl rfl ?_ | refine qI rfl rfl rfl ?_ | refine qP rfl rfl rfl rfl (by assumption) rfl ?_ | refine wo_gtr rfl rfl rfl ?_ | refine qR rfl rfl rfl ?_ | refine qX rfl ?_)
    refine qV rfl (fun c9 => ?_) fun c9 => ?_
    · have c9 : (6 : Int) < de := c9
      repeat (first | refine qO ?_ | refine qA ?_ | refine qG ?_ | refine qE rfl rfl ?_)
      exact qQ rfl ⟨⟨32, rfl, .inr ⟨by decide, by decide, fun ok => by have h : de ≤ 6 := ok.2.2.2; omega⟩⟩, o13⟩
    · have c9 : ¬ (6 : Int) < de := c9
      repeat (first | refine qO ?_ | refine qS ?_ | refine xB ?_ | refine qA ?_ | refine qG ?_ | refine qE rfl rfl ?_)
      refine qQ rfl ⟨⟨0, rfl, .inl ⟨rfl, ?_, ⟨?_, ?_, hcl⟩, ?_, ?_⟩⟩, o13⟩
      · exact ok1
      · show -1 ≤ cl
        omega
      · show cl < (pool.length : Int)
        omega
      · show 0 ≤ de
        omega
      · show de ≤ 6
        omega
end Go.Proofs.YtiecclkgjcnaoaaGreat.Ae
