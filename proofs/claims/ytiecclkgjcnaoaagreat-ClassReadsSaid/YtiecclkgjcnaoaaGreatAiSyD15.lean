/-
  A CLASS IS CHECKED, by the rules: method, Check.
  A CLASS IS CHECKED, by the rules: Check.
-/
import Derived.Test.YtiecclkgjcnaoaaGreatAiSyD13
namespace Go.Proofs.YtiecclkgjcnaoaaGreat.Ae
open Go.AE
set_option linter.unusedVariables false
set_option maxRecDepth 100000
def methOk (pool : List CoT) (ahead : List MeT) (m : MeT) : Prop :=
  isN m.name ∧ m.params.length ≤ 6 ∧ (∀ t ∈ m.params, tyOk false t) ∧ tyOk true m.ret ∧ ahead.any (fun o => decide (o.name = m.name)) = false ∧ (1 + (m.params.length : Int) ≤ m.locals ∧ m.locals ≤ 32) ∧ (0 ≤ m.stack ∧ m.stack ≤ 64) ∧ bodyOk pool m
theorem not_of {p : Prop} [Decidable p] (h : (!decide p) = true) : ¬ p := fun k => by
  rw [decide_eq_true k] at h
  cases h
theorem yes_of {p : Prop} [Decidable p] (h : (!decide p) = false) : p := Decidable.byContradiction fun k => by
  rw [decide_eq_false k] at h
  cases h
theorem meth1_spec {K : FuncId} {A : AW} {t : Ty'} (hw : Wf A) : CallP (ES K) 93 [.agg (tyc t)] A fun r A1 => r = .bool (!decide (tyOk false t)) ∧ Only A A1 none' := by
  refine call_of rfl rfl rfl ?_
  unfold tyc
  repeat (first | refine qO ?_ | refine qA ?_)
  refine wo_box rfl rfl rfl rfl ?_
  refine wo_A (fun A1 => Only A A1 none' ∧ A1.heap.get A.nxt = some (.cells 0 false 2 (tyc t))) ⟨Only.add hw _, by rw [AW.add_get, if_pos rfl]; rfl⟩ ?_
  rintro A1 ⟨o1, hx⟩
  generalize A.nxt = fx at hx
  repeat (first | refine qO ?_ | refine qA ?_ | refine qG ?_ | refine qE rfl rfl ?_)
  refine xG (vs := tyc t) rfl rfl rfl rfl hx rfl ?_
  refine qU rfl rfl orc_cons rfl (cistype_spec o1.wf) ?_
  rintro r A2 ⟨rfl, o2⟩
  repeat (first | refine qG ?_ | refine qE rfl rfl ?_ | refine wo_not rfl rfl ?_)
  exact qQ rfl ⟨rfl, o1.same o2⟩
theorem meth2_spec {K : FuncId} {A : AW} {o m : MeT} {pv cv hv qv dv gv : AV} {f5 : Nat} (hw : Wf A) (h5 : A.heap.get f5 = some (.cells 0 false 8 (mec m pv cv hv))) : CallP (ES K) 96 [.agg (mec o qv dv gv), .ptr f5 0 0] A fun r A1 => r = .bool (decide (o.name = m.name)) ∧ Only A A1 none' := by
  refine call_of rfl rfl rfl ?_
  unfold mec at h5 ⊢
  repeat (first | refine qO ?_ | refine qA ?_)
  refine wo_box rfl rfl rfl rfl ?_
  refine wo_A (fun A1 => Only A A1 none' ∧ A1.heap.get A.nxt = some (.cells 0 false 8 [.str o.name, qv, .int .i64 o.ret.1, .str o.ret.2, .int .i64 o.locals, .int .i64 o.stack, dv, gv])) ⟨Only.add hw _, by rw [AW.add_get, if_pos rfl]; rfl⟩ ?_
  rintro A1 ⟨o1, hx⟩
  generalize A.nxt = fx at hx
  have h5 := o1.keep _ _ h5 fun h => h
  repeat (first | refine qO ?_ | refine qA ?_ | refine qG ?_ | refine qE rfl rfl ?_ | refine qI rfl rfl rfl ?_ | refine qP rfl rfl rfl rfl (by assumption) rfl ?_ | refine wo_strEq rfl rfl rfl ?_)
  exact qQ rfl ⟨rfl, o1⟩
set_option maxHeartbeats 4000000 in
theorem cmeth_spec {K : FuncId} {A : AW} {name super : Str} {pv fv mv av : AV} {pool : List CoT} {m : MeT} {qv cv hv : AV} {n0 : Nat} {ahead : List MeT} {cs : List AV} (hw : Wf A) (hp : Full A 5 pv pool.length (pool.flatMap coc)) (hm : MeR A n0 m qv cv hv) (hl : pool.length < 1000000)
    (ha : Row A 8 av ahead.length cs) (hml : MeL A n0 ahead cs) (hla : ahead.length < 1000000) :
    CallP (ES K) 52 [.agg (clc name super pv fv mv), av, .agg (mec m qv cv hv)] A fun r A1 => (∃ e, r = .int .i64 e ∧ Err e (methOk pool ahead m)) ∧ Only A A1 none' := by
  refine call_of rfl rfl rfl ?_
  unfold clc mec
  repeat (first | refine qO ?_ | refine qA ?_)
  refine wo_box rfl rfl rfl rfl ?_
  refine wo_A (fun A1 => Only A A1 none' ∧ A1.heap.get A.nxt = some (.cells 0 false 5 (clc name super pv fv mv))) ⟨Only.add hw _, by rw [AW.add_get, if_pos rfl]; rfl⟩ ?_
  rintro A1 ⟨o1, h3⟩
  generalize A.nxt = f3 at h3
  refine wo_box rfl rfl rfl rfl ?_
  refine wo_A (fun A2 => Only A1 A2 none' ∧ A2.heap.get A1.nxt = some (.cells 0 false 8 (mec m qv cv hv))) ⟨Only.add o1.wf _, by rw [AW.add_get, if_pos rfl]; rfl⟩ ?_
  rintro A2 ⟨o2, h5⟩
  generalize A1.nxt = f5 at h5
  have h3 := o2.keep _ _ h3 fun h => h
  have o12 := o1.same o2
  have h5' := h5
  unfold mec at h5'
  repeat (first | refine qO ?_ | refine qY ?_ | refine qA ?_ | refine qG ?_ | refine qE rfl rfl ?_ | refine qI rfl rfl rfl ?_ | refine qP rfl rfl rfl rfl (by assumption) rfl ?_)
  refine qU rfl rfl orc_cons rfl isName_spec ?_
  rintro r A3 ⟨rfl, e3⟩
  obtain rfl : A2 = A3 := e3.symm
  repeat (first | refine qG ?_ | refine qE rfl rfl ?_ | refine wo_not rfl rfl ?_)
  refine wg_if rfl (fun hb => ?_) fun hb => ?_
  · repeat (first | refine qO ?_ | refine qA ?_ | refine qG ?_ | refine qE rfl rfl ?_)
    exact qQ rfl ⟨⟨50, rfl, .inr ⟨by decide, by decide, fun ok => not_of hb ok.1⟩⟩, o12⟩
  have hn := yes_of hb
  have hP := hm.p.keep o12 fun _ _ h => h
  repeat (first | refine qO ?_ | refine qA ?_ | refine qI rfl rfl rfl ?_ | refine qP rfl rfl rfl rfl (by assumption) rfl ?_)
  refine xJ rfl rfl rfl hP.lenV ?_
  repeat (first | refine qG ?_ | refine qE rfl rfl ?_ | refine wo_gtr rfl rfl rfl ?_)
  refine qV rfl (fun c6 => ?_) fun c6 => ?_
  · have c6 : (6 : Int) < (m.params.length : Int) := c6
    repeat (first | refine qO ?_ | refine qA ?_ | refine qG ?_ | refine qE rfl rfl ?_)
    exact qQ rfl ⟨⟨32, rfl, .inr ⟨by decide, by decide, fun ok => by have := ok.2.1; omega⟩⟩, o12⟩
  have c6 : ¬ (6 : Int) < (m.params.length : Int) := c6
  repeat (first | refine qO ?_ | refine qA ?_ | refine qJ rfl rfl ?_ | refine qI rfl rfl rfl ?_ | refine qP rfl rfl rfl rfl (by assumption) rfl ?_)
  refine qU rfl rfl orc_cons rfl (contT_spec (first := []) (cap := []) (P := fun t => !decide (tyOk false t)) o12.wf hP (by omega) (fun _ => orc_cons) rfl fun A3 x o3 => meth1_spec o3.wf) ?_
  rintro r A3 ⟨rfl, o3⟩
  have o13 := o12.same o3
  have h3 := o3.keep _ _ h3 fun h => h
  have h5 := o3.keep _ _ h5 fun h => h
  have h5' := h5
  unfold mec at h5'
  repeat (first | refine qG ?_ | refine qE rfl rfl ?_)
  refine wg_if rfl (fun hb2 => ?_) fun hb2 => ?_
  · repeat refine qS ?_
    refine wg_if rfl (fun _ => ?_) fun h => absurd (hb2.symm.trans h) (by decide)
    repeat (first | refine qO ?_ | refine qA ?_ | refine qG ?_ | refine qE rfl rfl ?_)
    refine qQ rfl ⟨⟨50, rfl, .inr ⟨by decide, by decide, fun ok => ?_⟩⟩, o13⟩
    obtain ⟨t, ht, hx⟩ := List.any_eq_true.1 hb2
    exact not_of hx (ok.2.2.1 t ht)
  have hps : ∀ t ∈ m.params, tyOk false t := fun t ht => yes_of (by
    cases hx : (!decide (tyOk false t))
    · rfl
    · have : m.params.any (fun t => !decide (tyOk false t)) = true := List.any_eq_true.2 ⟨t, ht, hx⟩
      rw [hb2] at this
      cases this)
  repeat (first | refine qA ?_ | refine qI rfl rfl rfl ?_)
  refine xG (vs := tyc m.ret) rfl rfl rfl rfl h5 rfl ?_
  refine qU rfl rfl orc_cons rfl (cistype_spec (t := m.ret) (void := true) o13.wf) ?_
  rintro r A4 ⟨rfl, o4⟩
  have o14 := o13.same o4
  have h3 := o4.keep _ _ h3 fun h => h
  have h5 := o4.keep _ _ h5 fun h => h
  have h5' := h5
  unfold mec at h5'
  repeat (first | refine qG ?_ | refine qE rfl rfl ?_ | refine wo_not rfl rfl ?_)
  refine wg_if rfl (fun hb3 => ?_) fun hb3 => ?_
  · repeat (first | refine qO ?_ | refine qA ?_ | refine qG ?_ | refine qE rfl rfl ?_)
    exact qQ rfl ⟨⟨50, rfl, .inr ⟨by decide, by decide, fun ok => not_of hb3 ok.2.2.2.1⟩⟩, o14⟩
  have hret := yes_of hb3
  repeat (first | refine qO ?_ | refine qA ?_ | refine qJ rfl rfl ?_)
  refine wo_makeFunc rfl rfl rfl ?_
  refine qU rfl rfl orc_cons rfl (contM_spec (P := fun o => decide (o.name = m.name)) o14.wf (hml.keep o14 fun _ h => h.elim) (ha.keep o14 fun _ _ h => h) hla rfl fun A5 z p c q o5 => meth2_spec o5.wf (o5.keep _ _ h5 fun h => h)) ?_
  rintro r A5 ⟨rfl, o5⟩
  have o15 := o14.same o5
  have h3 := o5.keep _ _ h3 fun h => h
  have h5 := o5.keep _ _ h5 fun h => h
  have h5' := h5
  unfold mec at h5'
  have hP := hm.p.keep o15 fun _ _ h => h
  repeat (first | refine qG ?_ | refine qE rfl rfl ?_)
  refine wg_if rfl (fun hb4 => ?_) fun hb4 => ?_
  · repeat (first | refine qO ?_ | refine qA ?_ | refine qG ?_ | refine qE rfl rfl ?_)
    exact qQ rfl ⟨⟨53, rfl, .inr ⟨by decide, by decide, fun ok => by have := ok.2.2.2.2.1; rw [hb4] at this; cases this⟩⟩, o15⟩
  repeat (first | refine qO ?_ | refine qA ?_ | refine qI rfl rfl rfl ?_ | refine qP rfl rfl rfl rfl (by assumption) rfl ?_)
  refine xJ rfl rfl rfl hP.lenV ?_
  refine wo_add rfl rfl rfl (by omega) (by omega) ?_
  repeat (first | refine qJ rfl rfl ?_ | refine xM rfl rfl rfl ?_)
  by_cases c7 : m.locals < 1 + (m.params.length : Int)
  · refine xA 39 true rfl (decide_eq_true c7) ?_
    repeat (first | refine qO ?_ | refine qS ?_ | refine qA ?_ | refine qG ?_ | refine qE rfl rfl ?_ | refine qR rfl rfl rfl ?_ | refine xE rfl rfl ?_ | refine xH rfl ?_)
    exact qQ rfl ⟨⟨32, rfl, .inr ⟨by decide, by decide, fun ok => by have := ok.2.2.2.2.2.1.1; omega⟩⟩, o15⟩
  refine xA 39 false rfl (decide_eq_false c7) ?_
  repeat (first | refine qG ?_ | refine qE rfl rfl ?_ | refine qI rfl rfl rfl ?_ | refine qP rfl rfl rfl rfl (by assumption) rfl ?_ | refine wo_gtr rfl rfl rfl ?_ | refine qR rfl rfl rfl ?_ | refine qX rfl ?_)
  refine qV rfl (fun c8 => ?_) fun c8 => ?_
  · have c8 : (32 : Int) < m.locals := c8
    repeat refine qS ?_
    refine qV rfl (fun _ => ?_) fun h => absurd c8 h
    repeat (first | refine qO ?_ | refine qA ?_ | refine qG ?_ | refine qE rfl rfl ?_)
    exact qQ rfl ⟨⟨32, rfl, .inr ⟨by decide, by decide, fun ok => by have := ok.2.2.2.2.2.1.2; omega⟩⟩, o15⟩
  have c8 : ¬ (32 : Int) < m.locals := c8
  repeat (first | refine qA ?_ | refine qJ rfl rfl ?_ | refine qI rfl rfl rfl ?_ | refine qP rfl rfl rfl rfl (by assumption) rfl ?_ | refine xM rfl rfl rfl ?_)
  by_cases c9 : m.stack < 0
  · refine xA 47 true rfl (decide_eq_true c9) ?_
    repeat (first | refine qO ?_ | refine qA ?_ | refine qG ?_ | refine qE rfl rfl ?_ | refine qR rfl rfl rfl ?_ | refine xE rfl rfl ?_ | refine xH rfl ?_)
    exact qQ rfl ⟨⟨32, rfl, .inr ⟨by decide, by decide, fun ok => by have := ok.2.2.2.2.2.2.1.1; omega⟩⟩, o15⟩
  refine xA 47 false rfl (decide_eq_false c9) ?_
  repeat (first | refine qG ?_ | refine qE rfl rfl ?_ | refine qI rfl rfl rfl ?_ | refine qP rfl rfl rfl rfl (by assumption) rfl ?_ | refine wo_gtr rfl rfl rfl ?_ | refine qR rfl rfl rfl ?_ | refine qX rfl ?_)
  refine qV rfl (fun c10 => ?_) fun c10 => ?_
  · have c10 : (64 : Int) < m.stack := c10
    repeat (first | refine qO ?_ | refine qA ?_ | refine qG ?_ | refine qE rfl rfl ?_)
    exact qQ rfl ⟨⟨32, rfl, .inr ⟨by decide, by decide, fun ok => by have := ok.2.2.2.2.2.2.1.2; omega⟩⟩, o15⟩
  have c10 : ¬ (64 : Int) < m.stack := c10
  repeat (first | refine qO ?_ | refine qS ?_ | refine xB ?_ | refine qA ?_)
  refine xG (vs := clc name super pv fv mv) rfl rfl rfl rfl h3 rfl ?_
  refine xG (vs := mec m qv cv hv) rfl rfl rfl rfl h5 rfl ?_
  refine qU rfl rfl orc_cons rfl (cbody_spec o15.wf (hp.keep o15 fun _ _ h => h) (hm.keep o15 fun _ h => h.elim) hl) ?_
  rintro r A6 ⟨⟨e, rfl, he⟩, o6⟩
  repeat (first | refine qG ?_ | refine qE rfl rfl ?_)
  refine qQ rfl ⟨⟨e, rfl, ?_⟩, o15.same o6⟩
  rcases he with ⟨h0, hB⟩ | ⟨h1, h2, hB⟩
  · exact .inl ⟨h0, hn, by omega, hps, hret, hb4, ⟨by omega, by omega⟩, ⟨by omega, by omega⟩, hB⟩
  · exact .inr ⟨h1, h2, fun ok => hB ok.2.2.2.2.2.2.2⟩
end Go.Proofs.YtiecclkgjcnaoaaGreat.Ae
namespace Go.Proofs.YtiecclkgjcnaoaaGreat.Ae
open Go.AE
set_option linter.unusedVariables false
set_option maxRecDepth 100000
structure ClT where
  name : Str
  super : Str
  pool : List CoT
  fields : List FiT
  methods : List MeT
structure ClR (A : AW) (n0 : Nat) (c : ClT) (pv fv mv : AV) : Prop where
  p : Full A 5 pv c.pool.length (c.pool.flatMap coc)
  f : Full A 4 fv c.fields.length (c.fields.flatMap fic)
  m : ∃ cs, Full A 8 mv c.methods.length cs ∧ MeL A n0 c.methods cs
theorem ClR.keep {A A1 : AW} {n0 : Nat} {c : ClT} {pv fv mv : AV} (h : ClR A n0 c pv fv mv) (o : Only A A1 none') : ClR A1 n0 c pv fv mv := by
  obtain ⟨cs, h1, h2⟩ := h.m
  exact ⟨h.p.keep o fun _ _ h => h, h.f.keep o fun _ _ h => h, cs, h1.keep o fun _ _ h => h, h2.keep o fun _ h => h.elim⟩
def clsOk (c : ClT) : Prop :=
  isN c.name ∧ (c.super = [] ∨ isN c.super) ∧ c.pool.length ≤ 128 ∧ (∀ x ∈ c.pool, coOk x) ∧ fisOk c.fields ∧ c.methods.length ≤ 12 ∧ ∀ i m, c.methods[i]? = some m → methOk c.pool (c.methods.take i) m
theorem MeL.take {A : AW} {n0 : Nat} : ∀ {ms : List MeT} {cs : List AV} (i : Nat), MeL A n0 ms cs → MeL A n0 (ms.take i) (cs.take (i * 8))
  | [], cs, i, h => by
    have h : cs = [] := h
    subst h
    simp only [List.take_nil]
    rfl
  | m :: ms, cs, 0, h => by
    rw [Nat.zero_mul]
    rfl
  | m :: ms, cs, i + 1, ⟨pv, cv, hv, cs', e, h1, h2⟩ => by
    refine ⟨pv, cv, hv, cs'.take (i * 8), ?_, h1, MeL.take i h2⟩
    rw [e, show (i + 1) * 8 = (mec m pv cv hv).length + i * 8 from by show _ = 8 + _; omega, List.take_length_add_append]
set_option maxHeartbeats 4000000 in
theorem ccheck_spec {K : FuncId} {A : AW} {n0 : Nat} {c : ClT} {pv fv mv : AV} (hw : Wf A) (h : ClR A n0 c pv fv mv) (hl1 : c.pool.length < 1000000) (hl2 : c.fields.length < 1000000) :
    CallP (ES K) 11 [.agg (clc c.name c.super pv fv mv)] A fun r A1 => (∃ e, r = .int .i64 e ∧ Err e (clsOk c)) ∧ Only A A1 none' := by
  refine call_of rfl rfl rfl ?_
  unfold clc
  repeat (first | refine qO ?_ | refine qA ?_)
  refine wo_box rfl rfl rfl rfl ?_
  refine wo_A (fun A1 => Only A A1 none' ∧ A1.heap.get A.nxt = some (.cells 0 false 5 [.str c.name, .str c.super, pv, fv, mv])) ⟨Only.add hw _, by rw [AW.add_get, if_pos rfl]; rfl⟩ ?_
  rintro A1 ⟨o1, h1⟩
  generalize A.nxt = f1 at h1
  repeat (first | refine qO ?_ | refine qY ?_ | refine qA ?_ | refine qG ?_ | refine qE rfl rfl ?_ | refine qI rfl rfl rfl ?_ | refine qP rfl rfl rfl rfl (by assumption) rfl ?_)
  refine qU rfl rfl orc_cons rfl isName_spec ?_
  rintro r A2 ⟨rfl, e2⟩
  obtain rfl : A1 = A2 := e2.symm
  repeat (first | refine qG ?_ | refine qE rfl rfl ?_ | refine wo_not rfl rfl ?_)
  refine wg_if rfl (fun hb => ?_) fun hb => ?_
  · repeat refine qS ?_
    refine wg_if rfl (fun _ => ?_) fun h => absurd (hb.symm.trans h) (by decide)
    repeat (first | refine qO ?_ | refine qA ?_ | refine qG ?_ | refine qE rfl rfl ?_)
    exact qQ rfl ⟨⟨50, rfl, .inr ⟨by decide, by decide, fun ok => not_of hb ok.1⟩⟩, o1⟩
  have hn := yes_of hb
  refine wg_cut (fun l1 A2 => (Kn.put 1 (.ptr f1 0 0) (.put 10 (.bool (!decide (c.super = [] ∨ isN c.super))) .nil)).le l1 ∧ A2 = A1) (fun k' hk => ?_) ?_
  · repeat (first | refine qA ?_ | refine qJ rfl rfl ?_ | refine qI rfl rfl rfl ?_ | refine qP rfl rfl rfl rfl (by assumption) rfl ?_ | refine wo_strNe rfl rfl rfl ?_)
    by_cases c0 : c.super ≠ []
    · refine xA 18 true rfl (decide_eq_true c0) ?_
      repeat (first | refine qI rfl rfl rfl ?_ | refine qP rfl rfl rfl rfl (by assumption) rfl ?_ | refine qX rfl ?_)
      refine qU rfl rfl orc_cons rfl isName_spec ?_
      rintro r A2 ⟨rfl, e2⟩
      obtain rfl : A1 = A2 := e2.symm
      repeat (first | refine qG ?_ | refine qE rfl rfl ?_ | refine wo_not rfl rfl ?_ | refine qR rfl rfl rfl ?_ | refine qX rfl ?_)
      have e0 : (!decide (isN c.super)) = !decide (c.super = [] ∨ isN c.super) := congrArg (fun b => !b) (decide_eq_decide.2 ⟨.inr, fun h => h.resolve_left c0⟩)
      exact hk _ _ ⟨⟨rfl, congrArg (fun b => some (AV.bool b)) e0, trivial⟩, rfl⟩
    · refine xA 18 false rfl (decide_eq_false c0) ?_
      have c0 : c.super = [] := Decidable.byContradiction c0
      repeat (first | refine qG ?_ | refine qE rfl rfl ?_ | refine qR rfl rfl rfl ?_ | refine xE rfl rfl ?_)
      have e0 : false = !decide (c.super = [] ∨ isN c.super) := by rw [decide_eq_true (.inl c0)]; rfl
      exact hk _ _ ⟨⟨rfl, congrArg (fun b => some (AV.bool b)) e0, trivial⟩, rfl⟩
  rintro l1 A2 ⟨hl, e2⟩
  obtain rfl : A1 = A2 := e2.symm
  refine wg_le _ ?_ hl
  refine wg_if rfl (fun hb2 => ?_) fun hb2 => ?_
  · repeat (first | refine qO ?_ | refine qA ?_ | refine qG ?_ | refine qE rfl rfl ?_)
    exact qQ rfl ⟨⟨50, rfl, .inr ⟨by decide, by decide, fun ok => not_of hb2 ok.2.1⟩⟩, o1⟩
  have hsu := yes_of hb2
  have H := h.keep o1
  repeat (first | refine qO ?_ | refine qA ?_ | refine qI rfl rfl rfl ?_ | refine qP rfl rfl rfl rfl (by assumption) rfl ?_)
  refine xJ rfl rfl rfl H.p.row.lenV ?_
  repeat (first | refine qG ?_ | refine qE rfl rfl ?_ | refine wo_gtr rfl rfl rfl ?_)
  refine qV rfl (fun c1 => ?_) fun c1 => ?_
  · have c1 : (128 : Int) < (c.pool.length : Int) := c1
    repeat (first | refine qO ?_ | refine qA ?_ | refine qG ?_ | refine qE rfl rfl ?_)
    exact qQ rfl ⟨⟨32, rfl, .inr ⟨by decide, by decide, fun ok => by have := ok.2.2.1; omega⟩⟩, o1⟩
  have c1 : ¬ (128 : Int) < (c.pool.length : Int) := c1
  repeat (first | refine qO ?_ | refine qS ?_ | refine xB ?_ | refine qA ?_ | refine qI rfl rfl rfl ?_ | refine qP rfl rfl rfl rfl (by assumption) rfl ?_)
  refine xJ rfl rfl rfl H.p.row.lenV ?_
  repeat (first | refine qY ?_ | refine qG ?_ | refine qJ rfl rfl ?_)
  refine wg_loop ?_
  refine wg_le (.put 1 (.ptr f1 0 0) (.put 30 pv (.put 31 (.int .i64 (c.pool.length : Int)) (.put 32 (.int .i64 ((0 : Nat) : Int)) .nil)))) ?_ ⟨rfl, rfl, rfl, rfl, trivial⟩
  refine wg_ind (ι := Nat) (fun i => c.pool.length - i) (fun i => .put 1 (.ptr f1 0 0) (.put 30 pv (.put 31 (.int .i64 (c.pool.length : Int)) (.put 32 (.int .i64 (i : Int)) .nil))))
    (fun i A3 => Only A1 A3 none' ∧ i ≤ c.pool.length ∧ ∀ j x, j < i → c.pool[j]? = some x → coOk x) ?_ 0 A1 ⟨Only.refl o1.wf _, Nat.zero_le _, fun j f h => by omega⟩
  rintro i A3 ⟨o3, hi, hpi⟩ ih
  have o13 := o1.same o3
  have h1 := o3.keep _ _ h1 fun h => h
  have H := H.keep o3
  repeat (first | refine qO ?_ | refine qA ?_ | refine qG ?_ | refine xM rfl rfl rfl ?_)
  refine qV rfl (fun hlt => ?_) fun hge => ?_
  · have hlt : i < c.pool.length := Int.ofNat_lt.1 hlt
    obtain ⟨x, hx⟩ : ∃ x, c.pool[i]? = some x := ⟨c.pool[i], List.getElem?_eq_getElem hlt⟩
    obtain ⟨f, t, o, cc, ex, ro, all, e0, hh, _, hat⟩ := row_el (cl := coc) (fun _ => rfl) H.p.row hx
    repeat (first | refine qO ?_ | refine qS ?_ | refine qY ?_ | refine qA ?_)
    refine xF i rfl (congrArg some e0) rfl rfl rfl hlt ?_
    refine xG (vs := coc x) rfl rfl rfl rfl hh ?_ ?_
    · exact (hat 5 0 (Nat.le_refl _)).trans rfl
    refine wo_alloc rfl rfl rfl ?_
    refine qZ rfl rfl rfl rfl rfl rfl (by rw [AW.add_get, if_pos rfl]) rfl ?_
    refine wo_A (fun A4 => Only A3 A4 none' ∧ A4.heap.get A3.nxt = some (.cells 0 false 5 (coc x))) ⟨made o13.wf, by rw [AW.put_get, if_pos rfl]; rfl⟩ ?_
    rintro A4 ⟨o4, h4⟩
    generalize A3.nxt = f4 at h4
    have o14 := o13.same o4
    repeat (first | refine qO ?_ | refine qA ?_ | refine qG ?_)
    refine xG (vs := coc x) rfl rfl rfl rfl h4 rfl ?_
    refine qU rfl rfl orc_cons rfl (cconstant_spec (c := x) o14.wf) ?_
    rintro r A5 ⟨⟨e, rfl, he⟩, o5⟩
    have o15 := o14.same o5
    repeat (first | refine qO ?_ | refine qA ?_ | refine qG ?_ | refine qJ rfl rfl ?_ | refine qE rfl rfl ?_ | refine xL rfl rfl rfl ?_)
    refine qV rfl (fun hne => ?_) fun hz => ?_
    · repeat (first | refine qO ?_ | refine qA ?_ | refine qG ?_ | refine qJ rfl rfl ?_ | refine qE rfl rfl ?_)
      exact qQ rfl ⟨⟨e, rfl, he.of hne fun ok => ok.2.2.2.1 x (List.mem_of_getElem? hx)⟩, o15⟩
    · have hz : e = 0 := Decidable.byContradiction hz
      repeat (first | refine qS ?_ | refine xB ?_ | refine qA ?_)
      refine wo_add rfl rfl rfl (by omega) (by omega) ?_
      repeat (first | refine qG ?_ | refine qJ rfl rfl ?_)
      refine xN ?_
      refine wg_le (.put 1 (.ptr f1 0 0) (.put 30 pv (.put 31 (.int .i64 (c.pool.length : Int)) (.put 32 (.int .i64 ((i + 1 : Nat) : Int)) .nil)))) ?_ ⟨rfl, rfl, rfl, rfl, trivial⟩
      refine ih (i + 1) A5 (by omega) ⟨(o3.same o4).same o5, hlt, fun j y hj hy => ?_⟩
      by_cases ej : j = i
      · subst ej
        rw [hx] at hy
        cases hy
        exact he.ok hz
      · exact hpi j y (by omega) hy
  have hge : i = c.pool.length := by
    have : ¬ (i : Int) < (c.pool.length : Int) := hge
    omega
  have hco : ∀ x ∈ c.pool, coOk x := fun x hx => by
    obtain ⟨j, hj⟩ := List.getElem?_of_mem hx
    exact hpi j x (by have := (List.getElem?_eq_some_iff.1 hj).1; omega) hj
  refine wg_exit rfl ?_
  repeat (first | refine qO ?_ | refine qA ?_ | refine qI rfl rfl rfl ?_ | refine qP rfl rfl rfl rfl (by assumption) rfl ?_)
  refine qU rfl rfl orc_cons rfl (cfields_spec o13.wf H.f hl2) ?_
  rintro r A4 ⟨⟨e, rfl, he⟩, o4⟩
  have o14 := o13.same o4
  have h1 := o4.keep _ _ h1 fun h => h
  have H := H.keep o4
  repeat (first | refine qO ?_ | refine qA ?_ | refine qG ?_ | refine qJ rfl rfl ?_ | refine qE rfl rfl ?_ | refine xL rfl rfl rfl ?_)
  refine qV rfl (fun hne => ?_) fun hz => ?_
  · repeat (first | refine qO ?_ | refine qA ?_ | refine qG ?_ | refine qJ rfl rfl ?_ | refine qE rfl rfl ?_)
    exact qQ rfl ⟨⟨e, rfl, he.of hne fun ok => ok.2.2.2.2.1⟩, o14⟩
  have hfi := he.ok (Decidable.byContradiction hz)
  obtain ⟨cs, hM, hML⟩ := H.m
  repeat (first | refine qO ?_ | refine qS ?_ | refine qA ?_ | refine qI rfl rfl rfl ?_ | refine qP rfl rfl rfl rfl (by assumption) rfl ?_)
  refine xJ rfl rfl rfl hM.row.lenV ?_
  repeat (first | refine qG ?_ | refine wo_gtr rfl rfl rfl ?_)
  refine qV rfl (fun c2 => ?_) fun c2 => ?_
  · have c2 : (12 : Int) < (c.methods.length : Int) := c2
    repeat (first | refine qO ?_ | refine qA ?_ | refine qG ?_ | refine qE rfl rfl ?_)
    exact qQ rfl ⟨⟨32, rfl, .inr ⟨by decide, by decide, fun ok => by have := ok.2.2.2.2.2.1; omega⟩⟩, o14⟩
  have c2 : ¬ (12 : Int) < (c.methods.length : Int) := c2
  repeat (first | refine qO ?_ | refine qS ?_ | refine qA ?_ | refine qI rfl rfl rfl ?_ | refine qP rfl rfl rfl rfl (by assumption) rfl ?_)
  refine xJ rfl rfl rfl hM.row.lenV ?_
  repeat (first | refine qY ?_ | refine qG ?_ | refine qJ rfl rfl ?_)
  refine wg_loop ?_
  refine wg_le (.put 1 (.ptr f1 0 0) (.put 53 mv (.put 54 (.int .i64 (c.methods.length : Int)) (.put 55 (.int .i64 ((0 : Nat) : Int)) .nil)))) ?_ ⟨rfl, rfl, rfl, rfl, trivial⟩
  refine wg_ind (ι := Nat) (fun i => c.methods.length - i) (fun i => .put 1 (.ptr f1 0 0) (.put 53 mv (.put 54 (.int .i64 (c.methods.length : Int)) (.put 55 (.int .i64 (i : Int)) .nil))))
    (fun i A5 => Only A4 A5 none' ∧ i ≤ c.methods.length ∧ ∀ j x, j < i → c.methods[j]? = some x → methOk c.pool (c.methods.take j) x) ?_ 0 A4 ⟨Only.refl o14.wf _, Nat.zero_le _, fun j f h => by omega⟩
  rintro k A5 ⟨o5, hk, hpk⟩ ih2
  have o15 := o14.same o5
  have h1 := o5.keep _ _ h1 fun h => h
  have hM := hM.keep o5 fun _ _ h => h
  have hML := hML.keep o5 fun _ h => h.elim
  have H := H.keep o5
  repeat (first | refine qO ?_ | refine qA ?_ | refine qG ?_ | refine xM rfl rfl rfl ?_)
  refine qV rfl (fun hlt => ?_) fun hge2 => ?_
  · have hlt : k < c.methods.length := Int.ofNat_lt.1 hlt
    obtain ⟨x, hx⟩ : ∃ x, c.methods[k]? = some x := ⟨c.methods[k], List.getElem?_eq_getElem hlt⟩
    obtain ⟨qv, cv, hv, hmr, hel⟩ := meL_at hML hx
    obtain ⟨f, t, o, cc, ex, ro, all, e0, hh, hat⟩ := hM.row.at hlt
    repeat (first | refine qO ?_ | refine qS ?_ | refine qY ?_ | refine qA ?_ | refine qJ rfl rfl ?_)
    refine xF k rfl (congrArg some e0) rfl rfl rfl hlt ?_
    refine xG (vs := mec x qv cv hv) rfl rfl rfl rfl hh ?_ ?_
    · exact (hat 8 0 (Nat.le_refl _)).trans ((hel 8 0 (Nat.le_refl _)).trans rfl)
    refine wo_alloc rfl rfl rfl ?_
    repeat refine qE rfl rfl ?_
    refine qZ rfl rfl rfl rfl rfl rfl (by rw [AW.add_get, if_pos rfl]) rfl ?_
    refine wo_A (fun A6 => Only A5 A6 none' ∧ A6.heap.get A5.nxt = some (.cells 0 false 8 (mec x qv cv hv))) ⟨made o15.wf, by rw [AW.put_get, if_pos rfl]; rfl⟩ ?_
    rintro A6 ⟨o6, h8⟩
    generalize A5.nxt = f8 at h8
    have h1 := o6.keep _ _ h1 fun h => h
    have o16 := o15.same o6
    have hM6 := hM.keep o6 fun _ _ h => h
    have hML6 := hML.keep o6 fun _ h => h.elim
    obtain ⟨y, hs1, hy, hys⟩ := Full.take (E := ES K) (t := 26) (d := d26) (e := 47) (de := d47) (k := k) (kk := .i64) rfl rfl rfl hM6 (by omega)
    have hy : Row A6 8 y (c.methods.take k).length (cs.take (k * 8)) := by
      rw [take_len hk]
      exact hy
    repeat (first | refine qO ?_ | refine qG ?_)
    refine wg_draw rfl ?_
    refine xI rfl rfl rfl rfl rfl rfl rfl ?_
    refine xG (vs := clc c.name c.super pv fv mv) rfl rfl rfl rfl h1 rfl ?_
    repeat refine qG ?_
    refine ⟨rfl, _, rfl, ?_⟩
    repeat (first
      | (refine xC rfl rfl rfl rfl rfl ?_
         repeat (first | refine qG ?_ | refine qJ rfl rfl ?_ | refine qI rfl rfl rfl ?_)
         refine ⟨rfl, ?_⟩)
      | (refine xI rfl rfl rfl rfl rfl rfl rfl ?_
         repeat (first | refine qG ?_ | refine qP rfl rfl rfl rfl (by assumption) rfl ?_)
         refine ⟨rfl, _, rfl, ?_⟩))
    refine xI rfl rfl rfl rfl rfl rfl rfl ?_
    refine wo_slice (Q := fun r => r = y) rfl rfl rfl rfl rfl ⟨y, hs1, rfl⟩ ?_
    rintro r rfl
    repeat refine qG ?_
    refine ⟨rfl, _, rfl, ?_⟩
    refine xI rfl rfl rfl rfl rfl rfl rfl ?_
    refine xG (vs := mec x qv cv hv) rfl rfl rfl rfl h8 rfl ?_
    repeat refine qG ?_
    refine ⟨rfl, _, rfl, ?_⟩
    refine wd_act rfl rfl rfl ?_
    refine qU rfl rfl orc_cons rfl (cmeth_spec (m := x) o16.wf (H.p.keep o6 fun _ _ h => h) (hmr.keep o6 fun _ h => h.elim) hl1 hy (hML6.take k) (by rw [take_len hk]; omega)) ?_
    rintro r A7 ⟨⟨e, rfl, he⟩, o7⟩
    have o17 := o16.same o7
    repeat refine qG ?_
    refine ⟨⟨.inl (by show bit 63 5 = true; rfl), .inl (by show bit 63 4 = true; rfl), .inl (by show bit 63 2 = true; rfl), .inl (by show bit 63 0 = true; rfl), trivial⟩, ?_⟩
    refine wd_act rfl rfl rfl ?_
    repeat (first | refine qG ?_ | refine qE rfl rfl ?_)
    refine ⟨⟨.inl (by show bit 127 5 = true; rfl), .inl (by show bit 127 4 = true; rfl), .inl (by show bit 127 2 = true; rfl), .inl (by show bit 127 0 = true; rfl), trivial⟩, wd_nil ?_⟩
    repeat (first | refine qO ?_ | refine qA ?_ | refine qG ?_ | refine qJ rfl rfl ?_ | refine xL rfl rfl rfl ?_)
    refine qV rfl (fun hne => ?_) fun hz => ?_
    · repeat (first | refine qO ?_ | refine qA ?_ | refine qG ?_ | refine qJ rfl rfl ?_ | refine qE rfl rfl ?_)
      exact qQ rfl ⟨⟨e, rfl, he.of hne fun ok => ok.2.2.2.2.2.2 k x hx⟩, o17⟩
    · have hz : e = 0 := Decidable.byContradiction hz
      repeat (first | refine qS ?_ | refine xB ?_ | refine qA ?_)
      refine wo_add rfl rfl rfl (by omega) (by omega) ?_
      repeat (first | refine qG ?_ | refine qJ rfl rfl ?_)
      refine xN ?_
      refine wg_le (.put 1 (.ptr f1 0 0) (.put 53 mv (.put 54 (.int .i64 (c.methods.length : Int)) (.put 55 (.int .i64 ((k + 1 : Nat) : Int)) .nil)))) ?_ ⟨rfl, rfl, rfl, rfl, trivial⟩
      refine ih2 (k + 1) A7 (by omega) ⟨(o5.same o6).same o7, hlt, fun j y hj hyy => ?_⟩
      by_cases ej : j = k
      · subst ej
        rw [hx] at hyy
        cases hyy
        exact he.ok hz
      · exact hpk j y (by omega) hyy
  · have hge2 : k = c.methods.length := by
      have : ¬ (k : Int) < (c.methods.length : Int) := hge2
      omega
    refine wg_exit rfl ?_
    repeat (first | refine qO ?_ | refine qA ?_ | refine qG ?_ | refine qE rfl rfl ?_)
    refine qQ rfl ⟨⟨0, rfl, .inl ⟨rfl, hn, hsu, by omega, hco, hfi, by omega, fun j x hj => hpk j x ?_ hj⟩⟩, o15⟩
    have := (List.getElem?_eq_some_iff.1 hj).1
    omega
end Go.Proofs.YtiecclkgjcnaoaaGreat.Ae
