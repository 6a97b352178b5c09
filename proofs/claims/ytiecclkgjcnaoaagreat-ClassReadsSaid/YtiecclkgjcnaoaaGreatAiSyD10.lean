/-
  CONSTANTS ARE CHECKED, by the rules: bits, IsType, constant.
  CONSTANTS ARE CHECKED, by the rules: constant.  (Printed by mkd10.py.)
-/
import Derived.Test.YtiecclkgjcnaoaaGreatAiSyD8
namespace Go.Proofs.YtiecclkgjcnaoaaGreat.Ae
open Go.AE
set_option linter.unusedVariables false
set_option maxRecDepth 100000
theorem runQ_bind {α β : Type} (P : Program) : ∀ (s : Sem α) (f : α → Sem β), runQ P (s >>= f) = (runQ P s).bind fun a => runQ P (f a)
  | .pure a, f => rfl
  | .program k, f => runQ_bind P (k P) f
  | .load .., _ | .store .., _ | .new .., _ | .shape .., _ | .freeze .., _ | .frozen .., _ | .getObj .., _ | .setObj .., _ | .choose .., _ | .sys .., _ | .mark .., _ | .halt .., _ => rfl
theorem eqU64 {d : Nat} {a b : Int} : runQ Tryz.prog (Go.Op.equalIn (d + 1) 80 (.int .u64 a) (.int .u64 b)) = some (a == b) := by
  unfold Go.Op.equalIn
  rw [runQ_bind, show runQ Tryz.prog (Go.underlying 80) = some (.int .u64) from by kernel_rfl]
  rfl
theorem eqArr {d : Nat} {a b x y : Int} : runQ Tryz.prog (Go.Op.equalIn (d + 2) 81 (.agg #[.int .u64 a, .int .u64 b]) (.agg #[.int .u64 x, .int .u64 y])) = some ((a == x) && (b == y)) := by
  unfold Go.Op.equalIn
  rw [runQ_bind, show runQ Tryz.prog (Go.underlying 81) = some (.array 2 80) from by kernel_rfl]
  dsimp only [Option.bind_some]
  rw [runQ_bind, show runQ Tryz.prog (Go.sizeOf 80) = some 1 from by kernel_rfl]
  dsimp only [Option.bind_some]
  rw [Std.Legacy.Range.forIn_eq_forIn_range', show List.range' ([:2] : Std.Legacy.Range).start ([:2] : Std.Legacy.Range).size ([:2] : Std.Legacy.Range).step = [0, 1] from rfl]
  rw [List.forIn_cons]
  simp only [runQ_bind]
  rw [show runQ Tryz.prog (Go.part 80 #[Value.int .u64 a, Value.int .u64 b] (0 * 1)) = some (.int .u64 a) from by kernel_rfl, show runQ Tryz.prog (Go.part 80 #[Value.int .u64 x, Value.int .u64 y] (0 * 1)) = some (.int .u64 x) from by kernel_rfl]
  dsimp only [Option.bind_some]
  rw [eqU64]
  have e1 : runQ Tryz.prog (if (!true) = true then pure (ForInStep.done (some false, ())) else pure (ForInStep.yield (none, ()))) = some (ForInStep.yield ((none : Option Bool), ())) := rfl
  have e2 : runQ Tryz.prog (if (!false) = true then pure (ForInStep.done (some false, ())) else pure (ForInStep.yield ((none : Option Bool), ()))) = some (ForInStep.done (some false, ())) := rfl
  cases a == x with
  | false =>
    dsimp only [Option.bind_some]
    rw [e2]
    rfl
  | true =>
    dsimp only [Option.bind_some]
    rw [e1]
    dsimp only [Option.bind_some]
    rw [List.forIn_cons]
    simp only [runQ_bind]
    rw [show runQ Tryz.prog (Go.part 80 #[Value.int .u64 a, Value.int .u64 b] (1 * 1)) = some (.int .u64 b) from by kernel_rfl, show runQ Tryz.prog (Go.part 80 #[Value.int .u64 x, Value.int .u64 y] (1 * 1)) = some (.int .u64 y) from by kernel_rfl]
    dsimp only [Option.bind_some]
    rw [eqU64]
    cases b == y with
    | false =>
      dsimp only [Option.bind_some]
      rw [e2]
      rfl
    | true =>
      dsimp only [Option.bind_some]
      rw [e1]
      rfl
theorem quiet_of {K : FuncId} {A : AW} : ∀ (s : Sem Value) (v : Value) (a : AV), runQ Tryz.prog s = some v → back v = some a → quiet (ES K) s A = .val a A := fun s v a h1 h2 => by
  unfold quiet
  rw [show runQ (ES K).P s = some v from h1]
  simp only [h2]
def bv2 (x : Nat × Nat) : AV := .agg [.int .u64 (x.1 : Int), .int .u64 (x.2 : Int)]
theorem arrNe {K : FuncId} {A : AW} {x y : Nat × Nat} : binA (ES K) .neq 81 (bv2 x) (bv2 y) A = .val (.bool (decide (x ≠ y))) A := by
  obtain ⟨a, b⟩ := x
  obtain ⟨c, d⟩ := y
  have hd : decide ((a, b) ≠ (c, d)) = !(((a : Int) == (c : Int)) && ((b : Int) == (d : Int))) := by
    by_cases h1 : a = c <;> by_cases h2 : b = d <;> simp [h1, h2] <;> omega
  have h : runQ Tryz.prog (do Go.eqGuard .neq 81 (.tmp 0) (.tmp 0) (.agg #[.int .u64 (a : Int), .int .u64 (b : Int)]) (.agg #[.int .u64 (c : Int), .int .u64 (d : Int)]); Go.binOp .neq 81 (.agg #[.int .u64 (a : Int), .int .u64 (b : Int)]) (.agg #[.int .u64 (c : Int), .int .u64 (d : Int)])) = some (.bool (decide ((a, b) ≠ (c, d)))) := by
    rw [runQ_bind, show runQ Tryz.prog (Go.eqGuard .neq 81 (.tmp 0) (.tmp 0) (.agg #[.int .u64 (a : Int), .int .u64 (b : Int)]) (.agg #[.int .u64 (c : Int), .int .u64 (d : Int)])) = some () from by kernel_rfl]
    dsimp only [Option.bind_some]
    show runQ Tryz.prog (do pure (Value.bool (!(← Go.Op.equalIn (9998 + 2) 81 (.agg #[.int .u64 (a : Int), .int .u64 (b : Int)]) (.agg #[.int .u64 (c : Int), .int .u64 (d : Int)]))))) = _
    rw [runQ_bind, eqArr, hd]
    rfl
  show quiet (ES K) (do Go.eqGuard .neq 81 (.tmp 0) (.tmp 0) (.agg #[.int .u64 (a : Int), .int .u64 (b : Int)]) (.agg #[.int .u64 (c : Int), .int .u64 (d : Int)]); Go.binOp .neq 81 (.agg #[.int .u64 (a : Int), .int .u64 (b : Int)]) (.agg #[.int .u64 (c : Int), .int .u64 (d : Int)])) A = _
  exact quiet_of _ _ _ h rfl
section
variable {E : Env} {C : FnE} {all rest : List Oper} {l : Kn} {A A1 : AW} {Q : Kn → AW → Prop} {d : Tmp} {ty : TypeId} {pos : String} {after : Array Edge}
theorem wo_binV {op : BinOp} {t t' : TypeId} {x y : Operand} {a b v : AV} (hd : Nat.blt d C.N = true) (hx : evO l x = some a) (hy : evO l y = some b) (hv : binA E op t a b A = .val v A) (h : WO E C all rest (.put d v l) A Q) :
    WO E C all (⟨some d, .binOp op t x y t', ty, pos, after, none⟩ :: rest) l A Q := by
  refine wo_val hd (fun F hF => ?_) h
  show liftR (binA E op t (ev F x) (ev F y) A) = _
  rw [hF.ev hx, hF.ev hy, hv]
  rfl
end
theorem cbits_spec {K : FuncId} {A : AW} {x : Nat × Nat} (hw : Wf A) : CallP (ES K) 32 [cxv x] A fun r A1 => r = bv2 x ∧ Only A A1 none' := by
  obtain ⟨a, b⟩ := x
  refine call_of rfl rfl rfl ?_
  repeat (first | refine qO ?_ | refine qA ?_)
  refine wo_alloc rfl rfl rfl ?_
  refine wo_A (fun A1 => Only A A1 none' ∧ A1.heap.get A.nxt = some (.cells 0 false 1 [.int .u64 0, .int .u64 0])) ⟨Only.add hw _, by rw [AW.add_get, if_pos rfl]; rfl⟩ ?_
  rintro A1 ⟨o1, h2⟩
  generalize hf2 : A.nxt = f2 at h2
  repeat (first | refine qO ?_ | refine qA ?_ | refine qG ?_ | refine qJ rfl rfl ?_)
  refine wo_builtin rfl rfl rfl ?_
  refine wo_ext (v := .int .u64 (a : Int)) (A1 := A1) rfl rfl orc_cons rfl (by kernel_rfl) ?_
  repeat refine qJ rfl rfl ?_
  refine wo_builtin rfl rfl rfl ?_
  refine wo_ext (v := .int .u64 (b : Int)) (A1 := A1) rfl rfl orc_cons rfl (by kernel_rfl) ?_
  repeat refine wo_build rfl rfl rfl ?_
  refine qZ rfl rfl rfl rfl rfl rfl h2 rfl ?_
  repeat refine qG ?_
  refine wg_ret1 rfl rfl (loadN_eq rfl rfl (by rw [AW.put_get, if_pos rfl]) rfl) ?_
  exact ⟨rfl, Only.fresh hw o1 (Only.put o1.wf (o1.wf _ _ h2)) fun g hg => by cases hg; omega⟩
def tyOk (void : Bool) (t : Ty') : Prop := if t.1 = 1 ∨ t.1 = 2 ∨ t.1 = 3 then t.2 = [] else if t.1 = 4 then isN t.2 else t.1 = 0 ∧ void = true ∧ t.2 = []
instance (void : Bool) (t : Ty') : Decidable (tyOk void t) := by unfold tyOk; exact inferInstance
theorem cistype_spec {K : FuncId} {A : AW} {t : Ty'} {void : Bool} (hw : Wf A) : CallP (ES K) 90 [.agg (tyc t), .bool void] A fun r A1 => r = .bool (decide (tyOk void t)) ∧ Only A A1 none' := by
  obtain ⟨k, s⟩ := t
  refine call_of rfl rfl rfl ?_
  unfold tyc
  repeat (first | refine qO ?_ | refine qA ?_)
  refine wo_box rfl rfl rfl rfl ?_
  refine wo_A (fun A1 => Only A A1 none' ∧ A1.heap.get A.nxt = some (.cells 0 false 2 [.int .i64 k, .str s])) ⟨Only.add hw _, by rw [AW.add_get, if_pos rfl]; rfl⟩ ?_
  rintro A1 ⟨o1, hx⟩
  generalize A.nxt = fx at hx
  have e1 : k = 1 ∨ k = 2 ∨ k = 3 → decide (tyOk void (k, s)) = decide (s = []) := fun h => by
    refine decide_eq_decide.2 ?_
    unfold tyOk
    rw [if_pos h]
  repeat (first | refine qO ?_ | refine qY ?_ | refine qA ?_ | refine qG ?_ | refine qE rfl rfl ?_ | refine qI rfl rfl rfl ?_ | refine qP rfl rfl rfl rfl (by assumption) rfl ?_ | refine xD rfl rfl rfl ?_)
  refine qV rfl (fun c1 => ?_) fun c1 => ?_
  · have c1 : k = 1 := c1
    repeat refine qS ?_
    refine qV rfl (fun _ => ?_) fun h => absurd c1 h
    repeat (first | refine qO ?_ | refine qA ?_ | refine qG ?_ | refine qE rfl rfl ?_ | refine qI rfl rfl rfl ?_ | refine qP rfl rfl rfl rfl (by assumption) rfl ?_ | refine wo_strEq rfl rfl rfl ?_)
    exact qQ rfl ⟨by rw [e1 (.inl c1)]; rfl, o1⟩
  have c1 : ¬ k = 1 := c1
  repeat (first | refine qO ?_ | refine qA ?_ | refine qG ?_ | refine qE rfl rfl ?_ | refine xD rfl rfl rfl ?_)
  refine qV rfl (fun c2 => ?_) fun c2 => ?_
  · have c2 : k = 2 := c2
    repeat refine qS ?_
    refine qV rfl (fun _ => ?_) fun h => absurd c2 h
    repeat (first | refine qO ?_ | refine qA ?_ | refine qG ?_ | refine qE rfl rfl ?_ | refine qI rfl rfl rfl ?_ | refine qP rfl rfl rfl rfl (by assumption) rfl ?_ | refine wo_strEq rfl rfl rfl ?_)
    exact qQ rfl ⟨by rw [e1 (.inr (.inl c2))]; rfl, o1⟩
  have c2 : ¬ k = 2 := c2
  repeat (first | refine qA ?_ | refine qG ?_ | refine qE rfl rfl ?_ | refine xD rfl rfl rfl ?_)
  refine qV rfl (fun c3 => ?_) fun c3 => ?_
  · have c3 : k = 3 := c3
    repeat (first | refine qO ?_ | refine qA ?_ | refine qG ?_ | refine qE rfl rfl ?_ | refine qI rfl rfl rfl ?_ | refine qP rfl rfl rfl rfl (by assumption) rfl ?_ | refine wo_strEq rfl rfl rfl ?_)
    exact qQ rfl ⟨by rw [e1 (.inr (.inr c3))]; rfl, o1⟩
  have c3 : ¬ k = 3 := c3
  have e2 : tyOk void (k, s) ↔ if k = 4 then isN s else k = 0 ∧ void = true ∧ s = [] := by
    unfold tyOk
    rw [if_neg (by rintro (h | h | h) <;> contradiction)]
  repeat (first | refine qO ?_ | refine qA ?_ | refine qG ?_ | refine qE rfl rfl ?_ | refine xD rfl rfl rfl ?_)
  refine qV rfl (fun c4 => ?_) fun c4 => ?_
  · have c4 : k = 4 := c4
    rw [if_pos c4] at e2
    repeat (first | refine qO ?_ | refine qA ?_ | refine qI rfl rfl rfl ?_ | refine qP rfl rfl rfl rfl (by assumption) rfl ?_)
    refine qU rfl rfl orc_cons rfl isName_spec ?_
    rintro r A2 ⟨rfl, e⟩
    obtain rfl : A1 = A2 := e.symm
    repeat (first | refine qG ?_ | refine qE rfl rfl ?_)
    exact qQ rfl ⟨congrArg AV.bool (decide_eq_decide.2 e2.symm), o1⟩
  have c4 : ¬ k = 4 := c4
  rw [if_neg c4] at e2
  repeat (first | refine qO ?_ | refine qA ?_ | refine qG ?_ | refine qE rfl rfl ?_ | refine xD rfl rfl rfl ?_)
  refine qV rfl (fun c0 => ?_) fun c0 => ?_
  · have c0 : k = 0 := c0
    cases void with
    | false =>
      repeat (first | refine qO ?_ | refine qA ?_ | refine qG ?_ | refine qJ rfl rfl ?_ | refine qE rfl rfl ?_ | refine qR rfl rfl rfl ?_ | refine xE rfl rfl ?_)
      exact qQ rfl ⟨congrArg AV.bool (decide_eq_false fun h => by cases (e2.1 h).2.1).symm, o1⟩
    | true =>
      repeat (first | refine qO ?_ | refine qA ?_ | refine qG ?_ | refine qJ rfl rfl ?_ | refine qE rfl rfl ?_ | refine qI rfl rfl rfl ?_ | refine qP rfl rfl rfl rfl (by assumption) rfl ?_ | refine qR rfl rfl rfl ?_ | refine wo_strEq rfl rfl rfl ?_ | refine qX rfl ?_)
      exact qQ rfl ⟨congrArg AV.bool (decide_eq_decide.2 ⟨fun h => e2.2 ⟨c0, rfl, h⟩, fun h => (e2.1 h).2.2⟩), o1⟩
  · have c0 : ¬ k = 0 := c0
    repeat (first | refine qO ?_ | refine qS ?_ | refine xB ?_ | refine qA ?_ | refine qG ?_ | refine qE rfl rfl ?_)
    exact qQ rfl ⟨congrArg AV.bool (decide_eq_false fun h => c0 (e2.1 h).1).symm, o1⟩
end Go.Proofs.YtiecclkgjcnaoaaGreat.Ae
namespace Go.Proofs.YtiecclkgjcnaoaaGreat.Ae
open Go.AE
set_option linter.unusedVariables false
set_option maxRecDepth 100000
def Err (e : Int) (ok : Prop) : Prop := (e = 0 ∧ ok) ∨ (30 ≤ e ∧ e ≤ 54 ∧ ¬ ok)
def coOk (c : CoT) : Prop := (1 ≤ c.kind ∧ c.kind ≤ 5) ∧ (c.kind = 1 ∨ c.int = 0) ∧ (c.kind = 2 ∨ c.x = (0, 0)) ∧ (3 ≤ c.kind ∨ c.cls = []) ∧ (4 ≤ c.kind ∨ c.name = []) ∧ (3 ≤ c.kind → isN c.cls) ∧ (4 ≤ c.kind → isN c.name)
set_option maxHeartbeats 4000000 in
theorem cconstant_spec {K : FuncId} {A : AW} {c : CoT} (hw : Wf A) : CallP (ES K) 50 [.agg (coc c)] A fun r A1 => (∃ e, r = .int .i64 e ∧ Err e (coOk c)) ∧ Only A A1 none' := by
  obtain ⟨k, i, x, s, n⟩ := c
  refine call_of rfl rfl rfl ?_
  unfold coc
  repeat (first | refine qO ?_ | refine qA ?_)
  refine wo_box rfl rfl rfl rfl ?_
  refine wo_A (fun A1 => Only A A1 none' ∧ A1.heap.get A.nxt = some (.cells 0 false 5 [.int .i64 k, .int .i64 i, .cplx .f64 x.1 x.2, .str s, .str n])) ⟨Only.add hw _, by rw [AW.add_get, if_pos rfl]; rfl⟩ ?_
  rintro A1 ⟨o1, hx⟩
  generalize A.nxt = fx at hx
  by_cases c1 : k = 1
  · subst c1
    repeat (first | refine qO ?_ | refine qY ?_ | refine qA ?_ | refine qG ?_ | refine qJ rfl rfl ?_ | refine qE rfl rfl ?_ | refine qI rfl rfl rfl ?_ | refine qP rfl rfl rfl rfl (by assumption) rfl ?_ | refine xD rfl rfl rfl ?_ | refine xL rfl rfl rfl ?_ | refine xM rfl rfl rfl ?_ | refine wo_gtr rfl rfl rfl ?_ | refine qR rfl rfl rfl ?_ | refine qX rfl ?_ | refine xE rfl rfl ?_ | refine wg_false rfl ?_)
    refine qU rfl rfl orc_cons rfl (cbits_spec (x := x) o1.wf) ?_
    rintro r A2 ⟨rfl, o2⟩
    have hx := o2.keep _ _ hx fun h => h
    have o12 := o1.same o2
    repeat refine qX rfl ?_
    refine qU rfl rfl orc_cons rfl (cbits_spec (x := (0, 0)) o12.wf) ?_
    rintro r A3 ⟨rfl, o3⟩
    have hx := o3.keep _ _ hx fun h => h
    have o13 := o12.same o3
    repeat refine qX rfl ?_
    refine wo_binV (a := bv2 x) (b := bv2 (0, 0)) rfl rfl rfl arrNe ?_
    repeat (first | refine qG ?_ | refine qE rfl rfl ?_ | refine qR rfl rfl rfl ?_)
    refine qV rfl (fun cX => ?_) fun cB => ?_
    · repeat refine qS ?_
      refine qV rfl (fun _ => ?_) fun h => absurd cX h
      repeat (first | refine qO ?_ | refine qA ?_ | refine qG ?_ | refine qE rfl rfl ?_)
      exact qQ rfl ⟨⟨51, rfl, .inr ⟨by decide, by decide, fun ok => cX (ok.2.2.1.resolve_left (by show ¬ (1 : Int) = 2; decide))⟩⟩, o13⟩
    have cB : x = (0, 0) := Decidable.byContradiction cB
    repeat (first | refine qO ?_ | refine qA ?_ | refine qG ?_ | refine qJ rfl rfl ?_ | refine qE rfl rfl ?_ | refine qI rfl rfl rfl ?_ | refine qP rfl rfl rfl rfl (by assumption) rfl ?_ | refine wo_not rfl rfl ?_ | refine qR rfl rfl rfl ?_ | refine wo_strNe rfl rfl rfl ?_ | refine qX rfl ?_)
    refine qV rfl (fun cX => ?_) fun cS => ?_
    · repeat refine qS ?_
      refine qV rfl (fun _ => ?_) fun h => absurd cX h
      repeat (first | refine qO ?_ | refine qA ?_ | refine qG ?_ | refine qE rfl rfl ?_)
      exact qQ rfl ⟨⟨51, rfl, .inr ⟨by decide, by decide, fun ok => cX (ok.2.2.2.1.resolve_left (by show ¬ (3 : Int) ≤ 1; decide))⟩⟩, o13⟩
    have cS : s = [] := Decidable.byContradiction cS
    repeat (first | refine qA ?_ | refine qG ?_ | refine qJ rfl rfl ?_ | refine qE rfl rfl ?_ | refine qI rfl rfl rfl ?_ | refine qP rfl rfl rfl rfl (by assumption) rfl ?_ | refine wo_not rfl rfl ?_ | refine qR rfl rfl rfl ?_ | refine wo_strNe rfl rfl rfl ?_ | refine qX rfl ?_)
    refine qV rfl (fun cX => ?_) fun cN => ?_
    · repeat (first | refine qO ?_ | refine qA ?_ | refine qG ?_ | refine qE rfl rfl ?_)
      exact qQ rfl ⟨⟨51, rfl, .inr ⟨by decide, by decide, fun ok => cX (ok.2.2.2.2.1.resolve_left (by show ¬ (4 : Int) ≤ 1; decide))⟩⟩, o13⟩
    have cN : n = [] := Decidable.byContradiction cN
    repeat (first | refine qO ?_ | refine qS ?_ | refine xB ?_ | refine qA ?_ | refine qG ?_ | refine qJ rfl rfl ?_ | refine qE rfl rfl ?_ | refine qR rfl rfl rfl ?_ | refine xE rfl rfl ?_ | refine wg_false rfl ?_)
    exact qQ rfl ⟨⟨0, rfl, .inl ⟨rfl, ⟨by show (1 : Int) ≤ 1; decide, by show (1 : Int) ≤ 5; decide⟩, (.inl rfl), (.inr cB), (.inr cS), (.inr cN), (fun h => absurd h (by show ¬ (3 : Int) ≤ 1; decide)), (fun h => absurd h (by show ¬ (4 : Int) ≤ 1; decide))⟩⟩, o13⟩
  by_cases c2 : k = 2
  · subst c2
    repeat (first | refine qO ?_ | refine qY ?_ | refine qA ?_ | refine qG ?_ | refine qJ rfl rfl ?_ | refine qE rfl rfl ?_ | refine qI rfl rfl rfl ?_ | refine qP rfl rfl rfl rfl (by assumption) rfl ?_ | refine xD rfl rfl rfl ?_ | refine xL rfl rfl rfl ?_ | refine xM rfl rfl rfl ?_ | refine wo_gtr rfl rfl rfl ?_ | refine qR rfl rfl rfl ?_ | refine qX rfl ?_ | refine wg_false rfl ?_)
    refine qV rfl (fun cX => ?_) fun cI => ?_
    · repeat refine qS ?_
      refine qV rfl (fun _ => ?_) fun h => absurd cX h
      repeat (first | refine qO ?_ | refine qA ?_ | refine qG ?_ | refine qE rfl rfl ?_)
      exact qQ rfl ⟨⟨51, rfl, .inr ⟨by decide, by decide, fun ok => cX (ok.2.1.resolve_left (by show ¬ (2 : Int) = 1; decide))⟩⟩, o1⟩
    have cI : i = 0 := Decidable.byContradiction cI
    repeat (first | refine qO ?_ | refine qA ?_ | refine qG ?_ | refine qJ rfl rfl ?_ | refine qE rfl rfl ?_ | refine qI rfl rfl rfl ?_ | refine qP rfl rfl rfl rfl (by assumption) rfl ?_ | refine xL rfl rfl rfl ?_ | refine wo_not rfl rfl ?_ | refine qR rfl rfl rfl ?_ | refine wo_strNe rfl rfl rfl ?_ | refine qX rfl ?_ | refine xE rfl rfl ?_ | refine wg_false rfl ?_)
    refine qV rfl (fun cX => ?_) fun cS => ?_
    · repeat refine qS ?_
      refine qV rfl (fun _ => ?_) fun h => absurd cX h
      repeat (first | refine qO ?_ | refine qA ?_ | refine qG ?_ | refine qE rfl rfl ?_)
      exact qQ rfl ⟨⟨51, rfl, .inr ⟨by decide, by decide, fun ok => cX (ok.2.2.2.1.resolve_left (by show ¬ (3 : Int) ≤ 2; decide))⟩⟩, o1⟩
    have cS : s = [] := Decidable.byContradiction cS
    repeat (first | refine qA ?_ | refine qG ?_ | refine qJ rfl rfl ?_ | refine qE rfl rfl ?_ | refine qI rfl rfl rfl ?_ | refine qP rfl rfl rfl rfl (by assumption) rfl ?_ | refine wo_not rfl rfl ?_ | refine qR rfl rfl rfl ?_ | refine wo_strNe rfl rfl rfl ?_ | refine qX rfl ?_)
    refine qV rfl (fun cX => ?_) fun cN => ?_
    · repeat (first | refine qO ?_ | refine qA ?_ | refine qG ?_ | refine qE rfl rfl ?_)
      exact qQ rfl ⟨⟨51, rfl, .inr ⟨by decide, by decide, fun ok => cX (ok.2.2.2.2.1.resolve_left (by show ¬ (4 : Int) ≤ 2; decide))⟩⟩, o1⟩
    have cN : n = [] := Decidable.byContradiction cN
    repeat (first | refine qO ?_ | refine qS ?_ | refine xB ?_ | refine qA ?_ | refine qG ?_ | refine qJ rfl rfl ?_ | refine qE rfl rfl ?_ | refine qR rfl rfl rfl ?_ | refine xE rfl rfl ?_ | refine wg_false rfl ?_)
    exact qQ rfl ⟨⟨0, rfl, .inl ⟨rfl, ⟨by show (1 : Int) ≤ 2; decide, by show (2 : Int) ≤ 5; decide⟩, (.inr cI), (.inl rfl), (.inr cS), (.inr cN), (fun h => absurd h (by show ¬ (3 : Int) ≤ 2; decide)), (fun h => absurd h (by show ¬ (4 : Int) ≤ 2; decide))⟩⟩, o1⟩
  by_cases c3 : k = 3
  · subst c3
    repeat (first | refine qO ?_ | refine qY ?_ | refine qA ?_ | refine qG ?_ | refine qJ rfl rfl ?_ | refine qE rfl rfl ?_ | refine qI rfl rfl rfl ?_ | refine qP rfl rfl rfl rfl (by assumption) rfl ?_ | refine xD rfl rfl rfl ?_ | refine xL rfl rfl rfl ?_ | refine xM rfl rfl rfl ?_ | refine wo_gtr rfl rfl rfl ?_ | refine qR rfl rfl rfl ?_ | refine qX rfl ?_ | refine wg_false rfl ?_)
    refine qV rfl (fun cX => ?_) fun cI => ?_
    · repeat refine qS ?_
      refine qV rfl (fun _ => ?_) fun h => absurd cX h
      repeat (first | refine qO ?_ | refine qA ?_ | refine qG ?_ | refine qE rfl rfl ?_)
      exact qQ rfl ⟨⟨51, rfl, .inr ⟨by decide, by decide, fun ok => cX (ok.2.1.resolve_left (by show ¬ (3 : Int) = 1; decide))⟩⟩, o1⟩
    have cI : i = 0 := Decidable.byContradiction cI
    repeat (first | refine qO ?_ | refine qA ?_ | refine qJ rfl rfl ?_ | refine qI rfl rfl rfl ?_ | refine qP rfl rfl rfl rfl (by assumption) rfl ?_ | refine xL rfl rfl rfl ?_ | refine qX rfl ?_)
    refine qU rfl rfl orc_cons rfl (cbits_spec (x := x) o1.wf) ?_
    rintro r A2 ⟨rfl, o2⟩
    have hx := o2.keep _ _ hx fun h => h
    have o12 := o1.same o2
    repeat refine qX rfl ?_
    refine qU rfl rfl orc_cons rfl (cbits_spec (x := (0, 0)) o12.wf) ?_
    rintro r A3 ⟨rfl, o3⟩
    have hx := o3.keep _ _ hx fun h => h
    have o13 := o12.same o3
    repeat refine qX rfl ?_
    refine wo_binV (a := bv2 x) (b := bv2 (0, 0)) rfl rfl rfl arrNe ?_
    repeat (first | refine qG ?_ | refine qE rfl rfl ?_ | refine qR rfl rfl rfl ?_)
    refine qV rfl (fun cX => ?_) fun cB => ?_
    · repeat refine qS ?_
      refine qV rfl (fun _ => ?_) fun h => absurd cX h
      repeat (first | refine qO ?_ | refine qA ?_ | refine qG ?_ | refine qE rfl rfl ?_)
      exact qQ rfl ⟨⟨51, rfl, .inr ⟨by decide, by decide, fun ok => cX (ok.2.2.1.resolve_left (by show ¬ (3 : Int) = 2; decide))⟩⟩, o13⟩
    have cB : x = (0, 0) := Decidable.byContradiction cB
    repeat (first | refine qO ?_ | refine qA ?_ | refine qG ?_ | refine qJ rfl rfl ?_ | refine qE rfl rfl ?_ | refine qI rfl rfl rfl ?_ | refine qP rfl rfl rfl rfl (by assumption) rfl ?_ | refine wo_not rfl rfl ?_ | refine qR rfl rfl rfl ?_ | refine wo_strNe rfl rfl rfl ?_ | refine qX rfl ?_ | refine xE rfl rfl ?_ | refine wg_false rfl ?_)
    refine qV rfl (fun cX => ?_) fun cN => ?_
    · repeat (first | refine qO ?_ | refine qA ?_ | refine qG ?_ | refine qE rfl rfl ?_)
      exact qQ rfl ⟨⟨51, rfl, .inr ⟨by decide, by decide, fun ok => cX (ok.2.2.2.2.1.resolve_left (by show ¬ (4 : Int) ≤ 3; decide))⟩⟩, o13⟩
    have cN : n = [] := Decidable.byContradiction cN
    repeat (first | refine qO ?_ | refine qA ?_ | refine qJ rfl rfl ?_ | refine qI rfl rfl rfl ?_ | refine qP rfl rfl rfl rfl (by assumption) rfl ?_ | refine qX rfl ?_)
    refine qU rfl rfl orc_cons rfl isName_spec ?_
    rintro r A4 ⟨rfl, e4⟩
    subst e4
    repeat (first | refine qG ?_ | refine qE rfl rfl ?_ | refine wo_not rfl rfl ?_ | refine qR rfl rfl rfl ?_ | refine qX rfl ?_)
    refine wg_if rfl (fun hb => ?_) fun hb => ?_
    · have hn : ¬ isN s := fun h => by
        have hb : (!decide (isN s)) = true := hb
        rw [decide_eq_true h] at hb
        cases hb
      repeat refine qS ?_
      refine wg_if rfl (fun _ => ?_) fun h => absurd (hb.symm.trans h) (by decide)
      repeat (first | refine qO ?_ | refine qA ?_ | refine qG ?_ | refine qE rfl rfl ?_)
      exact qQ rfl ⟨⟨50, rfl, .inr ⟨by decide, by decide, fun ok => hn (ok.2.2.2.2.2.1 (by show (3 : Int) ≤ 3; decide))⟩⟩, o13⟩
    have hs : isN s := Decidable.byContradiction fun h => by
      have hb : (!decide (isN s)) = false := hb
      rw [decide_eq_false h] at hb
      cases hb
    repeat (first | refine qO ?_ | refine qS ?_ | refine xB ?_ | refine qA ?_ | refine qG ?_ | refine qJ rfl rfl ?_ | refine qE rfl rfl ?_ | refine qR rfl rfl rfl ?_ | refine xE rfl rfl ?_ | refine wg_false rfl ?_)
    exact qQ rfl ⟨⟨0, rfl, .inl ⟨rfl, ⟨by show (1 : Int) ≤ 3; decide, by show (3 : Int) ≤ 5; decide⟩, (.inr cI), (.inr cB), (.inl (by show (3 : Int) ≤ 3; decide)), (.inr cN), (fun _ => hs), (fun h => absurd h (by show ¬ (4 : Int) ≤ 3; decide))⟩⟩, o13⟩
  by_cases c4 : k = 4
  · subst c4
    repeat (first | refine qO ?_ | refine qY ?_ | refine qA ?_ | refine qG ?_ | refine qJ rfl rfl ?_ | refine qE rfl rfl ?_ | refine qI rfl rfl rfl ?_ | refine qP rfl rfl rfl rfl (by assumption) rfl ?_ | refine xD rfl rfl rfl ?_ | refine xL rfl rfl rfl ?_ | refine xM rfl rfl rfl ?_ | refine wo_gtr rfl rfl rfl ?_ | refine qR rfl rfl rfl ?_ | refine qX rfl ?_ | refine xE rfl rfl ?_ | refine wg_false rfl ?_)
    refine qV rfl (fun cX => ?_) fun cI => ?_
    · repeat refine qS ?_
      refine qV rfl (fun _ => ?_) fun h => absurd cX h
      repeat (first | refine qO ?_ | refine qA ?_ | refine qG ?_ | refine qE rfl rfl ?_)
      exact qQ rfl ⟨⟨51, rfl, .inr ⟨by decide, by decide, fun ok => cX (ok.2.1.resolve_left (by show ¬ (4 : Int) = 1; decide))⟩⟩, o1⟩
    have cI : i = 0 := Decidable.byContradiction cI
    repeat (first | refine qO ?_ | refine qA ?_ | refine qJ rfl rfl ?_ | refine qI rfl rfl rfl ?_ | refine qP rfl rfl rfl rfl (by assumption) rfl ?_ | refine xL rfl rfl rfl ?_ | refine qX rfl ?_)
    refine qU rfl rfl orc_cons rfl (cbits_spec (x := x) o1.wf) ?_
    rintro r A2 ⟨rfl, o2⟩
    have hx := o2.keep _ _ hx fun h => h
    have o12 := o1.same o2
    repeat refine qX rfl ?_
    refine qU rfl rfl orc_cons rfl (cbits_spec (x := (0, 0)) o12.wf) ?_
    rintro r A3 ⟨rfl, o3⟩
    have hx := o3.keep _ _ hx fun h => h
    have o13 := o12.same o3
    repeat refine qX rfl ?_
    refine wo_binV (a := bv2 x) (b := bv2 (0, 0)) rfl rfl rfl arrNe ?_
    repeat (first | refine qG ?_ | refine qE rfl rfl ?_ | refine qR rfl rfl rfl ?_)
    refine qV rfl (fun cX => ?_) fun cB => ?_
    · repeat refine qS ?_
      refine qV rfl (fun _ => ?_) fun h => absurd cX h
      repeat (first | refine qO ?_ | refine qA ?_ | refine qG ?_ | refine qE rfl rfl ?_)
      exact qQ rfl ⟨⟨51, rfl, .inr ⟨by decide, by decide, fun ok => cX (ok.2.2.1.resolve_left (by show ¬ (4 : Int) = 2; decide))⟩⟩, o13⟩
    have cB : x = (0, 0) := Decidable.byContradiction cB
    repeat (first | refine qO ?_ | refine qA ?_ | refine qG ?_ | refine qJ rfl rfl ?_ | refine qE rfl rfl ?_ | refine qI rfl rfl rfl ?_ | refine qP rfl rfl rfl rfl (by assumption) rfl ?_ | refine wo_not rfl rfl ?_ | refine qR rfl rfl rfl ?_ | refine qX rfl ?_ | refine xE rfl rfl ?_ | refine wg_false rfl ?_)
    refine qU rfl rfl orc_cons rfl isName_spec ?_
    rintro r A4 ⟨rfl, e4⟩
    subst e4
    repeat (first | refine qG ?_ | refine qE rfl rfl ?_ | refine wo_not rfl rfl ?_ | refine qR rfl rfl rfl ?_ | refine qX rfl ?_)
    refine wg_if rfl (fun hb => ?_) fun hb => ?_
    · have hn : ¬ isN s := fun h => by
        have hb : (!decide (isN s)) = true := hb
        rw [decide_eq_true h] at hb
        cases hb
      repeat refine qS ?_
      refine wg_if rfl (fun _ => ?_) fun h => absurd (hb.symm.trans h) (by decide)
      repeat (first | refine qO ?_ | refine qA ?_ | refine qG ?_ | refine qE rfl rfl ?_)
      exact qQ rfl ⟨⟨50, rfl, .inr ⟨by decide, by decide, fun ok => hn (ok.2.2.2.2.2.1 (by show (3 : Int) ≤ 4; decide))⟩⟩, o13⟩
    have hs : isN s := Decidable.byContradiction fun h => by
      have hb : (!decide (isN s)) = false := hb
      rw [decide_eq_false h] at hb
      cases hb
    repeat (first | refine qA ?_ | refine qJ rfl rfl ?_ | refine qI rfl rfl rfl ?_ | refine qP rfl rfl rfl rfl (by assumption) rfl ?_ | refine qX rfl ?_)
    refine qU rfl rfl orc_cons rfl isName_spec ?_
    rintro r A4 ⟨rfl, e4⟩
    subst e4
    repeat (first | refine qG ?_ | refine qE rfl rfl ?_ | refine wo_not rfl rfl ?_ | refine qR rfl rfl rfl ?_ | refine qX rfl ?_)
    refine wg_if rfl (fun hb => ?_) fun hb => ?_
    · have hn : ¬ isN n := fun h => by
        have hb : (!decide (isN n)) = true := hb
        rw [decide_eq_true h] at hb
        cases hb
      repeat (first | refine qO ?_ | refine qA ?_ | refine qG ?_ | refine qE rfl rfl ?_)
      exact qQ rfl ⟨⟨50, rfl, .inr ⟨by decide, by decide, fun ok => hn (ok.2.2.2.2.2.2 (by show (4 : Int) ≤ 4; decide))⟩⟩, o13⟩
    have hn : isN n := Decidable.byContradiction fun h => by
      have hb : (!decide (isN n)) = false := hb
      rw [decide_eq_false h] at hb
      cases hb
    repeat (first | refine qO ?_ | refine qS ?_ | refine xB ?_ | refine qA ?_ | refine qG ?_ | refine qE rfl rfl ?_)
    exact qQ rfl ⟨⟨0, rfl, .inl ⟨rfl, ⟨by show (1 : Int) ≤ 4; decide, by show (4 : Int) ≤ 5; decide⟩, (.inr cI), (.inr cB), (.inl (by show (3 : Int) ≤ 4; decide)), (.inl (by show (4 : Int) ≤ 4; decide)), (fun _ => hs), (fun _ => hn)⟩⟩, o13⟩
  by_cases c5 : k = 5
  · subst c5
    repeat (first | refine qO ?_ | refine qY ?_ | refine qA ?_ | refine qG ?_ | refine qJ rfl rfl ?_ | refine qE rfl rfl ?_ | refine qI rfl rfl rfl ?_ | refine qP rfl rfl rfl rfl (by assumption) rfl ?_ | refine xD rfl rfl rfl ?_ | refine xL rfl rfl rfl ?_ | refine xM rfl rfl rfl ?_ | refine wo_gtr rfl rfl rfl ?_ | refine qR rfl rfl rfl ?_ | refine qX rfl ?_ | refine xE rfl rfl ?_ | refine wg_false rfl ?_)
    refine qV rfl (fun cX => ?_) fun cI => ?_
    · repeat refine qS ?_
      refine qV rfl (fun _ => ?_) fun h => absurd cX h
      repeat (first | refine qO ?_ | refine qA ?_ | refine qG ?_ | refine qE rfl rfl ?_)
      exact qQ rfl ⟨⟨51, rfl, .inr ⟨by decide, by decide, fun ok => cX (ok.2.1.resolve_left (by show ¬ (5 : Int) = 1; decide))⟩⟩, o1⟩
    have cI : i = 0 := Decidable.byContradiction cI
    repeat (first | refine qO ?_ | refine qA ?_ | refine qJ rfl rfl ?_ | refine qI rfl rfl rfl ?_ | refine qP rfl rfl rfl rfl (by assumption) rfl ?_ | refine xL rfl rfl rfl ?_ | refine qX rfl ?_)
    refine qU rfl rfl orc_cons rfl (cbits_spec (x := x) o1.wf) ?_
    rintro r A2 ⟨rfl, o2⟩
    have hx := o2.keep _ _ hx fun h => h
    have o12 := o1.same o2
    repeat refine qX rfl ?_
    refine qU rfl rfl orc_cons rfl (cbits_spec (x := (0, 0)) o12.wf) ?_
    rintro r A3 ⟨rfl, o3⟩
    have hx := o3.keep _ _ hx fun h => h
    have o13 := o12.same o3
    repeat refine qX rfl ?_
    refine wo_binV (a := bv2 x) (b := bv2 (0, 0)) rfl rfl rfl arrNe ?_
    repeat (first | refine qG ?_ | refine qE rfl rfl ?_ | refine qR rfl rfl rfl ?_)
    refine qV rfl (fun cX => ?_) fun cB => ?_
    · repeat refine qS ?_
      refine qV rfl (fun _ => ?_) fun h => absurd cX h
      repeat (first | refine qO ?_ | refine qA ?_ | refine qG ?_ | refine qE rfl rfl ?_)
      exact qQ rfl ⟨⟨51, rfl, .inr ⟨by decide, by decide, fun ok => cX (ok.2.2.1.resolve_left (by show ¬ (5 : Int) = 2; decide))⟩⟩, o13⟩
    have cB : x = (0, 0) := Decidable.byContradiction cB
    repeat (first | refine qO ?_ | refine qA ?_ | refine qG ?_ | refine qJ rfl rfl ?_ | refine qE rfl rfl ?_ | refine qI rfl rfl rfl ?_ | refine qP rfl rfl rfl rfl (by assumption) rfl ?_ | refine wo_not rfl rfl ?_ | refine qR rfl rfl rfl ?_ | refine qX rfl ?_ | refine xE rfl rfl ?_ | refine wg_false rfl ?_)
    refine qU rfl rfl orc_cons rfl isName_spec ?_
    rintro r A4 ⟨rfl, e4⟩
    subst e4
    repeat (first | refine qG ?_ | refine qE rfl rfl ?_ | refine wo_not rfl rfl ?_ | refine qR rfl rfl rfl ?_ | refine qX rfl ?_)
    refine wg_if rfl (fun hb => ?_) fun hb => ?_
    · have hn : ¬ isN s := fun h => by
        have hb : (!decide (isN s)) = true := hb
        rw [decide_eq_true h] at hb
        cases hb
      repeat refine qS ?_
      refine wg_if rfl (fun _ => ?_) fun h => absurd (hb.symm.trans h) (by decide)
      repeat (first | refine qO ?_ | refine qA ?_ | refine qG ?_ | refine qE rfl rfl ?_)
      exact qQ rfl ⟨⟨50, rfl, .inr ⟨by decide, by decide, fun ok => hn (ok.2.2.2.2.2.1 (by show (3 : Int) ≤ 5; decide))⟩⟩, o13⟩
    have hs : isN s := Decidable.byContradiction fun h => by
      have hb : (!decide (isN s)) = false := hb
      rw [decide_eq_false h] at hb
      cases hb
    repeat (first | refine qA ?_ | refine qJ rfl rfl ?_ | refine qI rfl rfl rfl ?_ | refine qP rfl rfl rfl rfl (by assumption) rfl ?_ | refine qX rfl ?_)
    refine qU rfl rfl orc_cons rfl isName_spec ?_
    rintro r A4 ⟨rfl, e4⟩
    subst e4
    repeat (first | refine qG ?_ | refine qE rfl rfl ?_ | refine wo_not rfl rfl ?_ | refine qR rfl rfl rfl ?_ | refine qX rfl ?_)
    refine wg_if rfl (fun hb => ?_) fun hb => ?_
    · have hn : ¬ isN n := fun h => by
        have hb : (!decide (isN n)) = true := hb
        rw [decide_eq_true h] at hb
        cases hb
      repeat (first | refine qO ?_ | refine qA ?_ | refine qG ?_ | refine qE rfl rfl ?_)
      exact qQ rfl ⟨⟨50, rfl, .inr ⟨by decide, by decide, fun ok => hn (ok.2.2.2.2.2.2 (by show (4 : Int) ≤ 5; decide))⟩⟩, o13⟩
    have hn : isN n := Decidable.byContradiction fun h => by
      have hb : (!decide (isN n)) = false := hb
      rw [decide_eq_false h] at hb
      cases hb
    repeat (first | refine qO ?_ | refine qS ?_ | refine xB ?_ | refine qA ?_ | refine qG ?_ | refine qE rfl rfl ?_)
    exact qQ rfl ⟨⟨0, rfl, .inl ⟨rfl, ⟨by show (1 : Int) ≤ 5; decide, by show (5 : Int) ≤ 5; decide⟩, (.inr cI), (.inr cB), (.inl (by show (3 : Int) ≤ 5; decide)), (.inl (by show (4 : Int) ≤ 5; decide)), (fun _ => hs), (fun _ => hn)⟩⟩, o13⟩
  repeat (first | refine qO ?_ | refine qA ?_ | refine qG ?_ | refine qJ rfl rfl ?_ | refine qE rfl rfl ?_ | refine qI rfl rfl rfl ?_ | refine qP rfl rfl rfl rfl (by assumption) rfl ?_ | refine xD rfl rfl rfl ?_)
  refine xA 8 false rfl (decide_eq_false c4) ?_
  repeat (first | refine qO ?_ | refine qA ?_ | refine qG ?_ | refine qJ rfl rfl ?_ | refine qE rfl rfl ?_ | refine qI rfl rfl rfl ?_ | refine qP rfl rfl rfl rfl (by assumption) rfl ?_ | refine xD rfl rfl rfl ?_ | refine qR rfl rfl rfl ?_ | refine qX rfl ?_)
  refine xA 14 false rfl (decide_eq_false c5) ?_
  repeat (first | refine qO ?_ | refine qY ?_ | refine qA ?_ | refine qG ?_ | refine qJ rfl rfl ?_ | refine qE rfl rfl ?_ | refine qI rfl rfl rfl ?_ | refine qP rfl rfl rfl rfl (by assumption) rfl ?_ | refine xD rfl rfl rfl ?_ | refine xM rfl rfl rfl ?_ | refine qR rfl rfl rfl ?_ | refine qX rfl ?_)
  by_cases c0 : k < 1
  · refine xA 23 true rfl (decide_eq_true c0) ?_
    repeat (first | refine qO ?_ | refine qS ?_ | refine qA ?_ | refine qG ?_ | refine qE rfl rfl ?_ | refine qR rfl rfl rfl ?_ | refine xE rfl rfl ?_ | refine xH rfl ?_)
    exact qQ rfl ⟨⟨51, rfl, .inr ⟨by decide, by decide, fun ok => by have h : (1 : Int) ≤ k := ok.1.1; omega⟩⟩, o1⟩
  · refine xA 23 false rfl (decide_eq_false c0) ?_
    repeat (first | refine qG ?_ | refine qE rfl rfl ?_ | refine qI rfl rfl rfl ?_ | refine qP rfl rfl rfl rfl (by assumption) rfl ?_ | refine wo_gtr rfl rfl rfl ?_ | refine qR rfl rfl rfl ?_ | refine qX rfl ?_)
    have c6 : (5 : Int) < k := by omega
    refine qV rfl (fun _ => ?_) fun h => absurd c6 h
    repeat refine qS ?_
    refine qV rfl (fun _ => ?_) fun h => absurd c6 h
    repeat (first | refine qO ?_ | refine qA ?_ | refine qG ?_ | refine qE rfl rfl ?_)
    exact qQ rfl ⟨⟨51, rfl, .inr ⟨by decide, by decide, fun ok => by have h : k ≤ (5 : Int) := ok.1.2; omega⟩⟩, o1⟩
end Go.Proofs.YtiecclkgjcnaoaaGreat.Ae
