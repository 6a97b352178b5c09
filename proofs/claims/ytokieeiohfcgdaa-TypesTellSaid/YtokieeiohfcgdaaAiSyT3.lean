/-
  TYPES ARE COMPARED, by the rules.
-/
import Derived.Test.YtokieeiohfcgdaaAiSyT2
namespace Go.Proofs.Ytokieeiohfcgdaa.Ae
open Go.AE
set_option linter.unusedVariables false
set_option maxRecDepth 100000

theorem runQ_bind {α β : Type} (P : Program) : ∀ (s : Sem α) (f : α → Sem β), runQ P (s >>= f) = (runQ P s).bind fun a => runQ P (f a)
  | .pure a, f => rfl
  | .program k, f => runQ_bind P (k P) f
  | .load .., _ | .store .., _ | .new .., _ | .shape .., _ | .freeze .., _ | .frozen .., _ | .getObj .., _ | .setObj .., _ | .choose .., _ | .sys .., _ | .mark .., _ | .halt .., _ => rfl
theorem eqInt {d : Nat} {a b : Int} : runQ Try.prog (Go.Op.equalIn (d + 1) 3 (.int .i64 a) (.int .i64 b)) = some (a == b) := by
  unfold Go.Op.equalIn
  rw [runQ_bind, show runQ Try.prog (Go.underlying 3) = some (.int .i64) from by kernel_rfl]
  rfl
theorem eqStr {d : Nat} {a b : ByteArray} : runQ Try.prog (Go.Op.equalIn (d + 1) 9 (.string a) (.string b)) = some (a == b) := by
  unfold Go.Op.equalIn
  rw [runQ_bind, show runQ Try.prog (Go.underlying 9) = some .string from by kernel_rfl]
  rfl
def bya (s : Str) : ByteArray := ⟨(s.map UInt8.ofNat).toArray⟩
def small (s : Str) : Prop := ∀ b ∈ s, b < 256
theorem bya_back {s : Str} (h : small s) : (bya s).data.toList.map UInt8.toNat = s := by
  unfold bya
  simp only [List.map_map]
  conv => rhs; rw [← List.map_id s]
  refine List.map_congr_left fun b hb => ?_
  have := h b hb
  show (UInt8.ofNat b).toNat = b
  rw [UInt8.toNat_ofNat']
  omega
theorem bya_data (x y : ByteArray) : (x == y) = (x.data == y.data) := by
  cases x
  cases y
  rfl
theorem bya_eq {s t : Str} (hs : small s) (ht : small t) : (bya s == bya t) = decide (s = t) := by
  by_cases h : s = t
  · rw [h, decide_eq_true rfl, bya_data]
    exact beq_self_eq_true _
  · rw [decide_eq_false h, bya_data]
    refine beq_eq_false_iff_ne.2 fun e => h ?_
    rw [← bya_back hs, ← bya_back ht, e]
def fK : Field := { name := "Kind", type := 3, offset := 0, embedded := false, tag := "", pkgPath := "", byteOffset := 0 }
def fC : Field := { name := "Class", type := 9, offset := 1, embedded := false, tag := "", pkgPath := "", byteOffset := 8 }
theorem eqTy {d : Nat} {a b : Int} {x y : ByteArray} : runQ Try.prog (Go.Op.equalIn (d + 2) 36 (.agg #[.int .i64 a, .string x]) (.agg #[.int .i64 b, .string y])) = some ((a == b) && (x == y)) := by
  unfold Go.Op.equalIn
  rw [runQ_bind, show runQ Try.prog (Go.underlying 36) = some (.struct #[fK, fC]) from by kernel_rfl]
  dsimp only [Option.bind_some]
  rw [runQ_bind, show runQ Try.prog Go.program = some Try.prog from rfl]
  dsimp only [Option.bind_some]
  rw [show Go.Program.stoodInHeld Try.prog 36 = false from by kernel_rfl, if_neg (by decide)]
  rw [List.forIn_toArray, List.forIn_cons]
  rw [if_pos (show fK.name ≠ "_" from by decide)]
  simp only [runQ_bind]
  rw [show runQ Try.prog (Go.part fK.type #[Value.int .i64 a, Value.string x] fK.offset) = some (.int .i64 a) from by kernel_rfl, show runQ Try.prog (Go.part fK.type #[Value.int .i64 b, Value.string y] fK.offset) = some (.int .i64 b) from by kernel_rfl]
  dsimp only [Option.bind_some]
  rw [show fK.type = 3 from rfl, eqInt]
  have e1 : runQ Try.prog (if (!true) = true then pure (ForInStep.done (some false, ())) else pure (ForInStep.yield (none, ()))) = some (ForInStep.yield ((none : Option Bool), ())) := rfl
  have e2 : runQ Try.prog (if (!false) = true then pure (ForInStep.done (some false, ())) else pure (ForInStep.yield ((none : Option Bool), ()))) = some (ForInStep.done (some false, ())) := rfl
  cases a == b with
  | false =>
    dsimp only [Option.bind_some]
    rw [e2]
    rfl
  | true =>
    dsimp only [Option.bind_some]
    rw [e1]
    dsimp only [Option.bind_some]
    rw [List.forIn_cons]
    rw [if_pos (show fC.name ≠ "_" from by decide)]
    simp only [runQ_bind]
    rw [show runQ Try.prog (Go.part fC.type #[Value.int .i64 a, Value.string x] fC.offset) = some (.string x) from by kernel_rfl, show runQ Try.prog (Go.part fC.type #[Value.int .i64 b, Value.string y] fC.offset) = some (.string y) from by kernel_rfl]
    dsimp only [Option.bind_some]
    rw [show fC.type = 9 from rfl, eqStr]
    cases x == y with
    | false =>
      dsimp only [Option.bind_some]
      rw [e2]
      rfl
    | true =>
      dsimp only [Option.bind_some]
      rw [e1]
      rfl
/-- A type: its kind, its class. -/
abbrev Ty' := Int × Str
def tv (x : Ty') : AV := .agg [.int .i64 x.1, .str x.2]
theorem quiet_of {K : FuncId} {A : AW} : ∀ (s : Sem Value) (v : Value) (a : AV), runQ Try.prog s = some v → back v = some a → quiet (ES K) s A = .val a A := fun s v a h1 h2 => by
  unfold quiet
  rw [show runQ (ES K).P s = some v from h1]
  simp only [h2]
theorem tyEq {K : FuncId} {A : AW} {x y : Ty'} (hx : small x.2) (hy : small y.2) : binA (ES K) .eql 36 (tv x) (tv y) A = .val (.bool (decide (x = y))) A := by
  obtain ⟨a, s⟩ := x
  obtain ⟨b, t⟩ := y
  have hd : decide ((a, s) = (b, t)) = ((a == b) && (bya s == bya t)) := by
    rw [bya_eq hx hy]
    by_cases h1 : a = b <;> by_cases h2 : s = t <;> simp [h1, h2]
  have h : runQ Try.prog (do Go.eqGuard .eql 36 (.tmp 0) (.tmp 0) (.agg #[.int .i64 a, .string (bya s)]) (.agg #[.int .i64 b, .string (bya t)]); Go.binOp .eql 36 (.agg #[.int .i64 a, .string (bya s)]) (.agg #[.int .i64 b, .string (bya t)])) = some (.bool (decide ((a, s) = (b, t)))) := by
    rw [runQ_bind, show runQ Try.prog (Go.eqGuard .eql 36 (.tmp 0) (.tmp 0) (.agg #[.int .i64 a, .string (bya s)]) (.agg #[.int .i64 b, .string (bya t)])) = some () from by kernel_rfl]
    dsimp only [Option.bind_some]
    show runQ Try.prog (do pure (Value.bool (← Go.Op.equalIn (9998 + 2) 36 (.agg #[.int .i64 a, .string (bya s)]) (.agg #[.int .i64 b, .string (bya t)])))) = _
    rw [runQ_bind, eqTy, hd]
    rfl
  show quiet (ES K) (do Go.eqGuard .eql 36 (.tmp 0) (.tmp 0) (.agg #[.int .i64 a, .string (bya s)]) (.agg #[.int .i64 b, .string (bya t)]); Go.binOp .eql 36 (.agg #[.int .i64 a, .string (bya s)]) (.agg #[.int .i64 b, .string (bya t)])) A = _
  exact quiet_of _ _ _ h rfl
theorem tyNe {K : FuncId} {A : AW} {x y : Ty'} (hx : small x.2) (hy : small y.2) : binA (ES K) .neq 36 (tv x) (tv y) A = .val (.bool (decide (x ≠ y))) A := by
  obtain ⟨a, s⟩ := x
  obtain ⟨b, t⟩ := y
  have hd : decide ((a, s) ≠ (b, t)) = !((a == b) && (bya s == bya t)) := by
    rw [bya_eq hx hy]
    by_cases h1 : a = b <;> by_cases h2 : s = t <;> simp [h1, h2]
  have h : runQ Try.prog (do Go.eqGuard .neq 36 (.tmp 0) (.tmp 0) (.agg #[.int .i64 a, .string (bya s)]) (.agg #[.int .i64 b, .string (bya t)]); Go.binOp .neq 36 (.agg #[.int .i64 a, .string (bya s)]) (.agg #[.int .i64 b, .string (bya t)])) = some (.bool (decide ((a, s) ≠ (b, t)))) := by
    rw [runQ_bind, show runQ Try.prog (Go.eqGuard .neq 36 (.tmp 0) (.tmp 0) (.agg #[.int .i64 a, .string (bya s)]) (.agg #[.int .i64 b, .string (bya t)])) = some () from by kernel_rfl]
    dsimp only [Option.bind_some]
    show runQ Try.prog (do pure (Value.bool (!(← Go.Op.equalIn (9998 + 2) 36 (.agg #[.int .i64 a, .string (bya s)]) (.agg #[.int .i64 b, .string (bya t)]))))) = _
    rw [runQ_bind, eqTy, hd]
    rfl
  show quiet (ES K) (do Go.eqGuard .neq 36 (.tmp 0) (.tmp 0) (.agg #[.int .i64 a, .string (bya s)]) (.agg #[.int .i64 b, .string (bya t)]); Go.binOp .neq 36 (.agg #[.int .i64 a, .string (bya s)]) (.agg #[.int .i64 b, .string (bya t)])) A = _
  exact quiet_of _ _ _ h rfl
section
variable {K : FuncId} {C : FnE} {all rest : List Oper} {l : Kn} {A : AW} {Q : Kn → AW → Prop} {d : Tmp} {ty : TypeId} {pos : String} {after : Array Edge}
theorem wo_tyEq {t' : TypeId} {x y : Operand} {a b : Ty'} (hd : Nat.blt d C.N = true) (hx : evO l x = some (tv a)) (hy : evO l y = some (tv b)) (sa : small a.2) (sb : small b.2)
    (h : WO (ES K) C all rest (.put d (.bool (decide (a = b))) l) A Q) : WO (ES K) C all (⟨some d, .binOp .eql 36 x y t', ty, pos, after, none⟩ :: rest) l A Q := by
  refine wo_val hd (fun F hF => ?_) h
  show liftR (binA (ES K) .eql 36 (ev F x) (ev F y) A) = _
  rw [hF.ev hx, hF.ev hy, tyEq sa sb]
  rfl
theorem wo_tyNe {t' : TypeId} {x y : Operand} {a b : Ty'} (hd : Nat.blt d C.N = true) (hx : evO l x = some (tv a)) (hy : evO l y = some (tv b)) (sa : small a.2) (sb : small b.2)
    (h : WO (ES K) C all rest (.put d (.bool (decide (a ≠ b))) l) A Q) : WO (ES K) C all (⟨some d, .binOp .neq 36 x y t', ty, pos, after, none⟩ :: rest) l A Q := by
  refine wo_val hd (fun F hF => ?_) h
  show liftR (binA (ES K) .neq 36 (ev F x) (ev F y) A) = _
  rw [hF.ev hx, hF.ev hy, tyNe sa sb]
  rfl
end
end Go.Proofs.Ytokieeiohfcgdaa.Ae
