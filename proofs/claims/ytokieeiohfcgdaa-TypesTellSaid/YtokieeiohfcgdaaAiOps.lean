/-
  EACH OPERATION OF THE EVALUATOR IS ONE OF THE MODEL's.
-/
import Derived.Test.YtokieeiohfcgdaaAiBits
namespace Go.AE
variable [Rho]
section
variable {E : Env} {base : Nat} {μ : Mp} {A : AW} {w : World}

/-- What a computation of the model answers: v, in a world that stands to A' as it should. -/
def Ans (E : Env) (base : Nat) (μ : Mp) (A : AW) (w : World) (s : Sem Value) (v : AV) (A' : AW) : Prop :=
  ∃ cv w' μ', s.run E.P w = .ok cv w' ∧ VRel μ' v cv ∧ Step base μ A w μ' A' w'

theorem Ans.same (h : Rel base μ A w) {s : Sem Value} {v : AV} {cv : Value} (hr : s.run E.P w = .ok cv w) (hv : VRel μ v cv) : Ans E base μ A w s v A := ⟨cv, w, μ, hr, hv, Step.refl h⟩

theorem Ans.quiet (h : Rel base μ A w) {s : Sem Value} {v : AV} {A' : AW} (hq : quiet E s A = .val v A') : Ans E base μ A w s v A' := by
  obtain ⟨rfl, x, hx, hv⟩ := quiet_val hq
  exact Ans.same h (hx w) (hv μ)

/-! ### Numbers, texts, comparing -/
theorem intOp_sound (h : Rel base μ A w) {op : BinOp} {t : TypeId} {k k' : IntKind} {a b : Int} {v : AV} {A' : AW} (hl : intOp E op k a k' b A = .val v A') :
    Ans E base μ A w (binOp op t (.int k a) (.int k' b)) v A' := by
  have hq : ∀ op', quiet E (binOp op' 0 (.int k a) (.int k' b)) A = .val v A' → Ans E base μ A w (binOp op' t (.int k a) (.int k' b)) v A' := fun op' hq => by
    have e : binOp op' t (.int k a) (.int k' b) = binOp op' 0 (.int k a) (.int k' b) := by cases op' <;> rfl
    rw [e]
    exact Ans.quiet h hq
  unfold intOp at hl
  rw [kindEq_eq] at hl
  by_cases hk : k = k'
  · subst hk
    simp only [decide_true, cond_true] at hl
    cases op
    case add =>
      obtain ⟨rfl, rfl⟩ := retI_val hl
      rw [wrapI_eq, iadd_eq]
      exact Ans.same h (by simp [binOp, Op.intArith]) (.int _ _)
    case sub =>
      obtain ⟨rfl, rfl⟩ := retI_val hl
      rw [wrapI_eq, isub_eq]
      exact Ans.same h (by simp [binOp, Op.intArith]) (.int _ _)
    case mul =>
      obtain ⟨rfl, rfl⟩ := retI_val hl
      rw [wrapI_eq]
      exact Ans.same h (by simp [binOp, Op.intArith]) (.int _ _)
    case eql =>
      obtain ⟨rfl, rfl⟩ := retB_val hl
      rw [ieq_eq]
      exact Ans.same h (by simp [binOp, Op.intCmp]; rfl) (.bool _)
    case neq =>
      obtain ⟨rfl, rfl⟩ := retB_val hl
      rw [ieq_eq]
      exact Ans.same h (by simp [binOp, Op.intCmp]; rfl) (.bool _)
    case lss =>
      obtain ⟨rfl, rfl⟩ := retB_val hl
      rw [ilt_eq]
      exact Ans.same h (by simp [binOp, Op.intCmp]) (.bool _)
    case leq =>
      obtain ⟨rfl, rfl⟩ := retB_val hl
      rw [ilt_eq]
      exact Ans.same h (by simp [binOp, Op.intCmp]; by_cases h : a ≤ b <;> simp [h] <;> omega) (.bool _)
    case gtr =>
      obtain ⟨rfl, rfl⟩ := retB_val hl
      rw [ilt_eq]
      exact Ans.same h (by simp [binOp, Op.intCmp]) (.bool _)
    case geq =>
      obtain ⟨rfl, rfl⟩ := retB_val hl
      rw [ilt_eq]
      exact Ans.same h (by simp [binOp, Op.intCmp]; by_cases h : b ≤ a <;> simp [h] <;> omega) (.bool _)
    all_goals exact hq _ hl
  · simp only [hk, decide_false, cond_false] at hl
    exact hq _ hl

theorem strOp_sound (h : Rel base μ A w) {op : BinOp} {t : TypeId} {a b : ByteArray} {v : AV} {A' : AW}
    (hl : strOp op (a.data.toList.map UInt8.toNat) (b.data.toList.map UInt8.toNat) A = .val v A') : Ans E base μ A w (binOp op t (.string a) (.string b)) v A' := by
  have hs : ∀ s : ByteArray, s.data.toList.length = s.size := fun s => by rw [Array.length_toList]; rfl
  unfold strOp at hl
  cases op <;> simp only [] at hl <;> try (cases hl; done)
  case add =>
    simp only [len_eq, List.length_map, hs] at hl
    cases hb : Nat.ble (Nat.add a.size b.size) 4611686018427387904
    · rw [hb] at hl; cases hl
    · rw [hb] at hl
      cases hl
      have hle : a.size + b.size ≤ 4611686018427387904 := Nat.le_of_ble_eq_true hb
      refine Ans.same h (cv := .string (a ++ b)) ?_ ?_
      · have hm : IntKind.i64.max = 9223372036854775807 := by decide
        simp only [binOp, Op.stringOp, hm]
        rw [Sem.run_ite, if_neg (by omega)]
        rfl
      · have e : a.data.toList.map UInt8.toNat ++ b.data.toList.map UInt8.toNat = (a ++ b).data.toList.map UInt8.toNat := by
          rw [ByteArray.data_append]; simp
        rw [e]
        exact .str _
  all_goals
    obtain ⟨rfl, rfl⟩ := retB_val hl
    refine Ans.same h (cv := .bool _) ?_ (.bool _)
    simp only [binOp, Op.stringOp, ByteArray.toList_eq, strEq_eq, strLt_eq]
    rfl

omit [Rho] in
theorem kindD_cases (d : TypeDesc) : (kindD d = 0 → ∃ e, d = .pointer e) ∧ (kindD d = 1 → ∃ e, d = .slice e) ∧ (kindD d = 2 → ∃ a b, d = .map a b) ∧ (kindD d = 3 → ∃ a b c, d = .func a b c) := by
  cases d <;> simp [kindD]

theorem nilEq_sound (hE : TysOk E) {t : TypeId} {d : ATy} {x y : AV} {k : Nat} {b : Bool} {cx cy : Value} (hn : nilEq x y = some (k, b)) (hd : E.tys.get t = some d) (hk : kindD d.desc = k)
    (hx : VRel μ x cx) (hy : VRel μ y cy) : (Op.equal t cx cy).run E.P w = .ok b w ∧ binOp .eql t cx cy = (do pure (.bool (← Op.equal t cx cy))) ∧ binOp .neq t cx cy = (do pure (.bool (!(← Op.equal t cx cy)))) ∧
      ∀ op p q, (eqGuard op t p q cx cy).run E.P w = .ok () w := by
  have ht := hE t d hd
  have hu := ht.run_und w
  have step : ∀ r : Bool, (∀ s, d.desc = s → kindD s = k → ((Op.equalIn 10000 t cx cy).run E.P w = .ok r w)) → (Op.equal t cx cy).run E.P w = .ok r w := fun r hr => hr _ rfl hk
  obtain ⟨k0, k1, k2, k3⟩ := kindD_cases d.desc
  cases x <;> cases y <;> simp only [nilEq, Option.some.injEq, Prod.mk.injEq, reduceCtorEq] at hn <;> obtain ⟨rfl, rfl⟩ := hn <;> cases hx <;> cases hy <;>
    (refine ⟨step _ fun s hs hks => ?_, rfl, rfl, fun op p q => by cases op <;> rfl⟩
     unfold Op.equalIn
     rw [Sem.run_bind, hu]
     first
       | (obtain ⟨e, he⟩ := k0 hk; rw [he]; rfl)
       | (obtain ⟨e, he⟩ := k1 hk; rw [he]; rfl)
       | (obtain ⟨e, f, he⟩ := k2 hk; rw [he]; rfl)
       | (obtain ⟨e, f, g, he⟩ := k3 hk; rw [he]; rfl))

end
end Go.AE
