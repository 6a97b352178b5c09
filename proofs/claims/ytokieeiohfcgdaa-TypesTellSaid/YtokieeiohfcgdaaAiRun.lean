/-
  WHAT THE EVALUATOR RUNS THE MODEL RUNS: regions in the order of their text, code, calls.
-/
import Derived.Test.YtokieeiohfcgdaaAiExec
import Derived.Scope
import Derived.Orders
namespace Go.AE
set_option linter.unusedVariables false
variable [Rho]
section
variable {E : Env} {base : Nat} {μ : Mp} {A : AW} {w : World}

def FRel (μ : Mp) (N : Nat) (F : Fr) (a : Act) : Prop := N ≤ a.tmps.size ∧ ∀ t v, F.get t = some v → VRel μ v (a.tmps.getD t undef)

theorem FRel.ev {N : Nat} {F : Fr} {a : Act} (h : FRel μ N F a) (x : Operand) : VRel μ (ev F x) (a.eval x) := by
  cases x with
  | tmp t =>
    simp only [AE.ev]
    split
    · rename_i v hv; exact h.2 t v hv
    · exact .undef _
  | const v => exact ofConst_rel μ v
  | global g => exact .undef _
  | func f => exact .func f (by simp) (by simp) (by simp) (by simp)

theorem FRel.mono {μ' : Mp} {N : Nat} {F : Fr} {a : Act} (hm : ∀ f t p, μ f t = some p → μ' f t = some p) (h : FRel μ N F a) : FRel μ' N F a := ⟨h.1, fun t v hv => (h.2 t v hv).mono hm⟩

theorem FRel.clear {N : Nat} {F : Fr} {a : Act} (h : FRel μ N F a) : FRel μ N F.clear a := ⟨h.1, fun t v hv => h.2 t v (Fr.get_clear hv)⟩

omit [Rho] in
theorem getD_put (tmps : Array Value) (d t : Nat) (v : Value) (h : d < tmps.size) : (tmps.setIfInBounds d v).getD t undef = if t = d then v else tmps.getD t undef := by
  simp only [Array.getD_eq_getD_getElem?]
  by_cases e : t = d
  · subst e
    simp [h]
  · rw [if_neg e, Array.getElem?_setIfInBounds_ne (Ne.symm e)]

omit [Rho] in
theorem putF_get {N : Nat} {F F' : Fr} {dst : Option Tmp} {v : AV} {A' : AW} (hl : putF N F dst v A = .ok F' A') : A' = A ∧ (∀ t, F'.get t = if dst = some t then some v else F.get t) ∧ ∀ d, dst = some d → d < N := by
  unfold putF at hl
  split at hl
  · cases hl
    exact ⟨rfl, fun t => by simp, by simp⟩
  · rename_i d
    cases hb : Nat.blt d N <;> rw [hb] at hl <;> simp only [cond_true, cond_false, reduceCtorEq] at hl
    cases hl
    have hlt : d < N := by rw [blt_eq] at hb; simpa using hb
    refine ⟨rfl, fun t => ?_, fun d' hd' => by cases hd'; exact hlt⟩
    rw [Fr.get_set]
    by_cases e : t = d
    · subst e; simp
    · have : ¬ d = t := fun h => e h.symm
      simp [e, this]

theorem FRel.put {N : Nat} {F F' : Fr} {a : Act} {dst : Option Tmp} {v : AV} {cv : Value} {A' : AW} (h : FRel μ N F a) (hl : putF N F dst v A = .ok F' A') (hv : VRel μ v cv) : A' = A ∧ FRel μ N F' (a.put dst cv) := by
  obtain ⟨e1, e2, e3⟩ := putF_get hl
  refine ⟨e1, ?_, fun t u hu => ?_⟩
  · cases dst with
    | none => exact h.1
    | some d => simp only [Act.put, Array.size_setIfInBounds]; exact h.1
  · rw [e2] at hu
    cases dst with
    | none => simp at hu; exact h.2 t u hu
    | some d =>
      have hd := e3 d rfl
      simp only [Act.put]
      rw [getD_put _ _ _ _ (Nat.lt_of_lt_of_le hd h.1)]
      by_cases e : t = d
      · subst e
        simp at hu
        subst hu
        simpa using hv
      · have : ¬ d = t := fun h => e h.symm
        simp [this] at hu
        rw [if_neg e]
        exact h.2 t u hu

/-- The guards. -/
theorem wanted_sound {all : List Oper} {F : Fr} {N : Nat} {a : Act} {o : Oper} {b : Bool} (h : FRel μ N F a) (hw : wantedA all F o = some b) : Region.wanted o (yielded all.toArray a.tmps) = b := by
  unfold wantedA at hw
  unfold Region.wanted
  cases hg : o.guard with
  | none => rw [hg] at hw; simp at hw; simp [hw]
  | some jw =>
    obtain ⟨j, want⟩ := jw
    rw [hg] at hw
    simp only at hw ⊢
    split at hw
    · rename_i oj hj
      rw [nth_eq] at hj
      split at hw
      · rename_i d hd
        have hy : ∀ v, F.get d = some v → ∃ cv, yielded all.toArray a.tmps j = (match (some cv : Option Value) with
            | some (.bool b) => some b
            | _ => none) ∧ VRel μ v cv := fun v hv => by
          have hr := h.2 d v hv
          refine ⟨_, ?_, hr⟩
          unfold yielded
          simp only [List.getElem?_toArray, hj, Option.bind_some, hd, Array.getD_eq_getD_getElem?]
          cases a.tmps[d]? with
          | none => rfl
          | some x => rfl
        split at hw
        · rename_i b' hb'
          obtain ⟨cv, e1, e2⟩ := hy _ hb'
          cases e2
          rw [e1]
          simp at hw
          subst hw
          cases b' <;> cases want <;> rfl
        · rename_i hb'
          obtain ⟨cv, e1, e2⟩ := hy _ hb'
          obtain ⟨us, rfl, _⟩ := vrel_tuple e2
          rw [e1]
          simp at hw
          subst hw
          rfl
        · cases hw
      · cases hw
    · cases hw

/-! ### One operation in a region -/
/-- What is known of calls that are entered. -/
def CallOk (E : Env) (base : Nat) (call : FuncId → List AV → AW → Out) : Prop :=
  ∀ f args A v A' μ w (cargs : Array Value), call f args A = .val v A' → Rel base μ A w → LRel μ args cargs.toList →
    Calls E.P f cargs w fun e w' => ∃ cv μ', e = .returned cv ∧ VRel μ' v cv ∧ Step base μ A w μ' A' w'

theorem one_sound (hE : EnvOk E) {call : FuncId → List AV → AW → Out} (hC : CallOk E base call) {N : Nat} {all : List Oper} {o : Oper} {i : Nat} (hi : all[i]? = some o) {F F' : Fr} {A' : AW} (hl : oneA E call N all o F A = .ok F' A')
    (h : Rel base μ A w) {a : Act} (hF : FRel μ N F a) {K : Act → World → Prop} {Q : Exit → Act → World → Prop}
    (hK : ∀ cv w' μ', (∃ v, putF N F o.dst v A' = .ok F' A' ∧ VRel μ' v cv) → Step base μ A w μ' A' w' → FRel μ' N F' (a.put o.dst cv) → K (a.put o.dst cv) w') : wpOp E.P all.toArray Q i K a w := by
  unfold wpOp
  simp only [List.getElem?_toArray, hi]
  unfold oneA at hl
  have putA : ∀ {v : AV} {B : AW}, putF N F o.dst v B = .ok F' A' → B = A' := fun {v B} hp => (putF_get hp).1.symm
  have fin : ∀ {v : AV} {B : AW}, putF N F o.dst v B = .ok F' A' → ∀ cv w' μ', VRel μ' v cv → Step base μ A w μ' B w' → K (a.put o.dst cv) w' := fun {v B} hp cv w' μ' hv hst => by
    have e := putA hp
    subst e
    exact hK cv w' μ' ⟨v, hp, hv⟩ hst ((hF.mono hst.keep).put hp hv).2
  split at hl
  · rename_i hw
    have hwc := wanted_sound hF hw
    simp only [hwc, if_true]
    refine .inl ?_
    split at hl
    · rename_i v B hex
      exact exec_wp hE h hex hF.ev (fun cv w' μ' hv hst => fin hl cv w' μ' hv hst)
    · rename_i f args hex
      split at hl
      · rename_i v B hcall
        obtain ⟨cargs, h1, h2⟩ := exec_enter (w := w) hE hex hF.ev
        refine wp_enter h2 ((hC f args A v B μ w cargs hcall h h1).mono ?_)
        rintro e w' ⟨cv, μ', rfl, q1, q2⟩
        exact ⟨cv, rfl, fin hl cv w' μ' q1 q2⟩
      · cases hl
    · cases hl
  · rename_i hw
    have hwc := wanted_sound hF hw
    simp only [hwc, Bool.false_eq_true, if_false]
    exact fin hl undef w μ (.tuple (by simp) (by simp)) (Step.refl h)
  · cases hl

theorem ops_sound (hE : EnvOk E) {call : FuncId → List AV → AW → Out} (hC : CallOk E base call) {N : Nat} {all : List Oper} {Q : Exit → Act → World → Prop} : ∀ (rest : List Oper) (k : Nat) (F F' : Fr) (A A' : AW) (μ : Mp) (w : World) (a : Act),
    (∀ j, rest[j]? = all[k + j]?) → opsA E call N all rest F A = .ok F' A' → Rel base μ A w → FRel μ N F a →
    (∀ a' w' μ', a'.defers = a.defers → Step base μ A w μ' A' w' → FRel μ' N F' a' → Q .normal a' w') → wpOps E.P all.toArray Q (List.range' k rest.length) a w
  | [], k, F, F', A, A', μ, w, a, hr, hl, h, hF, hQ => by
    simp only [opsA, ResF.ok.injEq] at hl
    obtain ⟨rfl, rfl⟩ := hl
    exact hQ a w μ rfl (Step.refl h) hF
  | o :: rest, k, F, F', A, A', μ, w, a, hr, hl, h, hF, hQ => by
    simp only [opsA] at hl
    split at hl
    · rename_i F1 A1 h1
      have hk : all[k]? = some o := by have := hr 0; simpa using this.symm
      simp only [List.length_cons, List.range'_succ]
      rw [wpOps_cons]
      refine one_sound hE hC hk h1 h hF fun cv w' μ' _ hst hF1 => ?_
      refine ops_sound hE hC rest (k + 1) F1 F' A1 A' μ' w' _ (fun j => by have := hr (j + 1); simpa [Nat.add_assoc, Nat.add_comm 1 j] using this) hl hst.rel hF1 fun a' w'' μ'' hd hst' hF' => hQ a' w'' μ'' ?_ (hst.trans hst') hF'
      rw [hd]
      cases o.dst <;> rfl
    · cases hl

theorem region_sound (hE : EnvOk E) {call : FuncId → List AV → AW → Out} (hC : CallOk E base call) {N id : Nat} {ops : Array Oper} {F F' : Fr} {A' : AW} (hl : opsA E call N ops.toList ops.toList F A = .ok F' A') (h : Rel base μ A w) {a : Act}
    (hF : FRel μ N F a) {Q : Exit → Act → World → Prop} (hQ : ∀ a' w' μ', a'.defers = a.defers → Step base μ A w μ' A' w' → FRel μ' N F' a' → Q .normal a' w') : (Code.region id ops false).wp E.P Q a w := by
  refine wp_region ?_
  have := ops_sound (Q := Q) hE hC ops.toList 0 F F' A A' μ w a (fun j => by simp) hl h hF hQ
  simpa [List.range_eq_range'] using this

end
end Go.AE
