/-
  A CALL THAT IS KNOWN TO ANSWER true; runs over all values of a byte.
-/
import Derived.Test.YtokieeiohfcgdaaAiTop
namespace Go.AE
open Go.RowKit
set_option linter.unusedVariables false
set_option linter.unusedSimpArgs false
variable [Rho]

/-- The tables, and one function without arguments that is known to answer true. -/
def envK (P : Program) (K : FuncId) : Env :=
  { P, fns := fnsOf P, tys := tysOf P, orc := fun f args => bif Nat.beq f K then (match args with
    | [] => some (.bool true, [])
    | _ :: _ => none) else none }

/-- More blocks behind those that are there. -/
theorem Step.grow {base : Nat} {μ : Mp} {A : AW} {w w1 : World} (h : Rel base μ A w) (hb : Below w.heap.size w w1) : Step base μ A w μ A w1 := by
  have hr : Rel base μ A w1 := by
    refine ⟨Nat.le_trans h.base_le hb.size, h.lt, fun f t p hp => ?_, h.inj, h.own, fun f F p hF hp => (h.con f F p hF hp).mono (fun _ _ _ h => h) (hb.block _ (h.dom _ _ _ hp).1)⟩
    obtain ⟨a, b⟩ := h.dom f t p hp
    exact ⟨Nat.lt_of_lt_of_le a hb.size, b⟩
  exact ⟨h, hr, fun _ _ _ h => h, fun _ _ h => ⟨h, rfl⟩, Nat.le_refl _, fun _ t p h => .inl ⟨t, p, h, rfl⟩, fun _ F h => ⟨F, h, rfl, Nat.le_refl _⟩, hb.os, hb.tape, hb.output, hb.size, fun b hlt _ => hb.block b hlt⟩

/-- Has it a body? -/
def hasBody (P : Program) (K : FuncId) : Bool :=
  match (fnsOf P).get K with
  | some e => e.fn.body.isSome
  | none => false

theorem envK_ok {P : Program} {K : FuncId} (hE : EnvOk (envOf P)) (hb : hasBody P K = true) (hk : ∀ w, Calls P K #[] w fun e w' => e = .returned (.bool true) ∧ Below w.heap.size w w') : EnvOk (envK P K) := by
  refine ⟨hE.ty, hE.fn, hE.code, hE.mixed, hE.ext1, hE.ext2, fun f args v l h => ?_⟩
  simp only [envK, beq_eq] at h
  by_cases e : f = K
  · subst e
    simp only [decide_true, cond_true] at h
    split at h
    · cases h
      refine ⟨?_, fun base μ A w cargs hr ha => ?_⟩
      · unfold hasBody at hb
        split at hb
        · rename_i e he
          obtain ⟨c, hc⟩ := Option.isSome_iff_exists.1 hb
          exact ⟨e, c, he, hc⟩
        · cases hb
      · have hc : cargs = #[] := Array.ext' ha.inv_nil
        subst hc
        refine (hk w).mono ?_
        rintro e w' ⟨rfl, hbl⟩
        exact ⟨_, μ, rfl, .bool true, Step.grow hr hbl⟩
    · cases h
  · simp [e] at h

/-- Does it hold of lo, lo + 1, .. (so many)? -/
def span (p : Nat → Bool) : Nat → Nat → Bool
  | 0, _ => true
  | n + 1, lo => bif p lo then span p n (Nat.succ lo) else false

omit [Rho] in
theorem span_spec {p : Nat → Bool} : ∀ {n lo : Nat}, span p n lo = true → ∀ k, lo ≤ k → k < lo + n → p k = true
  | 0, lo, _, k, h1, h2 => by omega
  | n + 1, lo, h, k, h1, h2 => by
    simp only [span] at h
    cases hp : p lo <;> rw [hp] at h <;> simp only [cond_true, cond_false, Bool.false_eq_true] at h
    by_cases e : k = lo
    · subst e; exact hp
    · exact span_spec h k (by omega) (by omega)

omit [Rho] in
/-- A byte. -/
theorem byte_of {a : Int} (w : (Lit.int .u8 a).wf = true) : ∃ n : Nat, n < 256 ∧ a = Int.ofNat n := by
  have h : 0 ≤ a ∧ a < 256 := by
    simp only [Lit.wf, Bool.and_eq_true, decide_eq_true_eq] at w
    have h1 : IntKind.u8.min = 0 := by decide
    have h2 : IntKind.u8.max = 255 := by decide
    rw [h1, h2] at w
    omega
  exact ⟨a.toNat, by omega, by simp; omega⟩
end Go.AE
