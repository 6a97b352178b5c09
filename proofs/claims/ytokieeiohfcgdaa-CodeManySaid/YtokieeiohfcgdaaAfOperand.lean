/-
  WHAT IS KNOWN OF THE FUNCTION Operand: of the ops without an operand, of all others.
-/
import Derived.Test.YtokieeiohfcgdaaAfKnown1
import Derived.Test.YtokieeiohfcgdaaAfOrc2
namespace Go.Proofs.Ytokieeiohfcgdaa.Ae
open Go.AE Go.RowKit
set_option maxRecDepth 1000000
set_option linter.unusedVariables false
/-- One run of it. -/
noncomputable def operandRun (S lo hi n : Nat) : Bool := bif bit S n then isVal (isIn lo hi) (R.run (envL 35) 1000000 42 [.int .i64 (.ofNat n)] ⟨.nil, 0⟩) else true
theorem operand_0 : span (operandRun 271643532328905 0 0) 256 0 = true := by kernel_rfl
theorem operand_1 : span (operandRun 9831444381750 1 3) 256 0 = true := by kernel_rfl
theorem operand_in {S lo hi : Nat} (h : span (operandRun S lo hi) 256 0 = true) {n : Nat} (hn : n < 256) (hb : bit S (n % 256) = true) (w : World) :
    Calls Try.prog 42 #[.int .i64 (Int.ofNat n)] w fun e w' => ∃ m : Nat, e = .returned (.int .i64 (Int.ofNat m)) ∧ (lo ≤ m ∧ m ≤ hi) ∧ Below w.heap.size w w' := by
  have h1 := span_spec h n (Nat.zero_le _) (by omega)
  unfold operandRun at h1
  rw [Nat.mod_eq_of_lt hn] at hb
  rw [hb, cond_true] at h1
  obtain ⟨v, A, h2, h3⟩ := isVal_spec h1
  obtain ⟨m, rfl, h4, h5⟩ := isIn_spec h3
  refine (topV envKnown1 h2 (LRel.cons (.int _ _) (LRel.nil _)) w).mono ?_
  rintro e w' ⟨cv, μ', rfl, hv, hbl⟩
  cases hv
  exact ⟨m, rfl, ⟨h4, h5⟩, hbl⟩
/-- What is known. -/
noncomputable def orcC (f : FuncId) (args : List AV) : Option (AV × List AFam) :=
  bif Nat.beq f 42 then (match args with
    | [.among k m S] => bif kindEq k .i64 && Nat.beq m 256 then (bif Nat.beq S 271643532328905 then some (.int .i64 (.ofNat 0), []) else bif Nat.beq S 9831444381750 then some (.rng .i64 1 3, []) else none) else none
    | _ => none) else (envL 35).orc f args
noncomputable def envC : Env := { P := (envL 35).P, fns := (envL 35).fns, tys := (envL 35).tys, orc := orcC }
theorem hasOperand : (match tab.get 42 with
    | some e => e.fn.body.isSome
    | none => false) = true := by kernel_rfl
theorem envC_ok : EnvOk envC := by
  refine orc_add envKnown1 fun f args v l h => ?_
  unfold orcC at h
  rw [beq_eq] at h
  by_cases hf : f = 42
  · subst hf
    simp only [decide_true, cond_true] at h
    have hb : ∃ e c, (envL 35).fns.get 42 = some e ∧ e.fn.body = some c := by
      have hh := hasOperand
      split at hh
      · rename_i e he
        obtain ⟨c, hc⟩ := Option.isSome_iff_exists.1 hh
        exact ⟨e, c, he, hc⟩
      · cases hh
    split at h
    · rename_i k m S
      simp only [Bool.cond_eq_ite, Bool.and_eq_true, kindEq_eq, beq_eq, decide_eq_true_eq] at h
      split at h
      · rename_i hk
        obtain ⟨rfl, rfl⟩ := hk
        split at h
        · rename_i hS
          subst hS
          cases h
          refine .inr ⟨rfl, fun _ => rfl, hb, fun μ cargs w ha => ?_⟩
          obtain ⟨y, ys, hc, hv, hr⟩ := ha.inv
          cases hr.inv_nil
          have hc' : cargs = #[y] := Array.ext' hc
          subst hc'
          cases hv with
          | among _ hn he =>
            refine (operand_in operand_0 hn he w).mono ?_
            rintro e w' ⟨m, rfl, ⟨h1, h2⟩, hbl⟩
            obtain rfl : m = 0 := by omega
            exact ⟨_, rfl, .int _ _, hbl⟩
        · split at h
          · rename_i hS
            subst hS
            cases h
            refine .inr ⟨rfl, fun _ => rfl, hb, fun μ cargs w ha => ?_⟩
            obtain ⟨y, ys, hc, hv, hr⟩ := ha.inv
            cases hr.inv_nil
            have hc' : cargs = #[y] := Array.ext' hc
            subst hc'
            cases hv with
            | among _ hn he =>
              refine (operand_in operand_1 hn he w).mono ?_
              rintro e w' ⟨m, rfl, ⟨h1, h2⟩, hbl⟩
              exact ⟨_, rfl, .rng _ h1 h2, hbl⟩
          · cases h
      · cases h
    · cases h
  · simp only [hf, decide_false, cond_false] at h
    exact .inl h
end Go.Proofs.Ytokieeiohfcgdaa.Ae
