/-
  MORE THAT IS KNOWN OF CALLS: of those with arguments, from runs.
-/
import Derived.Test.YtokieeiohfcgdaaAfFast2
namespace Go.AE
open Go.RowKit
set_option linter.unusedVariables false

/-- What more is known: of a call that makes no memory which anybody sees. -/
theorem orc_add {E : Env} (hE : EnvOk E) {g : FuncId → List AV → Option (AV × List AFam)}
    (h : ∀ f args v l, g f args = some (v, l) → E.orc f args = some (v, l) ∨ (l = [] ∧ (∀ k, shift2 k v = v) ∧ (∃ e c, E.fns.get f = some e ∧ e.fn.body = some c) ∧
      ∀ μ (cargs : Array Value) w, LRel μ args cargs.toList → Calls E.P f cargs w fun e w' => ∃ cv, e = .returned cv ∧ VRel μ v cv ∧ Below w.heap.size w w')) :
    EnvOk { P := E.P, fns := E.fns, tys := E.tys, orc := g } := by
  refine ⟨hE.ty, hE.fn, hE.code, hE.mixed, hE.ext1, hE.ext2, fun f args v l hg => ?_⟩
  rcases h f args v l hg with h1 | ⟨rfl, hs, hb, hc⟩
  · exact hE.orc f args v l h1
  · refine ⟨hb, fun base μ A w cargs hr ha => (hc μ cargs w ha).mono ?_⟩
    rintro e w' ⟨cv, rfl, hv, hbl⟩
    exact ⟨cv, μ, rfl, by rw [hs]; exact hv, Step.grow hr hbl⟩

/-- A run, and what it gives. -/
theorem topV {E : Env} (hE : EnvOk E) {n : Nat} {f : FuncId} {args : List AV} {cargs : Array Value} {v : AV} {A : AW} (h : R.run E n f args ⟨.nil, 0⟩ = .val v A) (ha : LRel (fun _ _ => none) args cargs.toList) (w : World) :
    Calls E.P f cargs w fun e w' => ∃ cv μ', e = .returned cv ∧ VRel μ' v cv ∧ Below w.heap.size w w' := by
  rw [R.run_eq] at h
  refine (call_ok hE n f args ⟨.nil, 0⟩ v A _ w cargs h (rel_none w.heap.size w (Nat.le_refl _)) ha).mono ?_
  rintro e w' ⟨cv, μ', rfl, hv, hs⟩
  exact ⟨cv, μ', rfl, hv, hs.os, hs.tape, hs.output, hs.size, fun k hk => hs.blk k hk fun f F t p hF => by simp [Tr.get] at hF⟩

/-- Is it so of what it gives? -/
def isVal (p : AV → Bool) : Out → Bool
  | .val v _ => p v
  | .fail _ => false
theorem isVal_spec {p : AV → Bool} {o : Out} (h : isVal p o = true) : ∃ v A, o = .val v A ∧ p v = true := by
  cases o with
  | fail n => cases h
  | val v A => exact ⟨v, A, rfl, h⟩

/-- A number between two? -/
def isIn (lo hi : Nat) : AV → Bool
  | .int .i64 (.ofNat n) => Nat.ble lo n && Nat.ble n hi
  | _ => false
theorem isIn_spec {lo hi : Nat} {v : AV} (h : isIn lo hi v = true) : ∃ n, v = .int .i64 (.ofNat n) ∧ lo ≤ n ∧ n ≤ hi := by
  unfold isIn at h
  split at h
  · rename_i n
    simp only [Bool.and_eq_true, ble_dec, decide_eq_true_eq] at h
    exact ⟨n, rfl, h.1, h.2⟩
  · cases h
end Go.AE
