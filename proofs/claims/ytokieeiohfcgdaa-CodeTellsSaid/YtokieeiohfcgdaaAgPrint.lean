/-
  WHAT IS KNOWN OF THE TWO FUNCTIONS THAT PRINT A NUMBER: of the number that has a name, from 0 to 999, they give the text that has a name.
-/
import Derived.Test.YtokieeiohfcgdaaAgKnown1
import Derived.Test.YtokieeiohfcgdaaAgOrc2
namespace Go.Proofs.Ytokieeiohfcgdaa.Ae
open Go.AE Go.RowKit
set_option maxRecDepth 1000000
set_option linter.unusedVariables false
def strOut : Out → Option (List Nat)
  | .val v _ => (match v with
    | .str l => some l
    | _ => none)
  | .fail _ => none
theorem strOut_spec {o : Out} {l : List Nat} (h : strOut o = some l) : ∃ A, o = .val (.str l) A := by
  cases o with
  | fail n => cases h
  | val v A =>
    cases v <;> simp only [strOut, reduceCtorEq, Option.some.injEq] at h
    subst h
    exact ⟨A, rfl⟩
noncomputable def printOne (f a : Nat) : Option (List Nat) := strOut (R.run (envL 35) 1000000 f [.int .i64 (.ofNat a)] ⟨.nil, 0⟩)
/-- Both give the same, and it is short. -/
noncomputable def printBoth (a : Nat) : Bool :=
  match printOne 72 a with
  | some x => (match printOne 74 a with
    | some y => strEq x y && Nat.ble (len x) 1000
    | none => false)
  | none => false
theorem print_0 : span printBoth 50 0 = true := by kernel_rfl
theorem print_50 : span printBoth 50 50 = true := by kernel_rfl
theorem print_100 : span printBoth 50 100 = true := by kernel_rfl
theorem print_150 : span printBoth 50 150 = true := by kernel_rfl
theorem print_200 : span printBoth 50 200 = true := by kernel_rfl
theorem print_250 : span printBoth 50 250 = true := by kernel_rfl
theorem print_300 : span printBoth 50 300 = true := by kernel_rfl
theorem print_350 : span printBoth 50 350 = true := by kernel_rfl
theorem print_400 : span printBoth 50 400 = true := by kernel_rfl
theorem print_450 : span printBoth 50 450 = true := by kernel_rfl
theorem print_500 : span printBoth 50 500 = true := by kernel_rfl
theorem print_550 : span printBoth 50 550 = true := by kernel_rfl
theorem print_600 : span printBoth 50 600 = true := by kernel_rfl
theorem print_650 : span printBoth 50 650 = true := by kernel_rfl
theorem print_700 : span printBoth 50 700 = true := by kernel_rfl
theorem print_750 : span printBoth 50 750 = true := by kernel_rfl
theorem print_800 : span printBoth 50 800 = true := by kernel_rfl
theorem print_850 : span printBoth 50 850 = true := by kernel_rfl
theorem print_900 : span printBoth 50 900 = true := by kernel_rfl
theorem print_950 : span printBoth 50 950 = true := by kernel_rfl
theorem print_all (a : Nat) (h : a < 1000) : printBoth a = true := by
  by_cases h0 : a < 50
  · exact span_spec print_0 a (by omega) (by omega)
  by_cases h1 : a < 100
  · exact span_spec print_50 a (by omega) (by omega)
  by_cases h2 : a < 150
  · exact span_spec print_100 a (by omega) (by omega)
  by_cases h3 : a < 200
  · exact span_spec print_150 a (by omega) (by omega)
  by_cases h4 : a < 250
  · exact span_spec print_200 a (by omega) (by omega)
  by_cases h5 : a < 300
  · exact span_spec print_250 a (by omega) (by omega)
  by_cases h6 : a < 350
  · exact span_spec print_300 a (by omega) (by omega)
  by_cases h7 : a < 400
  · exact span_spec print_350 a (by omega) (by omega)
  by_cases h8 : a < 450
  · exact span_spec print_400 a (by omega) (by omega)
  by_cases h9 : a < 500
  · exact span_spec print_450 a (by omega) (by omega)
  by_cases h10 : a < 550
  · exact span_spec print_500 a (by omega) (by omega)
  by_cases h11 : a < 600
  · exact span_spec print_550 a (by omega) (by omega)
  by_cases h12 : a < 650
  · exact span_spec print_600 a (by omega) (by omega)
  by_cases h13 : a < 700
  · exact span_spec print_650 a (by omega) (by omega)
  by_cases h14 : a < 750
  · exact span_spec print_700 a (by omega) (by omega)
  by_cases h15 : a < 800
  · exact span_spec print_750 a (by omega) (by omega)
  by_cases h16 : a < 850
  · exact span_spec print_800 a (by omega) (by omega)
  by_cases h17 : a < 900
  · exact span_spec print_850 a (by omega) (by omega)
  by_cases h18 : a < 950
  · exact span_spec print_900 a (by omega) (by omega)
  exact span_spec print_950 a (by omega) (by omega)
/-- What is printed. -/
noncomputable def dec (a : Nat) : List Nat :=
  match printOne 72 a with
  | some l => l
  | none => []
theorem print_dec (a : Nat) (h : a < 1000) : printOne 72 a = some (dec a) ∧ printOne 74 a = some (dec a) ∧ (dec a).length ≤ 1000 := by
  have hb := print_all a h
  unfold printBoth at hb
  unfold dec
  cases h1 : printOne 72 a with
  | none => rw [h1] at hb; cases hb
  | some x =>
    cases h2 : printOne 74 a with
    | none => rw [h1, h2] at hb; cases hb
    | some y =>
      rw [h1, h2] at hb
      simp only [Bool.and_eq_true, ble_dec, decide_eq_true_eq, len_eq] at hb
      exact ⟨rfl, by rw [strEq_true hb.1], hb.2⟩
/-- The names stand for a number, and for what is printed of it. -/
@[reducible] noncomputable def rhoOf (a : Nat) (h : a < 1000) : Rho := ⟨fun _ => a, fun _ => dec a, fun _ => (print_dec a h).2.2⟩
/-- What is known. -/
noncomputable def orcP (f : FuncId) (args : List AV) : Option (AV × List AFam) :=
  bif Nat.beq f 72 || Nat.beq f 74 then (match args with
    | [.sym k j lo hi] => bif kindEq k .i64 && (Nat.beq j 0 && (Nat.beq lo 0 && Nat.beq hi 999)) then some (.sstr [] 0, []) else none
    | _ => none) else (envL 35).orc f args
noncomputable def envP : Env := { P := (envL 35).P, fns := (envL 35).fns, tys := (envL 35).tys, orc := orcP }
noncomputable def hasB (f : Nat) : Bool := match tab.get f with
  | some e => e.fn.body.isSome
  | none => false
theorem hasNum : hasB 72 = true := by kernel_rfl
theorem hasRef : hasB 74 = true := by kernel_rfl
theorem hasB_spec {f : Nat} (h : hasB f = true) : ∃ e c, (envL 35).fns.get f = some e ∧ e.fn.body = some c := by
  unfold hasB at h
  split at h
  · rename_i e he
    obtain ⟨c, hc⟩ := Option.isSome_iff_exists.1 h
    exact ⟨e, c, he, hc⟩
  · cases h
theorem envP_ok (a : Nat) (ha : a < 1000) : @EnvOk (rhoOf a ha) envP := by
  letI : Rho := rhoOf a ha
  refine orc_add envKnown1 fun f args v l h => ?_
  unfold orcP at h
  by_cases hf : f = 72 ∨ f = 74
  · have e : (Nat.beq f 72 || Nat.beq f 74) = true := by
      rcases hf with rfl | rfl <;> rfl
    rw [e, cond_true] at h
    split at h
    · rename_i k j lo hi
      simp only [Bool.cond_eq_ite, Bool.and_eq_true, kindEq_eq, beq_eq, decide_eq_true_eq] at h
      split at h
      · rename_i hk
        obtain ⟨rfl, rfl, rfl, rfl⟩ := hk
        cases h
        obtain ⟨p1, p2, p3⟩ := print_dec a ha
        have hp : printOne f a = some (dec a) ∧ hasB f = true := by
          rcases hf with rfl | rfl
          · exact ⟨p1, hasNum⟩
          · exact ⟨p2, hasRef⟩
        refine .inr ⟨rfl, fun _ => rfl, hasB_spec hp.2, fun μ cargs w hargs => ?_⟩
        obtain ⟨y, ys, hc, hv, hr⟩ := hargs.inv
        cases hr.inv_nil
        have hc' : cargs = #[y] := Array.ext' hc
        subst hc'
        cases hv with
        | sym _ h1 h2 =>
          obtain ⟨A, hA⟩ := strOut_spec hp.1
          refine (topV envKnown1 hA (LRel.cons (.int _ _) (LRel.nil _)) w).mono ?_
          rintro e w' ⟨cv, μ', rfl, hv, hbl⟩
          generalize hd : dec a = l0 at hv
          cases hv with
          | str s => exact ⟨_, rfl, .sstr (by rw [List.nil_append]; exact hd.symm), hbl⟩
      · cases h
    · cases h
  · have e : (Nat.beq f 72 || Nat.beq f 74) = false := by
      rw [beq_eq, beq_eq]
      simp only [not_or] at hf
      simp [hf.1, hf.2]
    rw [e, cond_false] at h
    exact .inl h
end Go.Proofs.Ytokieeiohfcgdaa.Ae
