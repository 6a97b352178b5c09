/-
  CodeTells: the evaluator's runs: each op, its operand that may be, that is too great, that is below 0; so does the model's call.
-/
import Derived.Test.YtokieeiohfcgdaaAgPrint
namespace Go.Proofs.Ytokieeiohfcgdaa.Ae
open Go.AE Go.RowKit
set_option maxRecDepth 1000000
/-- One run. -/
noncomputable def tellsRun (x y : AV) : Bool := yes (R.run envP 1000000 13 [.agg [x, y]] ⟨.nil, 0⟩)
/-- An operand that may be. -/
noncomputable def tellsMay (i : Nat) : Bool := tellsRun (.int .i64 (.ofNat i)) (bif bit 271643532328905 i then .int .i64 (.ofNat 0) else .sym .i64 0 0 999)
/-- One that is too great. -/
noncomputable def tellsOver (i : Nat) : Bool := tellsRun (.int .i64 (.ofNat i)) (.rng .i64 (bif bit 271643532328905 i then 1 else 1000) 9223372036854775807)
/-- One below 0. -/
noncomputable def tellsNeg (i : Nat) : Bool := tellsRun (.int .i64 (.ofNat i)) (.neg .i64)
theorem tellsMay_0 : span tellsMay 8 0 = true := by kernel_rfl
theorem tellsMay_8 : span tellsMay 8 8 = true := by kernel_rfl
theorem tellsMay_16 : span tellsMay 8 16 = true := by kernel_rfl
theorem tellsMay_24 : span tellsMay 8 24 = true := by kernel_rfl
theorem tellsMay_32 : span tellsMay 8 32 = true := by kernel_rfl
theorem tellsMay_40 : span tellsMay 8 40 = true := by kernel_rfl
theorem tellsMay_all (i : Nat) (h : i < 48) : tellsMay i = true := by
  by_cases h0 : i < 8
  · exact span_spec tellsMay_0 i (by omega) (by omega)
  by_cases h8 : i < 16
  · exact span_spec tellsMay_8 i (by omega) (by omega)
  by_cases h16 : i < 24
  · exact span_spec tellsMay_16 i (by omega) (by omega)
  by_cases h24 : i < 32
  · exact span_spec tellsMay_24 i (by omega) (by omega)
  by_cases h32 : i < 40
  · exact span_spec tellsMay_32 i (by omega) (by omega)
  exact span_spec tellsMay_40 i (by omega) (by omega)
theorem tellsOver_0 : span tellsOver 8 0 = true := by kernel_rfl
theorem tellsOver_8 : span tellsOver 8 8 = true := by kernel_rfl
theorem tellsOver_16 : span tellsOver 8 16 = true := by kernel_rfl
theorem tellsOver_24 : span tellsOver 8 24 = true := by kernel_rfl
theorem tellsOver_32 : span tellsOver 8 32 = true := by kernel_rfl
theorem tellsOver_40 : span tellsOver 8 40 = true := by kernel_rfl
theorem tellsOver_all (i : Nat) (h : i < 48) : tellsOver i = true := by
  by_cases h0 : i < 8
  · exact span_spec tellsOver_0 i (by omega) (by omega)
  by_cases h8 : i < 16
  · exact span_spec tellsOver_8 i (by omega) (by omega)
  by_cases h16 : i < 24
  · exact span_spec tellsOver_16 i (by omega) (by omega)
  by_cases h24 : i < 32
  · exact span_spec tellsOver_24 i (by omega) (by omega)
  by_cases h32 : i < 40
  · exact span_spec tellsOver_32 i (by omega) (by omega)
  exact span_spec tellsOver_40 i (by omega) (by omega)
theorem tellsNeg_0 : span tellsNeg 8 0 = true := by kernel_rfl
theorem tellsNeg_8 : span tellsNeg 8 8 = true := by kernel_rfl
theorem tellsNeg_16 : span tellsNeg 8 16 = true := by kernel_rfl
theorem tellsNeg_24 : span tellsNeg 8 24 = true := by kernel_rfl
theorem tellsNeg_32 : span tellsNeg 8 32 = true := by kernel_rfl
theorem tellsNeg_40 : span tellsNeg 8 40 = true := by kernel_rfl
theorem tellsNeg_all (i : Nat) (h : i < 48) : tellsNeg i = true := by
  by_cases h0 : i < 8
  · exact span_spec tellsNeg_0 i (by omega) (by omega)
  by_cases h8 : i < 16
  · exact span_spec tellsNeg_8 i (by omega) (by omega)
  by_cases h16 : i < 24
  · exact span_spec tellsNeg_16 i (by omega) (by omega)
  by_cases h24 : i < 32
  · exact span_spec tellsNeg_24 i (by omega) (by omega)
  by_cases h32 : i < 40
  · exact span_spec tellsNeg_32 i (by omega) (by omega)
  exact span_spec tellsNeg_40 i (by omega) (by omega)
theorem tellsGG : tellsRun (.rng .i64 48 9223372036854775807) (.rng .i64 0 9223372036854775807) = true := by kernel_rfl
theorem tellsGN : tellsRun (.rng .i64 48 9223372036854775807) (.neg .i64) = true := by kernel_rfl
theorem tellsNG : tellsRun (.neg .i64) (.rng .i64 0 9223372036854775807) = true := by kernel_rfl
theorem tellsNN : tellsRun (.neg .i64) (.neg .i64) = true := by kernel_rfl
/-- A run tells of the model's call. -/
theorem tells_top {m : Nat} {hm : m < 1000} {x y : AV} {o a : Int} (h : tellsRun x y = true) (hx : x.one = true) (hy : y.one = true) (h1 : @VRel (rhoOf m hm) (fun _ _ => none) x (.int .i64 o)) (h2 : @VRel (rhoOf m hm) (fun _ _ => none) y (.int .i64 a)) (w : World) :
    Calls Try.prog 13 #[.agg #[.int .i64 o, .int .i64 a]] w fun e w' => e = .returned (.bool true) ∧ Below w.heap.size w w' := by
  letI : Rho := rhoOf m hm
  have hl : LRel (fun _ _ => none) [x, y] [Value.int .i64 o, Value.int .i64 a] := LRel.cons h1 (LRel.cons h2 (LRel.nil _))
  have hv : VRel (fun _ _ => none) (.agg [x, y]) (.agg #[.int .i64 o, .int .i64 a]) := vrel_agg_mk hl (by
    intro z hz
    simp only [List.mem_cons, List.not_mem_nil, or_false] at hz
    rcases hz with rfl | rfl
    · exact hx
    · exact hy)
  exact R.top (envP_ok m hm) h (LRel.cons hv (LRel.nil _)) w
theorem int_top {a : Int} (w : (Lit.int .i64 a).wf = true) : a ≤ 9223372036854775807 := by
  simp only [Lit.wf, Bool.and_eq_true, decide_eq_true_eq] at w
  have h2 : IntKind.i64.max = 9223372036854775807 := by decide
  rw [h2] at w
  exact w.2
theorem vNeg (ρ : Rho) (n : Nat) : @VRel ρ (fun _ _ => none) (.neg .i64) (.int .i64 (Int.negSucc n)) := @VRel.neg ρ _ _ _
theorem vInt (ρ : Rho) (n : Int) : @VRel ρ (fun _ _ => none) (.int .i64 n) (.int .i64 n) := @VRel.int ρ _ _ _
theorem vRng (ρ : Rho) {lo hi n : Nat} (h1 : lo ≤ n) (h2 : n ≤ hi) : @VRel ρ (fun _ _ => none) (.rng .i64 lo hi) (.int .i64 (Int.ofNat n)) := @VRel.rng ρ _ _ _ _ _ h1 h2
theorem codeTells (o a : Int) (wo : (Lit.int .i64 o).wf = true) (wa : (Lit.int .i64 a).wf = true) (w : World) :
    Calls Try.prog 13 #[.agg #[.int .i64 o, .int .i64 a]] w fun e w' => e = .returned (.bool true) ∧ Below w.heap.size w w' := by
  have ho := int_top wo
  have ha := int_top wa
  have z : 0 < 1000 := by decide
  cases o with
  | negSucc i =>
    cases a with
    | negSucc n => exact tells_top (m := 0) (hm := z) tellsNN rfl rfl (vNeg _ _) (vNeg _ _) w
    | ofNat n => exact tells_top (m := 0) (hm := z) tellsNG rfl rfl (vNeg _ _) (vRng _ (Nat.zero_le _) (by simp only [Int.ofNat_eq_natCast] at ha; omega)) w
  | ofNat i =>
    have hi : i ≤ 9223372036854775807 := by simp only [Int.ofNat_eq_natCast] at ho; omega
    by_cases h48 : i < 48
    · cases a with
      | negSucc n => exact tells_top (m := 0) (hm := z) (tellsNeg_all i h48) rfl rfl (vInt _ _) (vNeg _ _) w
      | ofNat n =>
        have hn : n ≤ 9223372036854775807 := by simp only [Int.ofNat_eq_natCast] at ha; omega
        have h1 := tellsMay_all i h48
        have h2 := tellsOver_all i h48
        unfold tellsMay at h1
        unfold tellsOver at h2
        cases hb : bit 271643532328905 i with
        | true =>
          rw [hb, cond_true] at h1 h2
          by_cases h0 : n = 0
          · subst h0
            exact tells_top (m := 0) (hm := z) h1 rfl rfl (vInt _ _) (vInt _ _) w
          · exact tells_top (m := 0) (hm := z) h2 rfl rfl (vInt _ _) (vRng _ (by omega) hn) w
        | false =>
          rw [hb, cond_false] at h1 h2
          by_cases h0 : n < 1000
          · have hs : @VRel (rhoOf n h0) (fun _ _ => none) (.sym .i64 0 0 999) (.int .i64 (Int.ofNat n)) := @VRel.sym (rhoOf n h0) (fun _ _ => none) .i64 0 0 999 (Nat.zero_le _) (Nat.le_of_lt_succ h0)
            exact tells_top (m := n) (hm := h0) h1 rfl rfl (vInt _ _) hs w
          · exact tells_top (m := 0) (hm := z) h2 rfl rfl (vInt _ _) (vRng _ (by omega) hn) w
    · cases a with
      | negSucc n => exact tells_top (m := 0) (hm := z) tellsGN rfl rfl (vRng _ (by omega) hi) (vNeg _ _) w
      | ofNat n => exact tells_top (m := 0) (hm := z) tellsGG rfl rfl (vRng _ (by omega) hi) (vRng _ (Nat.zero_le _) (by simp only [Int.ofNat_eq_natCast] at ha; omega)) w
end Go.Proofs.Ytokieeiohfcgdaa.Ae
