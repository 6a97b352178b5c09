/-
  TypesTell: for every input the law returns true, and the input reads as it did.
-/
import Derived.Test.YtokieeiohfcgdaaRows
import Derived.Test.YtokieeiohfcgdaaAiSyT23
import Derived.WalkKit
import Derived.ProofKit
import Derived.OpenShut
import Derived.ShutString
import Derived.ChangeOld
import Derived.Below
import Derived.SizedLaws
import Derived.Lib.SmallJoins
import Derived.ChangeSame
import Derived.Carry
namespace Go.Proofs.Ytokieeiohfcgdaa.typesTell
open Go.ChangeShapes Go.WideShapes Go.ChangeAt Go.RowKit
open Go.ChangeMaps (open_string shut_string)
set_option linter.unusedVariables false
theorem own : ownKnob Try.prog.godebug = none := by kernel_rfl
theorem laidOut : laidOutB Try.prog = true := by kernel_rfl
theorem cells36 : Try.prog.cellsOf 36 = 2 := by kernel_rfl
set_option maxRecDepth 100000 in
theorem lifted (os : Os) (started : os.Started) (H : Type) (enc : TypeId × Value → H) :
    ReturnsInHanded {} Try.checked os 8 .any (Rows.typesTellSpec.pre6 enc Try.prog Try.f8 Rows.typesTellRow.domain false) (Rows.typesTellSpec.post enc Try.prog Try.f8 false true false false) := by
  refine returnsInHanded_of_change_sized (C := Try.checked) own started (by kernel_rfl) Try.func8
    (ChangeSpec.witness6 (enc := enc) (C := Try.checked) false ⟨#[], #[.slice none 0 0, .slice none 0 0, .string ByteArray.empty, .string ByteArray.empty, .agg #[.int .i64 0, .string ByteArray.empty], .agg #[.int .i64 0, .string ByteArray.empty]], []⟩ 8 (by kernel_rfl) (by kernel_rfl) (by kernel_rfl) (by kernel_rfl)) ?_
  intro W base args ds gs before hval0 hW hcnd hsz0 _
  have hsz : (DataW.weightsEach Try.prog (Try.f8.params.toList ++ Rows.typesTellSpec.plain.varTypes Try.prog) (ds ++ gs)).all (· ≤ reachBytes) = true := hsz0
  have hval : ∀ (j : Nat) t v, Try.f8.params[j]? = some t → args[j]? = some v → Value.okWide Try.prog W .any base t v := hval0
  have hW' := hW
  obtain ⟨p, q, hA0, hV, rfl, hfz, hnd⟩ := hW
  have hA : DataW.TrodAll enc Try.prog W 0 (fun _ => true) true Try.f8.params.toList args.toList ds p := hA0
  rw [Try.params8] at hA hval hsz
  obtain ⟨v0, vs0, d0, ds0, p0, q0, hargs, rfl, rfl, h0, r0⟩ := trodAll_cons hA
  obtain ⟨v1, vs1, d1, ds1, p1, q1, rfl, rfl, rfl, h1, r1⟩ := trodAll_cons r0
  obtain ⟨v2, vs2, d2, ds2, p2, q2, rfl, rfl, rfl, h2, r2⟩ := trodAll_cons r1
  obtain ⟨v3, vs3, d3, ds3, p3, q3, rfl, rfl, rfl, h3, r3⟩ := trodAll_cons r2
  obtain ⟨v4, vs4, d4, ds4, p4, q4, rfl, rfl, rfl, h4, r4⟩ := trodAll_cons r3
  obtain ⟨v5, vs5, d5, ds5, p5, q5, rfl, rfl, rfl, h5, r5⟩ := trodAll_cons r4
  obtain ⟨rfl, rfl, rfl⟩ := trodAll_nil r5
  obtain rfl : args = #[v0, v1, v2, v3, v4, v5] := by cases args; simp_all
  obtain ⟨rfl, rfl⟩ := trodVars_none hV
  have k0 := h0
  have lt0 : ∀ x ∈ p0, x.block < W.heap.size := by obtain ⟨m, hm⟩ := k0; exact DataW.trod_lt m _ _ _ hm
  obtain ⟨a0, w0, x0, y0⟩ := Ae.open_strs (okWide_slice Try.underlying23 (hval 0 23 v0 rfl rfl)) h0
  have k1 := h1
  have lt1 : ∀ x ∈ p1, x.block < W.heap.size := by obtain ⟨m, hm⟩ := k1; exact DataW.trod_lt m _ _ _ hm
  obtain ⟨a1, w1, x1, y1⟩ := Ae.open_strs (okWide_slice Try.underlying23 (hval 1 23 v1 rfl rfl)) h1
  obtain ⟨a2, rfl, rfl, rfl, y2⟩ := open_string Try.underlying9 (hval 2 9 v2 rfl rfl) h2
  have w2 : a2.size ≤ 140737488351232 := by
    have z := sized_string hsz (j := 2) (t := 9) rfl rfl
    rw [Array.length_toList] at z
    exact z
  obtain ⟨a3, rfl, rfl, rfl, y3⟩ := open_string Try.underlying9 (hval 3 9 v3 rfl rfl) h3
  have w3 : a3.size ≤ 140737488351232 := by
    have z := sized_string hsz (j := 3) (t := 9) rfl rfl
    rw [Array.length_toList] at z
    exact z
  obtain ⟨c4, e4, y4, z4, m4, rfl, rfl, rfl, hy4, hz4⟩ := Go.Joins.open_agg2 Try.underlying36 (by kernel_rfl) cells36 (hval 4 36 v4 rfl rfl) h4
  obtain ⟨a4, f4, rfl, w4⟩ := DataW.trod_int Try.underlying3 hy4
  obtain ⟨b4, g4, rfl, x4⟩ := DataW.trod_string Try.underlying9 hz4
  simp only [List.cons.injEq, and_true] at f4 g4
  subst f4 g4
  obtain ⟨c5, e5, y5, z5, m5, rfl, rfl, rfl, hy5, hz5⟩ := Go.Joins.open_agg2 Try.underlying36 (by kernel_rfl) cells36 (hval 5 36 v5 rfl rfl) h5
  obtain ⟨a5, f5, rfl, w5⟩ := DataW.trod_int Try.underlying3 hy5
  obtain ⟨b5, g5, rfl, x5⟩ := DataW.trod_string Try.underlying9 hz5
  simp only [List.cons.injEq, and_true] at f5 g5
  subst f5 g5
  clear hA0 hval0 hsz0 hsz
  refine (Ae.typesTell a0 a1 a2 a3 a4 b4 a5 b5 w0 x0 y0 w1 x1 y1 w2 w3 w4 x4 w5 x5 ).mono fun e W' ⟨he, bel⟩ => ?_
  subst he
  exact ⟨_, rfl, _, _, _, [], _, [], hW', trodAll_mk1 (shut_bool Try.underlying4 _), (trodAll_cons_mk (Below.trod laidOut (by kernel_rfl) (of_decide_eq_true (by kernel_rfl)) k0 bel lt0) (trodAll_cons_mk (Below.trod laidOut (by kernel_rfl) (of_decide_eq_true (by kernel_rfl)) k1 bel lt1) (trodAll_cons_mk (shut_string Try.underlying9 y2) (trodAll_cons_mk (shut_string Try.underlying9 y3) (trodAll_cons_mk (Go.Joins.shut_agg2 (y0 := (.lit (.int .i64 a4), [])) (y1 := (.lit (.string b4.data.toList), [])) Try.underlying36 (by kernel_rfl) cells36 ⟨1, trod_int_mk 0 Try.underlying3 w4⟩ ⟨1, Ae.str_mk 0 x4⟩) (trodAll_cons_mk (Go.Joins.shut_agg2 (y0 := (.lit (.int .i64 a5), [])) (y1 := (.lit (.string b5.data.toList), [])) Try.underlying36 (by kernel_rfl) cells36 ⟨1, trod_int_mk 0 Try.underlying3 w5⟩ ⟨1, Ae.str_mk 0 x5⟩) trodAll_mk0)))))), rfl, bel.frame _, fun h => by cases h⟩
theorem over : Rows.typesTellRow.holds Try.pinned (OpenSpec.ofChange Rows.typesTellSpec) :=
  OpenClaim.holds_of_wide 8 Try.f8 rfl rfl rfl rfl rfl rfl rfl ⟨rfl, rfl, rfl, rfl, rfl⟩ rfl rfl rfl rfl rfl (by kernel_rfl) Try.func8 (by kernel_rfl)
    (of_decide_eq_true (by kernel_rfl)) (by unfold Func.isWrapper; first | (rw [if_pos (by decide +kernel)]; kernel_rfl) | (rw [if_neg (by decide +kernel)]; exact ⟨rfl, rfl⟩))
    (fun os started H enc _ => lifted os started H enc)
theorem proved : Rows.TypesTellSaid := over
#print axioms proved
end Go.Proofs.Ytokieeiohfcgdaa.typesTell
namespace Go.Proofs.Ytokieeiohfcgdaa
/-- The row, under a short name, for the claim. -/
theorem typesTell_holds : Rows.TypesTellSaid := typesTell.proved
end Go.Proofs.Ytokieeiohfcgdaa

