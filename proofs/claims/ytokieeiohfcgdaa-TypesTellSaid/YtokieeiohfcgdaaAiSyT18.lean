/-
  A ROW CLONED; NAMES, by the rules.
-/
import Derived.Test.YtokieeiohfcgdaaAiSyT10
import Derived.Test.YtokieeiohfcgdaaAiSyT17
namespace Go.Proofs.Ytokieeiohfcgdaa.Ae
open Go.AE
set_option linter.unusedVariables false
set_option maxRecDepth 100000

theorem append_new {E : Env} {A : AW} {t e : TypeId} {d de : ATy} {z : List AV} {x : AV} {m : Nat} {xs : List AV} (ht : E.tys.get t = some d) (hs : d.desc = .slice e) (he : E.tys.get e = some de) (hz : de.zero = some z)
    (hw : Wf A) (hx : srcA (A.add (.cells 0 false de.size [])) de.size x = some (m, xs)) (hl : xs.length = m * de.size) (h1 : 1 ≤ de.size) (h0 : 0 < m) (hr : roomA (0 + m) de.bytes = true) :
    ∃ v' A1, appendA E t (.slice A.nxt 0 0 0 0 true) x (A.add (.cells 0 false de.size [])) = .val v' A1 ∧ Buf A1 de.size v' m xs ∧ Only A A1 none' ∧ Grow A none' v'.isFam := by
  have o1 : Only A (A.add (.cells 0 false de.size [])) none' := Only.add hw _
  have o2 : Only (A.add (.cells 0 false de.size [])) ((A.add (.cells 0 false de.size [])).add (.cells 0 false de.size xs)) none' := Only.add o1.wf _
  have e0 : Nat.beq m 0 = false := by rw [beq_eq]; exact decide_eq_false (by omega)
  have e1 : Nat.ble 1 de.size = true := Nat.ble_eq_true_of_le h1
  have e2 : Nat.ble (Nat.add 0 m) 0 = false := by
    rw [ble_dec]
    exact decide_eq_false (by show ¬ 0 + m ≤ 0; omega)
  have g3 : (A.add (.cells 0 false de.size [])).heap.get A.nxt = some (.cells 0 false de.size []) := by rw [AW.add_get, if_pos rfl]
  have hr' : roomA (Nat.add 0 m) de.bytes = true := hr
  have e3 : takeN (Nat.mul 0 de.size) (dropN 0 ([] : List AV)) = some [] := by
    rw [show Nat.mul 0 de.size = 0 from Nat.zero_mul _]
    rfl
  refine ⟨.slice (A.add (.cells 0 false de.size [])).nxt 0 0 (Nat.add 0 m) (Nat.add 0 m) false, (A.add (.cells 0 false de.size [])).add (.cells 0 false de.size xs), ?_, .inr ⟨_, 0, by rw [show Nat.add 0 m = m from Nat.zero_add m], by rw [AW.add_get, if_pos rfl], hl, h0⟩, o1.same o2, fun g hg => .inr ?_⟩
  · unfold appendA
    simp only [ht, hs, he, hz, hx, e0, cond_false, e1, cond_true, appendRow, g3, Nat.beq_refl, Bool.and_self, e2, hr', e3]
    rfl
  · cases hg
    exact o1.nxt
theorem names_spec {K : FuncId} {A : AW} {fr fm : Nat} {vn : AV} {hs : Hs} (hw : Wf A) (h : Hi A fr fm vn hs) (h0 : 0 < hs.length) (hn : hs.length ≤ 100) :
    CallP (ES K) 56 [vn] A fun r A1 => Buf A1 1 r hs.length (sts (hs.map Prod.fst)) ∧ Only A A1 none' ∧ Grow A none' r.isFam := by
  have hr := vec_row h.buf
  obtain ⟨f, t, o, c, ex, ro, all, e0, hh, hat⟩ := hr.at h0
  refine call_of rfl rfl rfl ?_
  repeat (first | refine wg_seq ?_ | refine wg_region ?_ | refine wo_nil ?_ | refine wo_move rfl rfl ?_ | refine wo_assign rfl rfl ?_)
  refine wo_binV (a := .slice f t o hs.length c ex) (b := .nils) (v := .bool false) rfl (congrArg some e0) rfl rfl ?_
  repeat refine wo_nil ?_
  refine wg_false rfl ?_
  repeat (first | refine wg_seq ?_ | refine wg_skip ?_ | refine wg_region ?_ | refine wo_move rfl rfl ?_ | refine wo_buildSlice rfl rfl rfl ?_)
  refine wo_append rfl rfl rfl rfl rfl (append_new (de := d9) (m := hs.length) rfl rfl rfl rfl hw ((hr.keep (Only.add hw none') fun _ _ h => h).src) hr.length (by decide) h0 (room_of (by omega) (by decide))) ?_
  rintro r A1 ⟨b1, b2, b3⟩
  repeat (first | refine wo_nil ?_ | refine wo_assign rfl rfl ?_)
  exact wg_ret rfl ⟨b1, b2, b3⟩
end Go.Proofs.Ytokieeiohfcgdaa.Ae
