/-
  A READ THAT IS NOT WANTED, in a drawn region.
-/
import Derived.Test.YtokieeiohfcgdaaAiSyT1
import Derived.Test.YtokieeiohfcgdaaAiSyT15
import Derived.Test.YtokieeiohfcgdaaAiSyT12
namespace Go.Proofs.Ytokieeiohfcgdaa.Ae
open Go.AE
set_option linter.unusedVariables false
set_option maxRecDepth 100000

theorem texts_spec {K : FuncId} {A : AW} {v u : AV} {l : List Str} (h1 : Row A 1 v l.length (sts l)) (h2 : Row A 1 u l.length (sts l)) (hl : l.length < 9223372036854775807) :
    CallP (ES K) 26 [v, u] A fun r A1 => r = .bool true ∧ A1 = A := by
  refine call_of rfl rfl rfl ?_
  repeat (first | refine wg_seq ?_ | refine wg_region ?_ | refine wo_nil ?_ | refine wo_move rfl rfl ?_ | refine wo_assign rfl rfl ?_)
  refine wo_len rfl rfl rfl h1.lenV ?_
  repeat refine wo_move rfl rfl ?_
  refine wo_len rfl rfl rfl h2.lenV ?_
  repeat (first | refine wo_nil ?_ | refine wo_neq rfl rfl rfl ?_)
  refine wg_dec rfl (fun h => absurd rfl h) fun _ => ?_
  repeat (first | refine wg_seq ?_ | refine wg_skip ?_ | refine wg_block ?_ | refine wg_region ?_ | refine wo_nil ?_ | refine wo_assign rfl rfl ?_)
  refine wg_loop ?_
  refine wg_le (.put 0 v (.put 1 u (.put 5 (.int .i64 ((0 : Nat) : Int)) .nil))) ?_ ⟨rfl, rfl, rfl, trivial⟩
  refine wg_ind (ι := Nat) (fun i => l.length - i) (fun i => .put 0 v (.put 1 u (.put 5 (.int .i64 (i : Int)) .nil))) (fun i A1 => A1 = A ∧ i ≤ l.length) ?_ 0 A ⟨rfl, Nat.zero_le _⟩
  rintro i A1 ⟨rfl, hi⟩ ih
  repeat (first | refine wg_seq ?_ | refine wg_region ?_ | refine wo_move rfl rfl ?_)
  refine wo_len rfl rfl rfl h1.lenV ?_
  repeat (first | refine wo_nil ?_ | refine wo_lss rfl rfl rfl ?_)
  refine wg_dec rfl (fun hlt => ?_) fun hge => ?_
  · have hlt : i < l.length := Int.ofNat_lt.1 hlt
    obtain ⟨x, hx⟩ : ∃ x, l[i]? = some x := ⟨l[i], List.getElem?_eq_getElem hlt⟩
    obtain ⟨f, t, o, c, ex, ro, all, e0, hh, _, hat⟩ := row_str h1 hx
    obtain ⟨f', t', o', c', ex', ro', all', e0', hh', _, hat'⟩ := row_str h2 hx
    repeat (first | refine wg_seq ?_ | refine wg_skip ?_ | refine wg_block ?_)
    refine wg_draw rfl ?_
    repeat (first
      | (refine wd_pure rfl rfl rfl rfl rfl ?_
         repeat (first | refine wo_nil ?_ | refine wo_move rfl rfl ?_)
         refine ⟨rfl, ?_⟩))
    refine wd_pure rfl rfl rfl rfl rfl ?_
    refine wo_indexAddr i rfl (congrArg some e0) rfl rfl rfl hlt ?_
    repeat refine wo_nil ?_
    refine ⟨rfl, ?_⟩
    refine wd_read rfl rfl rfl rfl rfl rfl rfl ?_
    refine wo_load rfl rfl rfl rfl hh hat ?_
    repeat refine wo_nil ?_
    refine ⟨rfl, _, rfl, ?_⟩
    repeat (first
      | (refine wd_pure rfl rfl rfl rfl rfl ?_
         repeat (first | refine wo_nil ?_ | refine wo_move rfl rfl ?_)
         refine ⟨rfl, ?_⟩))
    refine wd_pure rfl rfl rfl rfl rfl ?_
    refine wo_indexAddr i rfl (congrArg some e0') rfl rfl rfl hlt ?_
    repeat refine wo_nil ?_
    refine ⟨rfl, ?_⟩
    refine wd_read rfl rfl rfl rfl rfl rfl rfl ?_
    refine wo_load rfl rfl rfl rfl hh' hat' ?_
    repeat refine wo_nil ?_
    refine ⟨rfl, _, rfl, ?_⟩
    repeat (first
      | (refine wd_pure rfl rfl rfl rfl rfl ?_
         repeat (first | refine wo_nil ?_ | refine wo_strNe rfl rfl rfl ?_)
         refine ⟨rfl, ?_⟩))
    refine wd_nil ?_
    refine wg_dec rfl (fun h => absurd rfl h) fun _ => ?_
    repeat (first | refine wg_skip ?_ | refine wg_inBlock ?_ | refine wg_region ?_ | refine wo_move rfl rfl ?_)
    refine wo_add rfl rfl rfl (by omega) (by omega) ?_
    repeat (first | refine wo_nil ?_ | refine wo_assign rfl rfl ?_)
    refine wg_inLoop ?_
    refine wg_le (.put 0 v (.put 1 u (.put 5 (.int .i64 ((i + 1 : Nat) : Int)) .nil))) ?_ ⟨rfl, rfl, rfl, trivial⟩
    exact ih (i + 1) _ (by omega) ⟨rfl, hlt⟩
  · refine wg_exit rfl ?_
    repeat (first | refine wg_seq ?_ | refine wg_region ?_ | refine wo_nil ?_ | refine wo_assign rfl rfl ?_)
    exact wg_ret rfl ⟨rfl, rfl⟩
end Go.Proofs.Ytokieeiohfcgdaa.Ae
namespace Go.Proofs.Ytokieeiohfcgdaa.Ae
open Go.AE
set_option linter.unusedVariables false
set_option maxRecDepth 100000

section
variable {E : Env} {C : FnE} {all : List Oper} {bs order : List Nat} {seen : List Seen} {l : Kn} {A : AW} {K : Kn → AW → Prop} {i b : Nat} {o : Oper}
theorem wd_off (hi : nth all i = some o) (hb : nth bs i = some b) (ha : acts o.op = false) (hm : makes o.op = false) (hg : wantO all l o = some false)
    (h : WO E C all [o] l A fun l1 A1 => A1 = A ∧ WD E C all bs order seen l1 A K) : WD E C all bs (i :: order) seen l A K := ⟨fun F hF => by
  obtain ⟨F1, A1, l1, hF1, ⟨rfl, hk⟩, ho⟩ := h.run F hF
  obtain ⟨n1, ho⟩ := ops_one ho
  obtain ⟨F2, A2, l2, hF2, hk2, n2, hd⟩ := hk.run F1 hF1
  refine ⟨F2, A2, l2, hF2, hk2, n1 + n2, fun n hn => ?_⟩
  have hw := wantO_spec hF hg
  simp only [drawA, hi, hb, ho n (by omega), ha, cond_false, hm, Nat.beq_refl, cond_true, hw]
  exact hd n (by omega)⟩
end
end Go.Proofs.Ytokieeiohfcgdaa.Ae
