/-
  WHAT WAS READ TWICE IS THE SAME, by the rules: the document's Same, class.Same of what is nothing.
  NOTHING IS THE SAME AS NOTHING, by the rules: class.Same of what no file was.
-/
import Derived.Test.YtiecclkgjcnaoaaGreatAiSyE15
import Derived.Test.YtiecclkgjcnaoaaGreatAiSyE10
import Derived.Test.YtiecclkgjcnaoaaGreatAiSyD16
namespace Go.Proofs.YtiecclkgjcnaoaaGreat.Ae
open Go.AE
set_option linter.unusedVariables false
set_option maxRecDepth 100000
theorem avsCo {x : CoT} : valEq (.agg (coc x)) (.agg (coc x)) = true := by
  have h1 : avEq (.int .i64 x.kind) (.int .i64 x.kind) = true := stillInt (k := .i64) (n := x.kind)
  have h2 : avEq (.int .i64 x.int) (.int .i64 x.int) = true := stillInt (k := .i64) (n := x.int)
  have h3 : avEq (.cplx .f64 x.x.1 x.x.2) (.cplx .f64 x.x.1 x.x.2) = true := by
    show (decide (FloatKind.f64 = FloatKind.f64) && Nat.beq x.x.1 x.x.1 && Nat.beq x.x.2 x.x.2) = true
    rw [Nat.beq_refl, Nat.beq_refl]
    rfl
  have h4 : avEq (.str x.cls) (.str x.cls) = true := stillStr (s := x.cls)
  have h5 : avEq (.str x.name) (.str x.name) = true := stillStr (s := x.name)
  show avsEq [.int .i64 x.kind, .int .i64 x.int, .cplx .f64 x.x.1 x.x.2, .str x.cls, .str x.name] [.int .i64 x.kind, .int .i64 x.int, .cplx .f64 x.x.1 x.x.2, .str x.cls, .str x.name] = true
  simp only [avsEq, h1, h2, h3, h4, h5]
  rfl
theorem stillCo {K : FuncId} {C : FnE} {l : Kn} {A : AW} {d : Option Tmp} {t : Tmp} {pos : String} {ty : TypeId} {after : Array Edge} {gd : Option (Nat × Bool)} {f s o es : Nat} {ro : Bool} {cs : List AV} {x : CoT} (hl : l.find t = some (.ptr f s o)) (hf : A.heap.get f = some (.cells s ro es cs)) (hn : takeN 5 (dropN o cs) = some (coc x)) :
    (∀ F, Kf C l F → execA (ES K) F ⟨d, .load 61 (.tmp t), ty, pos, after, gd⟩ A = .val (.agg (coc x)) A) ∧ valEq (.agg (coc x)) (.agg (coc x)) = true := by
  refine ⟨fun F hF => ?_, avsCo⟩
  show liftR (loadA (ES K) 61 (ev F (.tmp t)) A) = _
  rw [hF.ev (x := .tmp t) (v := .ptr f s o) hl, loadN_eq (dt := d61) rfl rfl hf hn]
  rfl
set_option maxHeartbeats 8000000 in
theorem rsame_spec {K : FuncId} {A : AW} {n0 n1 : Nat} {c : ClT} {pv fv mv pu fu mu : AV} (hw : Wf A) (h1 : ClR A n0 c pv fv mv) (h2 : ClR A n1 c pu fu mu) (l1 : c.pool.length < 1000000) (l2 : c.fields.length < 1000000) (l3 : c.methods.length < 1000000)
    (lm : ∀ m ∈ c.methods, m.params.length < 1000000 ∧ m.code.length < 1000000 ∧ m.hands.length < 1000000) :
    CallP (ES K) 8 [.agg (clc c.name c.super pv fv mv), .agg (clc c.name c.super pu fu mu)] A fun r A1 => r = .bool true := by
  refine call_of rfl rfl rfl ?_
  unfold clc
  repeat (first | refine qO ?_ | refine qA ?_)
  refine wo_box rfl rfl rfl rfl ?_
  refine wo_A (fun A1 => Only A A1 none' ∧ A1.heap.get A.nxt = some (.cells 0 false 5 [.str c.name, .str c.super, pv, fv, mv])) ⟨Only.add hw _, by rw [AW.add_get, if_pos rfl]; rfl⟩ ?_
  rintro A1 ⟨o1, hx⟩
  generalize A.nxt = f2 at hx
  refine wo_box rfl rfl rfl rfl ?_
  refine wo_A (fun A2 => Only A1 A2 none' ∧ A2.heap.get A1.nxt = some (.cells 0 false 5 [.str c.name, .str c.super, pu, fu, mu])) ⟨Only.add o1.wf _, by rw [AW.add_get, if_pos rfl]; rfl⟩ ?_
  rintro A2 ⟨o2, hy⟩
  generalize A1.nxt = f3 at hy
  have hx := o2.keep _ _ hx fun h => h
  have o12 := o1.same o2
  have h1 := h1.keep o12
  have h2 := h2.keep o12
  repeat (first | refine qO ?_ | refine qA ?_ | refine qG ?_ | refine qJ rfl rfl ?_ | refine qE rfl rfl ?_ | refine qI rfl rfl rfl ?_ | refine qP rfl rfl rfl rfl (by assumption) rfl ?_ | refine wo_strNe rfl rfl rfl ?_)
  refine xA 15 false rfl (decide_eq_false fun h => h rfl) ?_
  repeat (first | refine qJ rfl rfl ?_ | refine qI rfl rfl rfl ?_ | refine qP rfl rfl rfl rfl (by assumption) rfl ?_ | refine qR rfl rfl rfl ?_ | refine wo_strNe rfl rfl rfl ?_ | refine qX rfl ?_)
  refine xA 22 false rfl (decide_eq_false fun h => h rfl) ?_
  repeat (first | refine qI rfl rfl rfl ?_ | refine qP rfl rfl rfl rfl (by assumption) rfl ?_ | refine qX rfl ?_)
  refine xJ rfl rfl rfl h1.p.row.lenV ?_
  repeat (first | refine qI rfl rfl rfl ?_ | refine qP rfl rfl rfl rfl (by assumption) rfl ?_ | refine qX rfl ?_)
  refine xJ rfl rfl rfl h2.p.row.lenV ?_
  repeat (first | refine qJ rfl rfl ?_ | refine xL rfl rfl rfl ?_ | refine qR rfl rfl rfl ?_ | refine qX rfl ?_)
  refine xA 31 false rfl (decide_eq_false fun h => h rfl) ?_
  repeat (first | refine qI rfl rfl rfl ?_ | refine qP rfl rfl rfl rfl (by assumption) rfl ?_ | refine qX rfl ?_)
  refine xJ rfl rfl rfl h1.f.row.lenV ?_
  repeat (first | refine qI rfl rfl rfl ?_ | refine qP rfl rfl rfl rfl (by assumption) rfl ?_ | refine qX rfl ?_)
  refine xJ rfl rfl rfl h2.f.row.lenV ?_
  repeat (first | refine qJ rfl rfl ?_ | refine xL rfl rfl rfl ?_ | refine qR rfl rfl rfl ?_ | refine qX rfl ?_)
  refine xA 40 false rfl (decide_eq_false fun h => h rfl) ?_
  repeat (first | refine qI rfl rfl rfl ?_ | refine qP rfl rfl rfl rfl (by assumption) rfl ?_ | refine qX rfl ?_)
  obtain ⟨cs, hM, hML⟩ := h1.m
  obtain ⟨cu, hN, hNL⟩ := h2.m
  refine xJ rfl rfl rfl hM.row.lenV ?_
  repeat (first | refine qI rfl rfl rfl ?_ | refine qP rfl rfl rfl rfl (by assumption) rfl ?_ | refine qX rfl ?_)
  refine xJ rfl rfl rfl hN.row.lenV ?_
  repeat (first | refine qG ?_ | refine xL rfl rfl rfl ?_ | refine qR rfl rfl rfl ?_ | refine qX rfl ?_)
  refine qV rfl (fun h => absurd rfl h) fun _ => ?_
  repeat (first | refine qO ?_ | refine qS ?_ | refine qY ?_ | refine qA ?_ | refine qG ?_ | refine qE rfl rfl ?_)
  have hp1 := h1.p
  have hp2 := h2.p
  refine wg_loop ?_
  refine wg_le (.put 2 (.ptr f2 0 0) (.put 3 (.ptr f3 0 0) (.put 5 (.int .i64 ((0 : Nat) : Int)) .nil))) ?_ ⟨rfl, rfl, rfl, trivial⟩
  refine wg_ind (ι := Nat) (fun i => c.pool.length - i) (fun i => .put 2 (.ptr f2 0 0) (.put 3 (.ptr f3 0 0) (.put 5 (.int .i64 (i : Int)) .nil))) (fun i A4 => Only A2 A4 none' ∧ i ≤ c.pool.length) ?_ 0 A2 ⟨Only.refl o12.wf _, Nat.zero_le _⟩
  rintro i A4 ⟨o4, hi⟩ ih
  have gx := o4.keep _ _ hx fun h => h
  have gy := o4.keep _ _ hy fun h => h
  have q1 := h1.p.keep o4 fun _ _ h => h
  have q2 := h2.p.keep o4 fun _ _ h => h
  repeat (first | refine qO ?_ | refine qA ?_ | refine qJ rfl rfl ?_ | refine qI rfl rfl rfl ?_ | refine qP rfl rfl rfl rfl (by assumption) rfl ?_)
  refine xJ rfl rfl rfl q1.row.lenV ?_
  repeat (first | refine qG ?_ | refine xM rfl rfl rfl ?_)
  refine qV rfl (fun hlt => ?_) fun hge => ?_
  · have hlt : i < c.pool.length := Int.ofNat_lt.1 hlt
    obtain ⟨x, hxi⟩ : ∃ x, c.pool[i]? = some x := ⟨c.pool[i], List.getElem?_eq_getElem hlt⟩
    obtain ⟨f, t, o, cc, ex, ro, all, e0, hh0, _, hat⟩ := row_el (cl := coc) (fun _ => rfl) q1.row hxi
    obtain ⟨f', t', o', cc', ex', ro', all', e0', hh0', _, hat'⟩ := row_el (cl := coc) (fun _ => rfl) q2.row hxi
    have nx : takeN 5 (dropN (Nat.add (Nat.add o (Nat.mul i 5)) 0) all) = some (coc x) := (hat 5 0 (Nat.le_refl _)).trans rfl
    have ny : takeN 5 (dropN (Nat.add (Nat.add o' (Nat.mul i 5)) 0) all') = some (coc x) := (hat' 5 0 (Nat.le_refl _)).trans rfl
    have nx' : takeN 5 (dropN (Nat.add o (Nat.mul i d61.size)) all) = some (coc x) := nx
    have ny' : takeN 5 (dropN (Nat.add o' (Nat.mul i d61.size)) all') = some (coc x) := ny
    have hh := hh0
    have hh' := hh0'
    repeat (first | refine qO ?_ | refine qS ?_ | refine qY ?_)
    refine wg_draw rfl ?_
    repeat (first
      | (refine xC rfl rfl rfl rfl rfl ?_
         repeat (first | refine qG ?_ | refine qJ rfl rfl ?_ | refine qI rfl rfl rfl ?_)
         refine ⟨rfl, ?_⟩)
      | (refine xI rfl rfl rfl rfl rfl rfl rfl ?_
         repeat (first | refine qG ?_ | refine qP rfl rfl rfl rfl (by assumption) rfl ?_)
         refine ⟨rfl, _, rfl, ?_⟩))
    refine xC rfl rfl rfl rfl rfl ?_
    refine xF i rfl (congrArg some e0) rfl rfl rfl hlt ?_
    repeat refine qG ?_
    refine ⟨rfl, ?_⟩
    refine xI rfl rfl rfl rfl rfl rfl rfl ?_
    refine xG (vs := coc x) rfl rfl rfl rfl hh nx ?_
    repeat refine qG ?_
    refine ⟨rfl, _, rfl, ?_⟩
    repeat (first
      | (refine xC rfl rfl rfl rfl rfl ?_
         repeat (first | refine qG ?_ | refine qJ rfl rfl ?_ | refine qI rfl rfl rfl ?_)
         refine ⟨rfl, ?_⟩)
      | (refine xI rfl rfl rfl rfl rfl rfl rfl ?_
         repeat (first | refine qG ?_ | refine qP rfl rfl rfl rfl (by assumption) rfl ?_)
         refine ⟨rfl, _, rfl, ?_⟩))
    refine xC rfl rfl rfl rfl rfl ?_
    refine xF i rfl (congrArg some e0') rfl rfl rfl hlt ?_
    repeat refine qG ?_
    refine ⟨rfl, ?_⟩
    refine xI rfl rfl rfl rfl rfl rfl rfl ?_
    refine xG (vs := coc x) rfl rfl rfl rfl hh' ny ?_
    repeat refine qG ?_
    refine ⟨rfl, _, rfl, ?_⟩
    refine wd_make rfl rfl rfl rfl ?_
    refine wo_alloc rfl rfl rfl ?_
    refine wo_A (fun A5 => Only A4 A5 none' ∧ A5.heap.get A4.nxt = some (.cells 0 false 5 [.int .i64 0, .int .i64 0, .cplx .f64 0 0, .str [], .str []])) ⟨Only.add o4.wf _, by rw [AW.add_get, if_pos rfl]; rfl⟩ ?_
    rintro A5 ⟨o5, h6⟩
    have l6 := (o12.same o4).wf
    have s6 := o5.wf _ _ h6
    generalize hf6 : A4.nxt = f6 at h6 s6
    repeat refine qG ?_
    refine wd_make rfl rfl rfl rfl ?_
    refine wo_alloc rfl rfl rfl ?_
    refine wo_A (fun A6 => Only A5 A6 none' ∧ A6.heap.get A5.nxt = some (.cells 0 false 5 [.int .i64 0, .int .i64 0, .cplx .f64 0 0, .str [], .str []])) ⟨Only.add o5.wf _, by rw [AW.add_get, if_pos rfl]; rfl⟩ ?_
    rintro A6 ⟨o6, h7⟩
    have h6 := o6.keep _ _ h6 fun h => h
    have n67 : A5.nxt ≠ f6 := by omega
    have l7 := o5.nxt
    generalize A5.nxt = f7 at h7 n67 l7
    have o46 := o5.same o6
    have gx := o46.keep _ _ gx fun h => h
    have gy := o46.keep _ _ gy fun h => h
    have hh := o46.keep _ _ hh fun h => h
    have hh' := o46.keep _ _ hh' fun h => h
    repeat refine qG ?_
    refine wd_act rfl rfl rfl ?_
    refine qZ rfl rfl rfl rfl rfl rfl h6 rfl ?_
    have opx := Only.put (x := .cells 0 false 5 (coc x)) o46.wf (o46.wf _ _ h6)
    have opo := Only.fresh o4.wf o46 opx fun g hg => by cases hg; omega
    refine wo_A (fun A7 => Only A4 A7 none' ∧ A7.heap.get f6 = some (.cells 0 false 5 (coc x)) ∧ A7.heap.get f7 = some (.cells 0 false 5 [.int .i64 0, .int .i64 0, .cplx .f64 0 0, .str [], .str []])) ⟨opo, by rw [AW.put_get, if_pos rfl]; rfl, opx.keep _ _ h7 n67⟩ ?_
    rintro A7 ⟨o7, h6, h7⟩
    have gx := o7.keep _ _ (o4.keep _ _ hx fun h => h) fun h => h
    have gy := o7.keep _ _ (o4.keep _ _ hy fun h => h) fun h => h
    have hh := o7.keep _ _ hh0 fun h => h
    have hh' := o7.keep _ _ hh0' fun h => h
    have l6' : A4.nxt ≤ f6 := by omega
    have l7' : A4.nxt ≤ f7 := by omega
    repeat refine qG ?_
    refine ⟨?_, ?_⟩
    · repeat (first | exact trivial | refine ⟨.inl (by dsimp only; rfl), ?_⟩ | refine ⟨.inr (stillG rfl rfl rfl (by assumption) (by first | rfl | assumption) (by first | exact stillInt | exact stillStr | exact Full.still (by assumption))), ?_⟩ | refine ⟨.inr (stillCo rfl (by assumption) (by first | rfl | assumption)), ?_⟩)
    refine wd_act rfl rfl rfl ?_
    refine qZ rfl rfl rfl rfl rfl rfl h7 rfl ?_
    have opy := Only.put (x := .cells 0 false 5 (coc x)) o7.wf (o7.wf _ _ h7)
    refine wo_A (fun A8 => Only A4 A8 none' ∧ A8.heap.get f6 = some (.cells 0 false 5 (coc x)) ∧ A8.heap.get f7 = some (.cells 0 false 5 (coc x))) ⟨Only.fresh o4.wf o7 opy fun g hg => by cases hg; exact l7', opy.keep _ _ h6 fun e => n67 e.symm, by rw [AW.put_get, if_pos rfl]; rfl⟩ ?_
    clear h6 h7 gx gy hh hh'
    rintro A8 ⟨o8, h6, h7⟩
    repeat refine qG ?_
    refine ⟨?_, ?_⟩
    · repeat (first | exact trivial | refine ⟨.inl (by dsimp only; rfl), ?_⟩)
    refine wd_nil ?_
    unfold coc at h6 h7
    repeat (first | refine qO ?_ | refine qA ?_ | refine qJ rfl rfl ?_ | refine qI rfl rfl rfl ?_ | refine qP rfl rfl rfl rfl (by assumption) rfl ?_ | refine xL rfl rfl rfl ?_)
    refine xA 71 false rfl (decide_eq_false fun h => h rfl) ?_
    repeat (first | refine qJ rfl rfl ?_ | refine qI rfl rfl rfl ?_ | refine qP rfl rfl rfl rfl (by assumption) rfl ?_ | refine xL rfl rfl rfl ?_ | refine qR rfl rfl rfl ?_ | refine qX rfl ?_)
    refine xA 78 false rfl (decide_eq_false fun h => h rfl) ?_
    repeat (first | refine qJ rfl rfl ?_ | refine qI rfl rfl rfl ?_ | refine qP rfl rfl rfl rfl (by assumption) rfl ?_ | refine qR rfl rfl rfl ?_ | refine wo_strNe rfl rfl rfl ?_ | refine qX rfl ?_)
    refine xA 85 false rfl (decide_eq_false fun h => h rfl) ?_
    repeat (first | refine qJ rfl rfl ?_ | refine qI rfl rfl rfl ?_ | refine qP rfl rfl rfl rfl (by assumption) rfl ?_ | refine qR rfl rfl rfl ?_ | refine wo_strNe rfl rfl rfl ?_ | refine qX rfl ?_)
    refine xA 92 false rfl (decide_eq_false fun h => h rfl) ?_
    repeat (first | refine qI rfl rfl rfl ?_ | refine qP rfl rfl rfl rfl (by assumption) rfl ?_ | refine qX rfl ?_)
    refine qU rfl rfl orc_cons rfl csame_spec ?_
    rintro r A9 ⟨rfl, e9⟩
    obtain rfl : A8 = A9 := e9.symm
    repeat (first | refine qG ?_ | refine wo_not rfl rfl ?_ | refine qR rfl rfl rfl ?_ | refine qX rfl ?_)
    refine wg_false rfl ?_
    repeat (first | refine qS ?_ | refine xB ?_ | refine qA ?_ | refine qJ rfl rfl ?_)
    refine wo_add rfl rfl rfl (by omega) (by omega) ?_
    repeat (first | refine qG ?_ | refine qE rfl rfl ?_)
    refine xN ?_
    refine wg_le (.put 2 (.ptr f2 0 0) (.put 3 (.ptr f3 0 0) (.put 5 (.int .i64 ((i + 1 : Nat) : Int)) .nil))) ?_ ⟨rfl, rfl, rfl, trivial⟩
    exact ih (i + 1) A8 (by omega) ⟨o4.same o8, hlt⟩
  clear ih
  refine wg_exit rfl ?_
  have o14 := o12.same o4
  have h1 := h1.keep o4
  have h2 := h2.keep o4
  have hx := gx
  have hy := gy
  obtain ⟨cs, hM, hML⟩ := h1.m
  obtain ⟨cu, hN, hNL⟩ := h2.m
  repeat (first | refine qO ?_ | refine qY ?_ | refine qA ?_ | refine qG ?_ | refine qE rfl rfl ?_)
  refine wg_loop ?_
  refine wg_le (.put 2 (.ptr f2 0 0) (.put 3 (.ptr f3 0 0) (.put 8 (.int .i64 ((0 : Nat) : Int)) .nil))) ?_ ⟨rfl, rfl, rfl, trivial⟩
  refine wg_ind (ι := Nat) (fun i => c.fields.length - i) (fun i => .put 2 (.ptr f2 0 0) (.put 3 (.ptr f3 0 0) (.put 8 (.int .i64 (i : Int)) .nil))) (fun i A5 => A5 = A4 ∧ i ≤ c.fields.length) ?_ 0 A4 ⟨rfl, Nat.zero_le _⟩
  rintro i A5 ⟨e5, hi⟩ ih
  obtain rfl : A4 = A5 := e5.symm
  repeat (first | refine qO ?_ | refine qA ?_ | refine qJ rfl rfl ?_ | refine qI rfl rfl rfl ?_ | refine qP rfl rfl rfl rfl (by assumption) rfl ?_)
  refine xJ rfl rfl rfl h1.f.row.lenV ?_
  repeat (first | refine qG ?_ | refine xM rfl rfl rfl ?_)
  refine qV rfl (fun hlt => ?_) fun hge => ?_
  · have hlt : i < c.fields.length := Int.ofNat_lt.1 hlt
    obtain ⟨x, hxi⟩ : ∃ x, c.fields[i]? = some x := ⟨c.fields[i], List.getElem?_eq_getElem hlt⟩
    obtain ⟨f, t, o, cc, ex, ro, all, e0, hh, _, hat⟩ := row_el (cl := fic) (fun _ => rfl) h1.f.row hxi
    obtain ⟨f', t', o', cc', ex', ro', all', e0', hh', _, hat'⟩ := row_el (cl := fic) (fun _ => rfl) h2.f.row hxi
    have nx : takeN 4 (dropN (Nat.add (Nat.add o (Nat.mul i 4)) 0) all) = some (fic x) := (hat 4 0 (Nat.le_refl _)).trans rfl
    have ny : takeN 4 (dropN (Nat.add (Nat.add o' (Nat.mul i 4)) 0) all') = some (fic x) := (hat' 4 0 (Nat.le_refl _)).trans rfl
    repeat (first | refine qO ?_ | refine qS ?_ | refine qY ?_)
    refine wg_draw rfl ?_
    repeat (first
      | (refine xC rfl rfl rfl rfl rfl ?_
         repeat (first | refine qG ?_ | refine qJ rfl rfl ?_ | refine qI rfl rfl rfl ?_)
         refine ⟨rfl, ?_⟩)
      | (refine xI rfl rfl rfl rfl rfl rfl rfl ?_
         repeat (first | refine qG ?_ | refine qP rfl rfl rfl rfl (by assumption) rfl ?_)
         refine ⟨rfl, _, rfl, ?_⟩))
    refine xC rfl rfl rfl rfl rfl ?_
    refine xF i rfl (congrArg some e0) rfl rfl rfl hlt ?_
    repeat refine qG ?_
    refine ⟨rfl, ?_⟩
    refine xI rfl rfl rfl rfl rfl rfl rfl ?_
    refine xG (vs := fic x) rfl rfl rfl rfl hh nx ?_
    repeat refine qG ?_
    refine ⟨rfl, _, rfl, ?_⟩
    repeat (first
      | (refine xC rfl rfl rfl rfl rfl ?_
         repeat (first | refine qG ?_ | refine qJ rfl rfl ?_ | refine qI rfl rfl rfl ?_)
         refine ⟨rfl, ?_⟩)
      | (refine xI rfl rfl rfl rfl rfl rfl rfl ?_
         repeat (first | refine qG ?_ | refine qP rfl rfl rfl rfl (by assumption) rfl ?_)
         refine ⟨rfl, _, rfl, ?_⟩))
    refine xC rfl rfl rfl rfl rfl ?_
    refine xF i rfl (congrArg some e0') rfl rfl rfl hlt ?_
    repeat refine qG ?_
    refine ⟨rfl, ?_⟩
    refine xI rfl rfl rfl rfl rfl rfl rfl ?_
    refine xG (vs := fic x) rfl rfl rfl rfl hh' ny ?_
    repeat refine qG ?_
    refine ⟨rfl, _, rfl, ?_⟩
    refine xC rfl rfl rfl rfl rfl ?_
    refine wo_binV rfl rfl rfl fiNe1 ?_
    repeat refine qG ?_
    refine ⟨rfl, wd_nil ?_⟩
    refine wg_false rfl ?_
    repeat (first | refine qS ?_ | refine xB ?_ | refine qA ?_ | refine qJ rfl rfl ?_)
    refine wo_add rfl rfl rfl (by omega) (by omega) ?_
    repeat (first | refine qG ?_ | refine qE rfl rfl ?_)
    refine xN ?_
    refine wg_le (.put 2 (.ptr f2 0 0) (.put 3 (.ptr f3 0 0) (.put 8 (.int .i64 ((i + 1 : Nat) : Int)) .nil))) ?_ ⟨rfl, rfl, rfl, trivial⟩
    exact ih (i + 1) A4 (by omega) ⟨rfl, hlt⟩
  clear ih
  refine wg_exit rfl ?_
  repeat (first | refine qO ?_ | refine qY ?_ | refine qA ?_ | refine qG ?_ | refine qE rfl rfl ?_)
  refine wg_loop ?_
  refine wg_le (.put 2 (.ptr f2 0 0) (.put 3 (.ptr f3 0 0) (.put 9 (.int .i64 ((0 : Nat) : Int)) .nil))) ?_ ⟨rfl, rfl, rfl, trivial⟩
  refine wg_ind (ι := Nat) (fun i => c.methods.length - i) (fun i => .put 2 (.ptr f2 0 0) (.put 3 (.ptr f3 0 0) (.put 9 (.int .i64 (i : Int)) .nil))) (fun i A5 => Only A4 A5 none' ∧ i ≤ c.methods.length) ?_ 0 A4 ⟨Only.refl o14.wf _, Nat.zero_le _⟩
  rintro i A5 ⟨o5, hi⟩ ih
  have gx := o5.keep _ _ hx fun h => h
  have gy := o5.keep _ _ hy fun h => h
  have hM := hM.keep o5 fun _ _ h => h
  have hN := hN.keep o5 fun _ _ h => h
  have hML := hML.keep o5 fun _ h => h.elim
  have hNL := hNL.keep o5 fun _ h => h.elim
  repeat (first | refine qO ?_ | refine qA ?_ | refine qJ rfl rfl ?_ | refine qI rfl rfl rfl ?_ | refine qP rfl rfl rfl rfl (by assumption) rfl ?_)
  refine xJ rfl rfl rfl hM.row.lenV ?_
  repeat (first | refine qG ?_ | refine xM rfl rfl rfl ?_)
  refine qV rfl (fun hlt => ?_) fun hge => ?_
  · have hlt : i < c.methods.length := Int.ofNat_lt.1 hlt
    obtain ⟨x, hxi⟩ : ∃ x, c.methods[i]? = some x := ⟨c.methods[i], List.getElem?_eq_getElem hlt⟩
    obtain ⟨qv, cv, hv, hmr, hel⟩ := meL_at hML hxi
    obtain ⟨qu, cw, hu, hmu, hel'⟩ := meL_at hNL hxi
    obtain ⟨f, t, o, cc, ex, ro, all, e0, hh, hat⟩ := hM.row.at hlt
    obtain ⟨f', t', o', cc', ex', ro', all', e0', hh', hat'⟩ := hN.row.at hlt
    have nx : takeN 8 (dropN (Nat.add (Nat.add o (Nat.mul i 8)) 0) all) = some (mec x qv cv hv) := (hat 8 0 (Nat.le_refl _)).trans ((hel 8 0 (Nat.le_refl _)).trans rfl)
    have ny : takeN 8 (dropN (Nat.add (Nat.add o' (Nat.mul i 8)) 0) all') = some (mec x qu cw hu) := (hat' 8 0 (Nat.le_refl _)).trans ((hel' 8 0 (Nat.le_refl _)).trans rfl)
    obtain ⟨b1, b2, b3⟩ := lm x (List.mem_of_getElem? hxi)
    repeat (first | refine qO ?_ | refine qS ?_ | refine qY ?_)
    refine wg_draw rfl ?_
    repeat (first
      | (refine xC rfl rfl rfl rfl rfl ?_
         repeat (first | refine qG ?_ | refine qJ rfl rfl ?_ | refine qI rfl rfl rfl ?_)
         refine ⟨rfl, ?_⟩)
      | (refine xI rfl rfl rfl rfl rfl rfl rfl ?_
         repeat (first | refine qG ?_ | refine qP rfl rfl rfl rfl (by assumption) rfl ?_)
         refine ⟨rfl, _, rfl, ?_⟩))
    refine xC rfl rfl rfl rfl rfl ?_
    refine xF i rfl (congrArg some e0) rfl rfl rfl hlt ?_
    repeat refine qG ?_
    refine ⟨rfl, ?_⟩
    refine xI rfl rfl rfl rfl rfl rfl rfl ?_
    refine xG (vs := mec x qv cv hv) rfl rfl rfl rfl hh nx ?_
    repeat refine qG ?_
    refine ⟨rfl, _, rfl, ?_⟩
    repeat (first
      | (refine xC rfl rfl rfl rfl rfl ?_
         repeat (first | refine qG ?_ | refine qJ rfl rfl ?_ | refine qI rfl rfl rfl ?_)
         refine ⟨rfl, ?_⟩)
      | (refine xI rfl rfl rfl rfl rfl rfl rfl ?_
         repeat (first | refine qG ?_ | refine qP rfl rfl rfl rfl (by assumption) rfl ?_)
         refine ⟨rfl, _, rfl, ?_⟩))
    refine xC rfl rfl rfl rfl rfl ?_
    refine xF i rfl (congrArg some e0') rfl rfl rfl hlt ?_
    repeat refine qG ?_
    refine ⟨rfl, ?_⟩
    refine xI rfl rfl rfl rfl rfl rfl rfl ?_
    refine xG (vs := mec x qu cw hu) rfl rfl rfl rfl hh' ny ?_
    repeat refine qG ?_
    refine ⟨rfl, _, rfl, ?_⟩
    refine wd_act rfl rfl rfl ?_
    refine qU rfl rfl orc_cons rfl (rmethods_spec (m := x) (o14.same o5).wf hmr hmu b1 b2 b3) ?_
    rintro r A6 ⟨rfl, o6⟩
    repeat refine qG ?_
    refine ⟨?_, ?_⟩
    · repeat (first | exact trivial | refine ⟨.inl (by dsimp only; rfl), ?_⟩)
    repeat (first
      | (refine xC rfl rfl rfl rfl rfl ?_
         repeat (first | refine qG ?_ | refine wo_not rfl rfl ?_)
         refine ⟨rfl, ?_⟩))
    refine wd_nil ?_
    refine wg_false rfl ?_
    repeat (first | refine qS ?_ | refine xB ?_ | refine qA ?_ | refine qJ rfl rfl ?_)
    refine wo_add rfl rfl rfl (by omega) (by omega) ?_
    repeat (first | refine qG ?_ | refine qE rfl rfl ?_)
    refine xN ?_
    refine wg_le (.put 2 (.ptr f2 0 0) (.put 3 (.ptr f3 0 0) (.put 9 (.int .i64 ((i + 1 : Nat) : Int)) .nil))) ?_ ⟨rfl, rfl, rfl, trivial⟩
    exact ih (i + 1) A6 (by omega) ⟨o5.same o6, hlt⟩
  clear ih
  refine wg_exit rfl ?_
  repeat (first | refine qO ?_ | refine qA ?_ | refine qG ?_ | refine qE rfl rfl ?_)
  exact qQ rfl rfl
end Go.Proofs.YtiecclkgjcnaoaaGreat.Ae
namespace Go.Proofs.YtiecclkgjcnaoaaGreat.Ae
open Go.AE
set_option linter.unusedVariables false
set_option maxRecDepth 100000
theorem eqF37_spec {K : FuncId} {A : AW} {f : AV} : CallP (ES K) 37 [.nils, .nils, f] A fun r A1 => r = .bool true ∧ A1 = A := by
  refine call_of rfl rfl rfl ?_
  repeat (first | refine qO ?_ | refine qS ?_ | refine qY ?_ | refine qA ?_ | refine qG ?_ | refine qJ rfl rfl ?_ | refine qE rfl rfl ?_ | refine xL rfl rfl rfl ?_ | refine xJ rfl rfl rfl rfl ?_ | refine wg_false rfl ?_)
  refine wg_loop ?_
  repeat (first | refine qO ?_ | refine qA ?_ | refine qG ?_ | refine xM rfl rfl rfl ?_ | refine wg_false rfl ?_)
  refine wg_exit rfl ?_
  repeat (first | refine qO ?_ | refine qA ?_ | refine qG ?_ | refine qE rfl rfl ?_)
  exact qQ rfl ⟨rfl, rfl⟩
theorem eqF38_spec {K : FuncId} {A : AW} : CallP (ES K) 38 [.nils, .nils] A fun r A1 => r = .bool true ∧ A1 = A := by
  refine call_of rfl rfl rfl ?_
  repeat (first | refine qO ?_ | refine qS ?_ | refine qY ?_ | refine qA ?_ | refine qG ?_ | refine qJ rfl rfl ?_ | refine qE rfl rfl ?_ | refine xL rfl rfl rfl ?_ | refine xJ rfl rfl rfl rfl ?_ | refine wg_false rfl ?_)
  refine wg_loop ?_
  repeat (first | refine qO ?_ | refine qA ?_ | refine qG ?_ | refine xM rfl rfl rfl ?_ | refine wg_false rfl ?_)
  refine wg_exit rfl ?_
  repeat (first | refine qO ?_ | refine qA ?_ | refine qG ?_ | refine qE rfl rfl ?_)
  exact qQ rfl ⟨rfl, rfl⟩
theorem eqF39_spec {K : FuncId} {A : AW} {f : AV} : CallP (ES K) 39 [.nils, .nils, f] A fun r A1 => r = .bool true ∧ A1 = A := by
  refine call_of rfl rfl rfl ?_
  repeat (first | refine qO ?_ | refine qS ?_ | refine qY ?_ | refine qA ?_ | refine qG ?_ | refine qJ rfl rfl ?_ | refine qE rfl rfl ?_ | refine xL rfl rfl rfl ?_ | refine xJ rfl rfl rfl rfl ?_ | refine wg_false rfl ?_)
  refine wg_loop ?_
  repeat (first | refine qO ?_ | refine qA ?_ | refine qG ?_ | refine xM rfl rfl rfl ?_ | refine wg_false rfl ?_)
  refine wg_exit rfl ?_
  repeat (first | refine qO ?_ | refine qA ?_ | refine qG ?_ | refine qE rfl rfl ?_)
  exact qQ rfl ⟨rfl, rfl⟩
theorem csameZ_spec {K : FuncId} {A : AW} (hw : Wf A) : CallP (ES K) 7 [.agg (clc [] [] .nils .nils .nils), .agg (clc [] [] .nils .nils .nils)] A fun r A1 => r = .bool true := by
  refine call_of rfl rfl rfl ?_
  unfold clc
  repeat (first | refine qO ?_ | refine qA ?_)
  refine wo_box rfl rfl rfl rfl ?_
  refine wo_A (fun A1 => Only A A1 none' ∧ A1.heap.get A.nxt = some (.cells 0 false 5 [.str [], .str [], .nils, .nils, .nils])) ⟨Only.add hw _, by rw [AW.add_get, if_pos rfl]; rfl⟩ ?_
  rintro A1 ⟨o1, hx⟩
  generalize A.nxt = f2 at hx
  refine wo_box rfl rfl rfl rfl ?_
  refine wo_A (fun A2 => Only A1 A2 none' ∧ A2.heap.get A1.nxt = some (.cells 0 false 5 [.str [], .str [], .nils, .nils, .nils])) ⟨Only.add o1.wf _, by rw [AW.add_get, if_pos rfl]; rfl⟩ ?_
  rintro A2 ⟨o2, hy⟩
  generalize A1.nxt = f3 at hy
  have hx := o2.keep _ _ hx fun h => h
  repeat (first | refine qO ?_ | refine qA ?_ | refine qG ?_ | refine qJ rfl rfl ?_ | refine qE rfl rfl ?_ | refine qI rfl rfl rfl ?_ | refine qP rfl rfl rfl rfl (by assumption) rfl ?_ | refine qR rfl rfl rfl ?_ | refine wo_strEq rfl rfl rfl ?_ | refine qX rfl ?_)
  refine qU rfl rfl orc_cons rfl eqF37_spec ?_
  rintro r A3 ⟨rfl, e3⟩
  obtain rfl : A2 = A3 := e3.symm
  repeat (first | refine qJ rfl rfl ?_ | refine qI rfl rfl rfl ?_ | refine qP rfl rfl rfl rfl (by assumption) rfl ?_ | refine qR rfl rfl rfl ?_ | refine qX rfl ?_)
  refine qU rfl rfl orc_cons rfl eqF38_spec ?_
  rintro r A3 ⟨rfl, e3⟩
  obtain rfl : A2 = A3 := e3.symm
  repeat (first | refine qJ rfl rfl ?_ | refine qI rfl rfl rfl ?_ | refine qP rfl rfl rfl rfl (by assumption) rfl ?_ | refine qR rfl rfl rfl ?_ | refine qX rfl ?_)
  refine qU rfl rfl orc_cons rfl eqF39_spec ?_
  rintro r A3 ⟨rfl, e3⟩
  obtain rfl : A2 = A3 := e3.symm
  repeat (first | refine qG ?_ | refine qE rfl rfl ?_ | refine qR rfl rfl rfl ?_)
  exact qQ rfl rfl
end Go.Proofs.YtiecclkgjcnaoaaGreat.Ae
