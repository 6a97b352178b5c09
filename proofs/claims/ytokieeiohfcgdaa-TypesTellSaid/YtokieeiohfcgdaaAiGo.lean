/-
  WHAT THE EVALUATOR RUNS THE MODEL RUNS: code, calls.
-/
import Derived.Test.YtokieeiohfcgdaaAiRun
namespace Go.AE
set_option linter.unusedVariables false
variable [Rho]

/-- Regions that draw their order (AeDraw.lean proves it). -/
def DrawHyp (E : Env) (base : Nat) : Prop :=
  ∀ (call : FuncId → List AV → AW → Out), CallOk E base call → ∀ (N id : Nat) (ops : Array Oper) (order bs : List Nat) (F F' : Fr) (A A' : AW) (μ : Mp) (w : World) (a : Act) (Q : Exit → Act → World → Prop),
    drawOk ops order bs = true → drawA E call N ops.toList bs order [] F A = .ok F' A' → Rel base μ A w → FRel μ N F a →
    (∀ a' w' μ', a'.defers = a.defers → Step base μ A w μ' A' w' → FRel μ' N F' a' → Q .normal a' w') → (Code.region id ops true).wp E.P Q a w

section
variable {E : Env} {base : Nat}

/-- All code that is still to come is as it must be. -/
def TodoOk (ds : List (Nat × (List Nat × List Nat))) : List Item → Prop
  | [] => True
  | .code c :: k => codeOk ds c = true ∧ TodoOk ds k
  | .inLoop c :: k => codeOk ds c = true ∧ TodoOk ds k
  | .inScope c :: k => codeOk ds c = true ∧ TodoOk ds k
  | _ :: k => TodoOk ds k

omit [Rho] in
theorem TodoOk.tail {ds : List (Nat × (List Nat × List Nat))} {i : Item} {k : List Item} (h : TodoOk ds (i :: k)) : TodoOk ds k := by
  cases i <;> first | exact h.2 | exact h

omit [Rho] in
theorem exitTo_ok {ds : List (Nat × (List Nat × List Nat))} {id : Nat} : ∀ {k k' : List Item}, exitTo id k = some k' → TodoOk ds k → TodoOk ds k'
  | [], _, h, _ => by cases h
  | i :: k, k', h, hk => by
    cases i with
    | inBlock j =>
      simp only [exitTo] at h
      split at h
      · cases h; exact hk.tail
      · exact exitTo_ok h hk.tail
    | _ => exact exitTo_ok (by simpa [exitTo] using h) hk.tail

omit [Rho] in
theorem findLabel_ok {ds : List (Nat × (List Nat × List Nat))} {l : Nat} : ∀ {c r : Code}, findLabel c l = some r → codeOk ds c = true → codeOk ds r = true
  | .seq a b, r, h, hc => by
    simp only [codeOk, Bool.and_eq_true] at hc
    simp only [findLabel] at h
    split at h
    · rename_i x hx
      cases h
      simp only [codeOk, Bool.and_eq_true]
      exact ⟨findLabel_ok hx hc.1, hc.2⟩
    · exact findLabel_ok h hc.2
  | .label m, r, h, hc => by
    simp only [findLabel] at h
    split at h
    · cases h; rfl
    · cases h
  | .skip, r, h, _ => by simp [findLabel] at h
  | .region .., r, h, _ => by simp [findLabel] at h
  | .cond .., r, h, _ => by simp [findLabel] at h
  | .block .., r, h, _ => by simp [findLabel] at h
  | .loop _, r, h, _ => by simp [findLabel] at h
  | .rangeFunc .., r, h, _ => by simp [findLabel] at h
  | .exit _, r, h, _ => by simp [findLabel] at h
  | .scope _, r, h, _ => by simp [findLabel] at h
  | .goto _, r, h, _ => by simp [findLabel] at h
  | .ret, r, h, _ => by simp [findLabel] at h
  | .refuse _, r, h, _ => by simp [findLabel] at h

omit [Rho] in
theorem gotoIn_ok {ds : List (Nat × (List Nat × List Nat))} {l : Nat} : ∀ {k k' : List Item}, gotoIn l k = some k' → TodoOk ds k → TodoOk ds k'
  | [], _, h, _ => by cases h
  | i :: k, k', h, hk => by
    cases i with
    | inScope c =>
      simp only [gotoIn] at h
      split at h
      · rename_i r hr
        cases h
        exact ⟨findLabel_ok hr hk.1, hk.1, hk.2⟩
      · exact gotoIn_ok h hk.tail
    | _ => exact gotoIn_ok (by simpa [gotoIn] using h) hk.tail

omit [Rho] in
theorem argsIn_get : ∀ (l : List AV) (i : Nat) (F : Fr) (t : Nat), (argsIn l i F).get t = if i ≤ t ∧ t < i + l.length then l[t - i]? else F.get t
  | [], i, F, t => by simp [argsIn]; intro h1 h2; omega
  | v :: l, i, F, t => by
    simp only [argsIn]
    rw [argsIn_get l (Nat.succ i) _ t, Fr.get_set]
    by_cases e : t = i
    · subst e
      rw [if_neg (by omega), if_pos rfl, if_pos (by simp)]
      simp
    · by_cases c : Nat.succ i ≤ t ∧ t < Nat.succ i + l.length
      · rw [if_pos c, if_pos (by simp; omega)]
        have : t - i = (t - Nat.succ i) + 1 := by omega
        rw [this]
        simp
      · rw [if_neg c, if_neg e, if_neg (by simp; omega)]

omit [Rho] in
theorem frameOf_get {mask : Nat} {args : List AV} {t : Nat} {v : AV} (h : (frameOf mask args).get t = some v) : args[t]? = some v := by
  unfold frameOf at h
  rw [argsIn_get] at h
  split at h
  · simpa using h
  · unfold Fr.get at h
    cases hb : bit mask t
    · simp [hb, Fr.find] at h
    · simp [hb, Tr.get] at h

/-- One result. -/
def resOne (tmps : Array Value) : ResultVar → Sem Value
  | .tmp t => pure (tmps.getD t undef)
  | .cell a t => do loadVar t (← asAddr (tmps.getD a undef))

/-- The results, as one value. -/
def resAll : List Value → Value
  | [v] => v
  | l => .tuple l.toArray

theorem resultsOf_sound {μ : Mp} {A : AW} {w : World} (hE : EnvOk E) (h : Rel base μ A w) {N : Nat} {F : Fr} {a : Act} (hF : FRel μ N F a) : ∀ (rs : List ResultVar) (vs : List AV), resultsOf E F A rs = some vs →
    ∃ cvs : List Value, (rs.mapM (m := Sem) (resOne a.tmps)).run E.P w = .ok cvs w ∧ LRel μ vs cvs
  | [], vs, hl => by
    simp only [resultsOf, Option.some.injEq] at hl
    subst hl
    exact ⟨[], rfl, LRel.nil μ⟩
  | r :: rs, vs, hl => by
    simp only [resultsOf] at hl
    split at hl
    · rename_i v l hv hl2
      cases hl
      obtain ⟨cvs, h1, h2⟩ := resultsOf_sound hE h hF rs l hl2
      have key : ∃ cv, (resOne a.tmps r).run E.P w = .ok cv w ∧ VRel μ v cv := by
        cases r with
        | tmp t =>
          simp only [resultOne] at hv
          refine ⟨_, rfl, ?_⟩
          split at hv
          · rename_i x hx
            cases hv
            exact hF.2 t v hx
          · cases hv
            exact .undef _
        | cell p t =>
          simp only [resultOne] at hv
          split at hv
          · rename_i x hx
            split at hv
            · rename_i x' A2 hld
              cases hv
              have hr := hF.2 p x hx
              obtain ⟨_, cv, q1, q2⟩ := load_sound hE.ty h hld hr
              refine ⟨cv, ?_, q2⟩
              have : ∃ ad, a.tmps.getD p undef = .pointer (some ad) := by
                generalize a.tmps.getD p undef = q at hr
                unfold loadA at hld
                split at hld
                · cases hr; exact ⟨_, rfl⟩
                · cases hld
              obtain ⟨ad, hq⟩ := this
              simp only [resOne, hq]
              rw [hq] at q1
              exact q1
            · cases hv
          · cases hv
      obtain ⟨cv, k1, k2⟩ := key
      refine ⟨cv :: cvs, ?_, LRel.cons k2 h2⟩
      rw [List.mapM_cons, Sem.run_bind, k1]
      simp only [Result.andThen_ok, Sem.run_bind, h1, Sem.run_pure]
    · cases hl

omit [Rho] in
theorem results_run {P : Program} {fn : Func} {tmps : Array Value} {w : World} {cvs : List Value} (h : (fn.results.toList.mapM (m := Sem) (resOne tmps)).run P w = .ok cvs w) : (results fn tmps).run P w = .ok (resAll cvs) w := by
  have e : results fn tmps = (do
      let vs ← fn.results.mapM (m := Sem) (resOne tmps)
      pure (if h : vs.size = 1 then vs[0] else .tuple vs)) := by
    unfold results
    congr 1
  rw [e, Sem.run_bind, Array.mapM_eq_mapM_toList, Sem.run_map, h]
  simp only [Result.andThen_ok, Sem.run_pure]
  congr 1
  match cvs with
  | [] => rfl
  | [v] => rfl
  | a :: b :: l => rfl

theorem resAll_rel {μ : Mp} {vs : List AV} {cvs : List Value} (h : LRel μ vs cvs) : VRel μ (match vs with
    | [v] => v
    | vs => .tuple vs) (resAll cvs) := by
  match vs, cvs, h with
  | [], cvs, h => have := h.inv_nil; subst this; exact vrel_tuple_mk (LRel.nil μ)
  | [v], cvs, h =>
    obtain ⟨y, ys, rfl, h1, h2⟩ := h.inv
    have := h2.inv_nil
    subst this
    exact h1
  | a :: b :: l, cvs, h =>
    obtain ⟨y, ys, rfl, h1, h2⟩ := h.inv
    obtain ⟨z, zs, rfl, h3, h4⟩ := h2.inv
    exact vrel_tuple_mk h

/-- A call, once the run of its body is known. -/
theorem call_of_go (hE : EnvOk E) {n : Nat} (hgo : ∀ (C : FnE) (todo : List Item) (F F' : Fr) (A A' : AW) (μ : Mp) (w : World) (b : Frame) (a : Act) (cs : List Frame),
    go E n C todo F A = .ret F' A' → TodoOk C.draws todo → Rel base μ A w → FRel μ C.N F a →
    ∃ a' w' μ' todo', Steps E.P (lone (b.at a todo) cs w) (lone { b.at a' todo' with mode := .returning } cs w') ∧ a'.defers = a.defers ∧ Step base μ A w μ' A' w' ∧ FRel μ' C.N F' a') :
    CallOk E base (fun f args A => bodyOf E f args A (go E n)) := by
  intro f args A v A' μ w cargs hl h ha cs
  simp only [bodyOf] at hl
  split at hl
  · rename_i e he
    obtain ⟨f1, f2, f3⟩ := hE.fn f e he
    split at hl
    · rename_i c hc
      cases hb : Nat.ble (len args) e.N <;> rw [hb] at hl <;> simp only [cond_true, cond_false, reduceCtorEq] at hl
      unfold outOf at hl
      split at hl
      · rename_i F A1 hrun
        let b : Frame := { (default : Frame) with fn := f, kind := .normal }
        have henter : Frame.enter E.P f cargs .normal = b.at { tmps := cargs ++ Array.replicate (e.fn.ntmps - cargs.size) undef, defers := [] } [.code c] := by
          simp [Frame.enter, Frame.at, f1, hc, b]
        have hF : FRel μ e.N (frameOf e.mask args) { tmps := cargs ++ Array.replicate (e.fn.ntmps - cargs.size) undef, defers := [] } := by
          refine ⟨by simp [f2]; omega, fun t v hv => ?_⟩
          have := frameOf_get hv
          obtain ⟨y, hy, hr⟩ := ha.get this
          have hlt : t < cargs.toList.length := by rcases Nat.lt_or_ge t cargs.toList.length with h | h; exact h; rw [List.getElem?_eq_none h] at hy; cases hy
          have e1 : (cargs ++ Array.replicate (e.fn.ntmps - cargs.size) undef).getD t undef = y := by
            rw [Array.getD_eq_getD_getElem?, Array.getElem?_append_left (by simpa using hlt), ← Array.getElem?_toList, hy]
            rfl
          rw [e1]
          exact hr
        obtain ⟨a', w', μ', todo', q1, q2, q3, q4⟩ := hgo e [.code c] (frameOf e.mask args) F A A1 μ w b _ cs hrun ⟨hE.code f e c he hc, trivial⟩ h hF
        rw [← henter] at q1
        split at hl
        · rename_i v0 hres
          cases hl
          obtain ⟨cvs, r1, r2⟩ := resultsOf_sound hE q3.rel q4 _ _ hres
          have := resAll_rel r2
          exact ⟨.returned (resAll cvs), w', _, ⟨resAll cvs, μ', rfl, this, q3⟩, q1, rfl, rfl, q2, rfl, e.fn, f1, results_run r1⟩
        · rename_i vs hne hres
          cases hl
          obtain ⟨cvs, r1, r2⟩ := resultsOf_sound hE q3.rel q4 _ _ hres
          have hv : VRel μ' (.tuple vs) (resAll cvs) := by
            have := resAll_rel r2
            split at this
            · exact absurd rfl (hne _)
            · exact this
          exact ⟨.returned (resAll cvs), w', _, ⟨resAll cvs, μ', rfl, hv, q3⟩, q1, rfl, rfl, q2, rfl, e.fn, f1, results_run r1⟩
        · cases hl
      · cases hl
    · cases hl
  · cases hl

/-- **THE RUN.** -/
theorem go_sound (hE : EnvOk E) (hD : DrawHyp E base) : ∀ (n : Nat) (C : FnE) (todo : List Item) (F F' : Fr) (A A' : AW) (μ : Mp) (w : World) (b : Frame) (a : Act) (cs : List Frame),
    go E n C todo F A = .ret F' A' → TodoOk C.draws todo → Rel base μ A w → FRel μ C.N F a →
    ∃ a' w' μ' todo', Steps E.P (lone (b.at a todo) cs w) (lone { b.at a' todo' with mode := .returning } cs w') ∧ a'.defers = a.defers ∧ Step base μ A w μ' A' w' ∧ FRel μ' C.N F' a'
  | 0, C, todo, F, F', A, A', μ, w, b, a, cs, hl, ht, h, hF => by simp [go] at hl
  | n + 1, C, todo, F, F', A, A', μ, w, b, a, cs, hl, ht, h, hF => by
    -- one step of the machine, then the rest
    have one : ∀ {todo1 : List Item}, step E.P (lone (b.at a todo) cs w) = .next (lone (b.at a todo1) cs w) → go E n C todo1 F A = .ret F' A' → TodoOk C.draws todo1 →
        ∃ a' w' μ' todo', Steps E.P (lone (b.at a todo) cs w) (lone { b.at a' todo' with mode := .returning } cs w') ∧ a'.defers = a.defers ∧ Step base μ A w μ' A' w' ∧ FRel μ' C.N F' a' := fun hs hg ht1 => by
      obtain ⟨a', w', μ', todo', q1, q2⟩ := go_sound hE hD n C _ F F' A A' μ w b a cs hg ht1 h hF
      exact ⟨a', w', μ', todo', .head hs q1, q2⟩
    match todo, hl, ht with
    | [], hl, ht =>
      simp only [go, Res.ret.injEq] at hl
      obtain ⟨rfl, rfl⟩ := hl
      exact ⟨a, w, μ, [], .one step_end, rfl, Step.refl h, hF⟩
    | .inBlock id :: k, hl, ht => exact one step_inBlock (by simpa only [go] using hl) ht
    | .inScope c :: k, hl, ht => exact one step_inScope (by simpa only [go] using hl) ht.2
    | .inLoop c :: k, hl, ht => exact one step_inLoop (by simpa only [go] using hl) ⟨ht.1, ht⟩
    | .inRegion .. :: k, hl, ht => simp [go] at hl
    | .inRangeFunc _ :: k, hl, ht => simp [go] at hl
    | .endRangeFunc _ :: k, hl, ht => simp [go] at hl
    | .beginRound :: k, hl, ht => simp [go] at hl
    | .call .. :: k, hl, ht => simp [go] at hl
    | .extern .. :: k, hl, ht => simp [go] at hl
    | .code c :: k, hl, ht =>
      obtain ⟨hc, hk⟩ := ht
      match c, hl, hc with
      | .skip, hl, hc => exact one step_skip (by simpa only [go] using hl) hk
      | .label l, hl, hc => exact one step_label (by simpa only [go] using hl) hk
      | .ret, hl, hc =>
        simp only [go, Res.ret.injEq] at hl
        obtain ⟨rfl, rfl⟩ := hl
        exact ⟨a, w, μ, _, .one step_ret, rfl, Step.refl h, hF⟩
      | .seq x y, hl, hc =>
        simp only [codeOk, Bool.and_eq_true] at hc
        exact one step_seq (by simpa only [go] using hl) ⟨hc.1, hc.2, hk⟩
      | .cond x y z, hl, hc =>
        simp only [codeOk, Bool.and_eq_true] at hc
        have hx := hF.ev x
        simp only [go] at hl
        split at hl
        · rename_i heq
          rw [heq] at hx
          have hcv : a.eval x = .bool true := by generalize a.eval x = q at hx; cases hx; rfl
          exact one (step_cond hcv) hl ⟨hc.1, hk⟩
        · rename_i heq
          rw [heq] at hx
          have hcv : a.eval x = .bool false := by generalize a.eval x = q at hx; cases hx; rfl
          exact one (step_cond hcv) hl ⟨hc.2, hk⟩
        · cases hl
      | .block id x, hl, hc => exact one step_block (by simpa only [go] using hl) ⟨hc, hk⟩
      | .loop x, hl, hc => exact one step_loop (by simpa only [go] using hl) ⟨hc, hc, hk⟩
      | .scope x, hl, hc => exact one step_scope (by simpa only [go] using hl) ⟨hc, hc, hk⟩
      | .exit id, hl, hc =>
        simp only [go] at hl
        split at hl
        · rename_i k' hk'
          exact one (step_exit hk') hl (exitTo_ok hk' hk)
        · cases hl
      | .goto l, hl, hc =>
        simp only [go] at hl
        split at hl
        · rename_i k' hk'
          exact one (step_goto hk') hl (gotoIn_ok hk' hk)
        · cases hl
      | .region id ops draw, hl, hc =>
        simp only [go] at hl
        split at hl
        · rename_i F1 A1 hreg
          have hC := call_of_go hE (fun C todo F F' A A' μ w b a cs => go_sound hE hD n C todo F F' A A' μ w b a cs)
          have hwp : (Code.region id ops draw).wp E.P (fun e a' w' => e = .normal ∧ a'.defers = a.defers ∧ ∃ μ', Step base μ A w μ' A1 w' ∧ FRel μ' C.N F1 a') a w := by
            unfold regA at hreg
            cases draw with
            | false =>
              simp only [cond_false] at hreg
              exact region_sound hE hC hreg h hF fun a' w' μ' h1 h2 h3 => ⟨rfl, h1, μ', h2, h3⟩
            | true =>
              simp only [cond_true] at hreg
              simp only [codeOk] at hc
              split at hreg
              · rename_i order bs hd
                rw [hd] at hc
                exact hD _ hC C.N id ops order bs F F1 A A1 μ w a _ hc hreg h hF fun a' w' μ' h1 h2 h3 => ⟨rfl, h1, μ', h2, h3⟩
              · cases hreg
          obtain ⟨e, a1, w1, ⟨rfl, hd1, μ1, hst, hF1⟩, harr⟩ := hwp b k cs
          obtain ⟨a', w', μ', todo', q1, q2, q3, q4⟩ := go_sound hE hD n C k F1.clear F' A1 A' μ1 w1 b a1 cs hl hk hst.rel hF1.clear
          exact ⟨a', w', μ', todo', Steps.trans harr q1, q2.trans hd1, hst.trans q3, q4⟩
        · cases hl
      | .rangeFunc .., hl, hc => simp [go] at hl
      | .refuse _, hl, hc => simp [go] at hl

/-- **CALLS.** -/
theorem call_sound (hE : EnvOk E) (hD : DrawHyp E base) (n : Nat) : CallOk E base (call E n) :=
  call_of_go hE (go_sound hE hD n)

end
end Go.AE
