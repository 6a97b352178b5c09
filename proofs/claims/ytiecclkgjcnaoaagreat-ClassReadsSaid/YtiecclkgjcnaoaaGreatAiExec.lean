/-
  ONE OPERATION, WHATEVER IT IS: the evaluator's answer is the model's.
-/
import Derived.Test.YtiecclkgjcnaoaaGreatAiOps6
namespace Go.AE
set_option linter.unusedVariables false
variable [Rho]
structure EnvOk (E : Env) : Prop where
  ty : TysOk E
  fn : ∀ f e, E.fns.get f = some e → E.P.funcs[f]? = some e.fn ∧ e.N = e.fn.ntmps ∧ e.fn.name ≠ "runtime.NumGoroutine"
  code : ∀ f e c, E.fns.get f = some e → e.fn.body = some c → codeOk e.draws c = true
  mixed : E.P.follows .mixedOrders = true
  ext1 : ∀ f e, E.fns.get f = some e → e.fn.body = none → (e.fn.name == "math.Float64bits") = true → ∀ b w, (callFunc f #[.float .f64 b]).run E.P w = .ok (.value (.int .u64 b)) w
  ext2 : ∀ f e, E.fns.get f = some e → e.fn.body = none → (e.fn.name == "math.Float64frombits") = true → ∀ (n : Nat) w, (callFunc f #[.int .u64 n]).run E.P w = .ok (.value (.float .f64 n)) w
  orc : ∀ f args v l, E.orc f args = some (v, l) → (∃ e c, E.fns.get f = some e ∧ e.fn.body = some c) ∧ ∀ base μ A w (cargs : Array Value), Rel base μ A w → LRel μ args cargs.toList →
    Calls E.P f cargs w fun e w' => ∃ cv μ', e = .returned cv ∧ VRel μ' (shift2 A.nxt v) cv ∧ Step base μ A w μ' (addFams A.nxt l A) w'
section
variable {E : Env} {base : Nat} {μ : Mp} {A : AW} {w : World}
omit [Rho] in
theorem value_run {P : Program} {w w' : World} {s : Sem Value} {cv : Value} (h : s.run P w = .ok cv w') : ((do pure (Next.value (← s)) : Sem Next)).run P w = .ok (.value cv) w' := by
  rw [Sem.run_bind, h]; rfl
omit [Rho] in
theorem skip_run {P : Program} {w w' : World} {s : Sem Unit} (h : s.run P w = .ok () w') : ((do s; pure Next.skip : Sem Next)).run P w = .ok .skip w' := by
  rw [Sem.run_bind, h]; rfl
omit [Rho] in
theorem wp_value {o : Oper} {a : Act} {K : Act → World → Prop} {Q : Exit → Act → World → Prop} {w w' : World} {P : Program} {cv : Value} (h : (execOp a.eval o).run P w = .ok (.value cv) w') (hK : K (a.put o.dst cv) w') : o.wp P a w K Q := by
  unfold Oper.wp
  rw [h]
  exact hK
omit [Rho] in
theorem wp_skipv {o : Oper} {a : Act} {K : Act → World → Prop} {Q : Exit → Act → World → Prop} {w w' : World} {P : Program} (h : (execOp a.eval o).run P w = .ok .skip w') (hK : K (a.put o.dst undef) w') : o.wp P a w K Q := by
  unfold Oper.wp
  rw [h]
  exact hK
omit [Rho] in
theorem wp_enter {o : Oper} {a : Act} {K : Act → World → Prop} {Q : Exit → Act → World → Prop} {w : World} {P : Program} {f : FuncId} {args : Array Value} (h : (execOp a.eval o).run P w = .ok (.enter f args) w)
    (hK : Calls P f args w fun e w' => ∃ cv, e = .returned cv ∧ K (a.put o.dst cv) w') : o.wp P a w K Q := by
  unfold Oper.wp
  rw [h]
  exact hK.mono fun e w' ⟨cv, he, hk⟩ => by subst he; exact hk
theorem min2_sound {x y z : AV} {cx cy : Value} (h : min2 x y = some z) (hx : VRel μ x cx) (hy : VRel μ y cy) (w : World) : ∃ cz, (Builtin.min2 cx cy).run E.P w = .ok cz w ∧ VRel μ z cz := by
  unfold min2 at h
  split at h
  · cases hx; cases hy; cases h
    rw [ilt_eq]
    refine ⟨_, rfl, ?_⟩
    rename_i k a k' b
    by_cases hb : b < a <;> simp [hb] <;> exact .int _ _
  · cases h
theorem max2_sound {x y z : AV} {cx cy : Value} (h : max2 x y = some z) (hx : VRel μ x cx) (hy : VRel μ y cy) (w : World) : ∃ cz, (Builtin.max2 cx cy).run E.P w = .ok cz w ∧ VRel μ z cz := by
  unfold max2 at h
  split at h
  · cases hx; cases hy; cases h
    rw [ilt_eq]
    refine ⟨_, rfl, ?_⟩
    rename_i k a k' b
    by_cases hb : a < b <;> simp [hb] <;> exact .int _ _
  · cases h
theorem fold_sound {g : AV → AV → Option AV} {cg : Value → Value → Sem Value} (hg : ∀ x y z cx cy, g x y = some z → VRel μ x cx → VRel μ y cy → ∃ cz, (cg cx cy).run E.P w = .ok cz w ∧ VRel μ z cz) :
    ∀ (l : List AV) (cl : List Value) (x z : AV) (cx : Value), foldA g x l = some z → VRel μ x cx → LRel μ l cl → ∃ cz, (cl.foldlM cg cx).run E.P w = .ok cz w ∧ VRel μ z cz
  | [], cl, x, z, cx, h, hx, hl => by
    simp only [foldA, Option.some.injEq] at h
    subst h
    have := hl.inv_nil
    subst this
    exact ⟨cx, rfl, hx⟩
  | y :: l, cl, x, z, cx, h, hx, hl => by
    obtain ⟨cy, cl, rfl, h1, h2⟩ := hl.inv
    simp only [foldA] at h
    split at h
    · rename_i t ht
      obtain ⟨ct, a, b⟩ := hg x y t cx cy ht hx h1
      obtain ⟨cz, c, d⟩ := fold_sound hg l cl t z ct h b h2
      exact ⟨cz, by rw [List.foldlM_cons, Sem.run_bind, a]; exact c, d⟩
    · cases h
theorem builtin_sound (hE : EnvOk E) (h : Rel base μ A w) {b : Builtin} {ts : Array TypeId} {args : List AV} {cargs : Array Value} {ty : TypeId} {cs : Array Bool} {v : AV} {A' : AW} (hl : builtinA E b ts.toList args A = .val v A') (ha : LRel μ args cargs.toList) :
    ∃ s : Sem Value, Go.builtin b ts ty cs cargs = (do pure (.value (← s))) ∧ Ans E base μ A w s v A' := by
  unfold builtinA at hl
  split at hl
  · split at hl
    · rename_i t tl x l hts
      obtain ⟨cx, cl, e2, r1, r2⟩ := ha.inv
      exact ⟨_, rfl, len_sound hE.ty h hl r1 ts ty cargs (by rw [← Array.getElem?_toList, hts]; rfl) (by rw [← Array.getElem?_toList, e2]; rfl)⟩
    · cases hl
  · split at hl
    · rename_i t t' s x hts
      split at hl
      · rename_i d hd
        have e1 : ts = #[t, t'] := Array.ext' (by rw [hts])
        subst e1
        obtain ⟨cs', cl, e2, r1, r2⟩ := ha.inv
        obtain ⟨cx, cl', e3, r3, r4⟩ := r2.inv
        have e4 := r4.inv_nil
        subst e4
        subst e3
        have e5 : cargs = #[cs', cx] := Array.ext' e2
        subst e5
        split at hl
        · rename_i e hdd
          exact ⟨_, rfl, append_sound hE.ty h hl hd (.inl ⟨e, hdd⟩) r1 r3⟩
        · rename_i hdd
          exact ⟨_, rfl, append_sound hE.ty h hl hd (.inr hdd) r1 r3⟩
        · cases hl
      · cases hl
    · cases hl
  · split at hl
    · rename_i k a k' b'
      obtain ⟨c1, cl, e2, r1, r2⟩ := ha.inv
      obtain ⟨c2, cl', e3, r3, r4⟩ := r2.inv
      have e4 := r4.inv_nil
      subst e4
      subst e3
      have e5 : cargs = #[c1, c2] := Array.ext' e2
      subst e5
      cases r1; cases r3
      by_cases hk : k = k'
      · subst hk
        simp only [decide_true, cond_true] at hl
        cases hl
        refine ⟨_, rfl, Ans.same h (cv := .complex k a b') ?_ (.cplx _ _ _)⟩
        have e6 : Builtin.complex_ ts ty #[.float k a, .float k b'] = if k = k then pure (.complex k a b') else stuck "complex: parts of different kinds" := rfl
        rw [e6, if_pos rfl]
        rfl
      · simp [hk] at hl
    · cases hl
  · split at hl
    · obtain ⟨c1, cl, e2, r1, r2⟩ := ha.inv
      have e4 := r2.inv_nil
      subst e4
      have e5 : cargs = #[c1] := Array.ext' e2
      subst e5
      cases r1
      cases hl
      exact ⟨_, rfl, Ans.same h rfl (.float _ _)⟩
    · cases hl
  · split at hl
    · obtain ⟨c1, cl, e2, r1, r2⟩ := ha.inv
      have e4 := r2.inv_nil
      subst e4
      have e5 : cargs = #[c1] := Array.ext' e2
      subst e5
      cases r1
      cases hl
      exact ⟨_, rfl, Ans.same h rfl (.float _ _)⟩
    · cases hl
  · split at hl
    · rename_i x l
      split at hl
      · rename_i z hz
        cases hl
        obtain ⟨c1, cl, e2, r1, r2⟩ := ha.inv
        obtain ⟨cz, a, b⟩ := fold_sound (cg := Builtin.min2) (fun x y z cx cy h1 h2 h3 => min2_sound (E := E) h1 h2 h3 w) l cl x _ c1 hz r1 r2
        refine ⟨_, rfl, Ans.same h (cv := cz) ?_ b⟩
        unfold Builtin.min_
        rw [e2]
        exact a
      · cases hl
    · cases hl
  · split at hl
    · rename_i x l
      split at hl
      · rename_i z hz
        cases hl
        obtain ⟨c1, cl, e2, r1, r2⟩ := ha.inv
        obtain ⟨cz, a, b⟩ := fold_sound (cg := Builtin.max2) (fun x y z cx cy h1 h2 h3 => max2_sound (E := E) h1 h2 h3 w) l cl x _ c1 hz r1 r2
        refine ⟨_, rfl, Ans.same h (cv := cz) ?_ b⟩
        unfold Builtin.max_
        rw [e2]
        exact a
      · cases hl
    · cases hl
  · cases hl
theorem optA_rel {F : Fr} {ρ : Operand → Value} (hρ : ∀ x, VRel μ (ev F x) (ρ x)) (x : Option Operand) : ORel μ (optA F x) (x.map ρ) := by
  cases x with
  | none => trivial
  | some x => exact hρ x
omit [Rho] in
theorem call_run {P : Program} {w : World} {f : FuncId} {fn : Func} (hf : P.funcs[f]? = some fn) (hn : fn.name ≠ "runtime.NumGoroutine") (hb : ∃ c, fn.body = some c) (args : Array Value) : (callFunc f args).run P w = .ok (.enter f args) w := by
  obtain ⟨c, hc⟩ := hb
  unfold callFunc
  rw [Sem.run_bind, run_program]
  simp only [Result.andThen_ok, hf]
  have : (fn.name == "runtime.NumGoroutine") = false := by simpa using hn
  simp [this, hc]
omit [Rho] in
theorem liftR_val {r : OpR} {v : AV} {A : AW} (h : liftR r = .val v A) : r = .val v A := by
  cases r <;> simp [liftR] at h ⊢ <;> exact h
omit [Rho] in
theorem liftR_enter {r : OpR} {f : FuncId} {args : List AV} (h : liftR r = .enter f args) : False := by
  cases r <;> simp [liftR] at h
theorem enterA_wp (hE : EnvOk E) (h : Rel base μ A w) {o : Oper} {a : Act} {f : FuncId} {args : List AV} {cargs : Array Value} {v : AV} {A' : AW} (hl : enterA E f args A = .val v A') (ha : LRel μ args cargs.toList)
    (hx : (execOp a.eval o).run E.P w = (callFunc f cargs).run E.P w) {K : Act → World → Prop} {Q : Exit → Act → World → Prop} (hK : ∀ cv w' μ', VRel μ' v cv → Step base μ A w μ' A' w' → K (a.put o.dst cv) w') : o.wp E.P a w K Q := by
  unfold enterA at hl
  split at hl
  · rename_i v0 l horc
    cases hl
    obtain ⟨⟨e, c, he, hc⟩, hcalls⟩ := hE.orc f args v0 l horc
    obtain ⟨f1, _, f3⟩ := hE.fn f e he
    refine wp_enter (hx.trans (call_run f1 f3 ⟨c, hc⟩ cargs)) ((hcalls base μ A w cargs h ha).mono ?_)
    rintro e' w' ⟨cv, μ', rfl, h1, h2⟩
    exact ⟨cv, rfl, hK cv w' μ' h1 h2⟩
  · split at hl
    · rename_i e he
      split at hl
      · cases hl
      · rename_i hb
        replace hl := liftR_val hl
        unfold externA at hl
        rw [he] at hl
        simp only at hl
        cases hn : (e.fn.name == "math.Float64bits") <;> rw [hn] at hl <;> simp only [cond_true, cond_false] at hl
        · cases hn2 : (e.fn.name == "math.Float64frombits") <;> rw [hn2] at hl <;> simp only [cond_true, cond_false, reduceCtorEq] at hl
          split at hl
          · cases hl
            obtain ⟨c1, cl, e2, r1, r2⟩ := ha.inv
            have e4 := r2.inv_nil
            subst e4
            have e5 : cargs = #[c1] := Array.ext' e2
            subst e5
            cases r1
            exact wp_value (hx.trans (hE.ext2 f e he hb hn2 _ w)) (hK _ _ _ (.float _ _) (Step.refl h))
          · cases hl
        · split at hl
          · cases hl
            obtain ⟨c1, cl, e2, r1, r2⟩ := ha.inv
            have e4 := r2.inv_nil
            subst e4
            have e5 : cargs = #[c1] := Array.ext' e2
            subst e5
            cases r1
            exact wp_value (hx.trans (hE.ext1 f e he hb hn _ w)) (hK _ _ _ (.int _ _) (Step.refl h))
          · cases hl
    · cases hl
theorem enterA_enter (hE : EnvOk E) {f f' : FuncId} {args args' : List AV} (hl : enterA E f args A = .enter f' args') : f' = f ∧ args' = args ∧ ∃ e c, E.fns.get f = some e ∧ e.fn.body = some c := by
  unfold enterA at hl
  split at hl
  · cases hl
  · split at hl
    · rename_i e he
      split at hl
      · rename_i c hc
        cases hl
        exact ⟨rfl, rfl, e, c, he, hc⟩
      · exact (liftR_enter hl).elim
    · cases hl
omit [Rho] in
theorem call_exec {o : Oper} {c : Call} {x : Operand} (ho : o.op = .call c) (hc : c.callee = .value x) {ρ : Operand → Value} {f : FuncId} {fi ca : Array Value} (hρ : ρ x = .func (.func f) fi ca) {P : Program} {w : World} :
    (execOp ρ o).run P w = (callFunc f (fi ++ c.args.map ρ ++ ca)).run P w := by
  simp only [execOp, ho, resolve, hc, hρ, Deferred.ofValue]
  rfl
theorem func_args {f : FuncId} {xs ys : List AV} {cv : Value} (h : VRel μ (.func f xs ys) cv) : ∃ us vs : Array Value, cv = .func (.func f) us vs ∧ LRel μ xs us.toList ∧ LRel μ ys vs.toList := by
  cases h with
  | func _ l1 h1 l2 h2 => exact ⟨_, _, rfl, ⟨by simpa using l1, h1⟩, ⟨by simpa using l2, h2⟩⟩
theorem execV_wp (hE : EnvOk E) (h : Rel base μ A w) {o : Oper} {F : Fr} {v : AV} {A' : AW} (hl : execV E F o A = .val v A') {a : Act} (hF : ∀ x, VRel μ (ev F x) (a.eval x)) {K : Act → World → Prop} {Q : Exit → Act → World → Prop}
    (hK : ∀ cv w' μ', VRel μ' v cv → Step base μ A w μ' A' w' → K (a.put o.dst cv) w') : o.wp E.P a w K Q := by
  have ans : ∀ {s : Sem Value}, execOp a.eval o = (do pure (.value (← s))) → Ans E base μ A w s v A' → o.wp E.P a w K Q := fun {s} he ⟨cv, w', μ', h1, h2, h3⟩ =>
    wp_value (by rw [he]; exact value_run h1) (hK cv w' μ' h2 h3)
  have unit : ∀ {s : Sem Unit}, execOp a.eval o = (do s; pure .skip) → (v = .undef ∧ ∃ w' μ', s.run E.P w = .ok () w' ∧ Step base μ A w μ' A' w') → o.wp E.P a w K Q := fun {s} he ⟨hv, w', μ', h1, h3⟩ =>
    wp_skipv (by rw [he]; exact skip_run h1) (hK undef w' μ' (by rw [hv]; exact .undef _) h3)
  have pureV : ∀ {cv : Value}, execOp a.eval o = pure (.value cv) → A' = A → VRel μ v cv → o.wp E.P a w K Q := fun {cv} he hA hv =>
    wp_value (by rw [he]; rfl) (hK cv w μ hv (by rw [hA]; exact Step.refl h))
  unfold execV at hl
  split at hl
  · rename_i x ho
    cases hl
    exact pureV (by simp only [execOp, ho]) rfl (hF x)
  · rename_i x ho
    cases hl
    exact pureV (by simp only [execOp, ho]) rfl (hF x)
  · rename_i c x y ho
    have hc := hF c
    split at hl
    · rename_i heq
      cases hl
      rw [heq] at hc
      have hcv : a.eval c = .bool true := by generalize a.eval c = q at hc; cases hc; rfl
      exact wp_value (cv := a.eval x) (by simp only [execOp, ho, hcv]; rfl) (hK _ _ _ (hF x) (Step.refl h))
    · rename_i heq
      cases hl
      rw [heq] at hc
      have hcv : a.eval c = .bool false := by generalize a.eval c = q at hc; cases hc; rfl
      exact wp_value (cv := a.eval y) (by simp only [execOp, ho, hcv]; rfl) (hK _ _ _ (hF y) (Step.refl h))
    · cases hl
  · rename_i t ho
    split at hl
    · rename_i d hd
      split at hl
      · rename_i z hz
        cases hl
        exact ans (by simp only [execOp, ho]) (alloc_sound hE.ty h hd hz)
      · cases hl
    · cases hl
  · rename_i t x ho
    split at hl
    · rename_i d cs hd hc
      cases hl
      exact ans (by simp only [execOp, ho]) (box_sound (t := t) hE.ty h (hF x) hc)
    · cases hl
  · rename_i t ps ho
    exact ans (by simp only [execOp, ho]) (build_sound hE.ty h (qs := ps.map fun (i, x) => (i, a.eval x)) hl (by rw [Array.toList_map]; exact partsA_rel hF ps.toList))
  · rename_i t n ps ho
    exact ans (by simp only [execOp, ho]) (buildSlice_sound hE.ty h (qs := ps.map fun (i, x) => (i, a.eval x)) hl (by rw [Array.toList_map]; exact partsA_rel hF ps.toList))
  · rename_i t x ho
    obtain ⟨rfl, cv, h1, h2⟩ := load_sound hE.ty h hl (hF x)
    exact ans (by simp only [execOp, ho]) (Ans.same h h1 h2)
  · rename_i t x y ho
    exact unit (by simp only [execOp, ho]) (store_sound hE.ty h hl (hF x) (hF y))
  · rename_i x ho
    have hx := hF x
    split at hl
    · rename_i f u n heq
      cases hl
      rw [heq] at hx
      refine pureV (cv := a.eval x) ?_ rfl hx
      simp only [execOp, ho]
      generalize a.eval x = q at hx
      cases hx
      rfl
    · rename_i f u n heq
      cases hl
      rw [heq] at hx
      refine pureV (cv := a.eval x) ?_ rfl hx
      simp only [execOp, ho]
      generalize a.eval x = q at hx
      cases hx
      rfl
    · cases hl
  · rename_i op t x y z ho
    exact ans (by simp only [execOp, ho]) (binA_sound hE.ty h x y hl (hF x) (hF y))
  · rename_i op t x ho
    exact ans (by simp only [execOp, ho]) (unA_sound h hl (hF x))
  · rename_i t u x ho
    exact ans (by simp only [execOp, ho]) (convert_sound hE.ty h hl (hF x))
  · rename_i f xs ys ho
    cases hl
    refine ans (s := Instr.makeFunc (.func f) (xs.map a.eval) (ys.map a.eval)) (by simp only [execOp, ho]) (Ans.same h rfl ?_)
    obtain ⟨l1, h1⟩ := evs_rel hF xs.toList
    obtain ⟨l2, h2⟩ := evs_rel hF ys.toList
    exact .func f (by simpa using l1) (by simpa using h1) (by simpa using l2) (by simpa using h2)
  · rename_i t ho
    cases hl
    exact ans (s := Instr.makeMap t none) (by simp only [execOp, ho, Option.map_none]) (makeMap_sound h t)
  · rename_i t l c ho
    exact ans (by simp only [execOp, ho]) (makeSlice_sound hE.ty h hl (hF l) (hF c))
  · rename_i t x lo hi mx ho
    exact ans (by simp only [execOp, ho]) (slice_sound hE.ty h hl (hF x) (optA_rel hF lo) (optA_rel hF hi) (optA_rel hF mx))
  · rename_i t x i ho
    exact ans (by simp only [execOp, ho]) (fieldAddr_sound hE.ty h hl (hF x))
  · rename_i t x i ho
    exact ans (by simp only [execOp, ho]) (field_sound hE.ty h hl (hF x))
  · rename_i t x i ho
    exact ans (by simp only [execOp, ho]) (indexAddr_sound hE.ty h hl (hF x) (hF i))
  · rename_i t x i ho
    exact ans (by simp only [execOp, ho]) (index_sound hE.ty h hl (hF x) (hF i))
  · rename_i t x i ok ho
    exact ans (by simp only [execOp, ho]) (lookup_sound hE.ty h hl (hF x) (hF i))
  · rename_i t m k x ho
    exact unit (by simp only [execOp, ho]) (mapUpdate_sound hE.ty h hl (hF m) (hF k) (hF x))
  · rename_i t m k x ho
    exact unit (by simp only [execOp, ho]) (mapUpdate_sound hE.ty h hl (hF m) (hF k) (hF x))
  · rename_i x i ho
    have hx := hF x
    split at hl
    · rename_i vs heq
      split at hl
      · rename_i v0 hv
        cases hl
        rw [heq] at hx
        obtain ⟨us, hq, hr⟩ := vrel_tuple hx
        rw [nth_eq] at hv
        obtain ⟨y, hy, hr2⟩ := hr.get hv
        have hy' : us[i]? = some y := by simpa using hy
        refine ans (s := Instr.extract (a.eval x) i) (by simp only [execOp, ho]) (Ans.same h (cv := y) ?_ hr2)
        rw [hq]
        simp only [Instr.extract, hy']
        rfl
      · cases hl
    · cases hl
  · cases hl
theorem exec_wp (hE : EnvOk E) (h : Rel base μ A w) {o : Oper} {F : Fr} {v : AV} {A' : AW} (hl : execA E F o A = .val v A') {a : Act} (hF : ∀ x, VRel μ (ev F x) (a.eval x)) {K : Act → World → Prop} {Q : Exit → Act → World → Prop}
    (hK : ∀ cv w' μ', VRel μ' v cv → Step base μ A w μ' A' w' → K (a.put o.dst cv) w') : o.wp E.P a w K Q := by
  unfold execA at hl
  split at hl
  · rename_i c ho
    unfold callA at hl
    split at hl
    · rename_i b hc
      have hargs := evs_rel hF c.args.toList
      obtain ⟨s, hs1, cv, w', μ', h1, h2, h3⟩ := builtin_sound (ty := o.type) (cs := c.args.map fun | .const _ => true | _ => false) (cargs := c.args.map a.eval) hE h (liftR_val hl) (by rw [Array.toList_map]; exact hargs)
      refine wp_value (cv := cv) (w' := w') ?_ (hK cv w' μ' h2 h3)
      have e : execOp a.eval o = Go.builtin b c.argTypes o.type (c.args.map fun | .const _ => true | _ => false) (c.args.map a.eval) := by
        simp only [execOp, ho, resolve, hc]
        rfl
      rw [e, hs1]
      exact value_run h1
    · rename_i x hc
      have hx := hF x
      split at hl
      · rename_i f fi ca heq
        rw [heq] at hx
        obtain ⟨us, vs, hq, r1, r2⟩ := func_args hx
        have hargs := evs_rel hF c.args.toList
        refine enterA_wp hE h hl (cargs := us ++ c.args.map a.eval ++ vs) ?_ (call_exec ho hc hq) hK
        simp only [Array.toList_append, Array.toList_map]
        exact (r1.append hargs).append r2
      · cases hl
    · cases hl
  · exact execV_wp hE h (liftR_val hl) hF hK
theorem exec_enter (hE : EnvOk E) {o : Oper} {F : Fr} {f : FuncId} {args : List AV} (hl : execA E F o A = .enter f args) {a : Act} (hF : ∀ x, VRel μ (ev F x) (a.eval x)) :
    ∃ cargs : Array Value, LRel μ args cargs.toList ∧ (execOp a.eval o).run E.P w = .ok (.enter f cargs) w := by
  unfold execA at hl
  split at hl
  · rename_i c ho
    unfold callA at hl
    split at hl
    · exact (liftR_enter hl).elim
    · rename_i x hc
      have hx := hF x
      split at hl
      · rename_i g fi ca heq
        rw [heq] at hx
        obtain ⟨us, vs, hq, r1, r2⟩ := func_args hx
        have hargs := evs_rel hF c.args.toList
        obtain ⟨rfl, rfl, e, c', he, hc'⟩ := enterA_enter hE hl
        obtain ⟨f1, _, f3⟩ := hE.fn _ e he
        refine ⟨us ++ c.args.map a.eval ++ vs, ?_, (call_exec ho hc hq).trans (call_run f1 f3 ⟨c', hc'⟩ _)⟩
        simp only [Array.toList_append, Array.toList_map]
        exact (r1.append hargs).append r2
      · cases hl
    · cases hl
  · exact (liftR_enter hl).elim
end
end Go.AE
