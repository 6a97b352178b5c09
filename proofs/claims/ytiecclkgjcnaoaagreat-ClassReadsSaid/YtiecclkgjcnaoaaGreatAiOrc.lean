/-
  THE TABLES OF A PROGRAM ARE AS THEY MUST BE; and what a run of the evaluator that ends in 'true' says of the model.
  A CALL THAT IS KNOWN TO ANSWER true; runs over all values of a byte.
-/
import Derived.Test.YtiecclkgjcnaoaaGreatAiDraw
import Derived.Below
import Derived.KernelRfl
namespace Go.AE
open Go.RowKit
set_option linter.unusedVariables false
set_option linter.unusedSimpArgs false
variable [Rho]
omit [Rho] in
theorem tysFrom_get (P : Program) : ∀ (n i : Nat) (t : Tr ATy) (k : Nat) (d : ATy), (tysFrom P n i t).get k = some d → t.get k = some d ∨ tyOf P k = some d
  | 0, i, t, k, d, h => .inl h
  | n + 1, i, t, k, d, h => by
    simp only [tysFrom] at h
    rcases tysFrom_get P n (Nat.succ i) _ k d h with h | h
    · split at h
      · rename_i x hx
        rw [Tr.get_set] at h
        split at h
        · rename_i e
          cases h
          subst e
          exact .inr hx
        · exact .inl h
      · exact .inl h
    · exact .inr h
omit [Rho] in
theorem allOne_spec : ∀ {l : List AV}, allOne l = true → ∀ x ∈ l, x.one = true
  | [], _, x, hx => by cases hx
  | y :: l, h, x, hx => by
    simp only [allOne] at h
    cases hy : y.one <;> rw [hy] at h <;> simp only [cond_true, cond_false, Bool.false_eq_true] at h
    rcases List.mem_cons.1 hx with rfl | hx
    · exact hy
    · exact allOne_spec h x hx
omit [Rho] in
theorem tyOf_ok {P : Program} {t : TypeId} {d : ATy} (h : tyOf P t = some d) : TyOk P t d := by
  unfold tyOf at h
  split at h
  · rename_i e i he hi
    cases h
    refine ⟨he, rfl, i, hi, rfl, rfl, fun z hz => ?_⟩
    simp only at hz
    cases hzv : i.zero with
    | none => rw [hzv] at hz; cases hz
    | some zv =>
      rw [hzv] at hz
      simp only [zeroOf] at hz
      cases hb : (allOne (zv.cells.toList.map ofLeaf) && Nat.beq (len (zv.cells.toList.map ofLeaf)) i.size) <;> rw [hb] at hz <;> simp only [cond_true, cond_false, reduceCtorEq] at hz
      cases hz
      rw [Bool.and_eq_true, beq_eq, len_eq] at hb
      exact ⟨zv, rfl, rfl, by simpa using hb.2, by simp [zvOf], allOne_spec hb.1⟩
  · cases h
omit [Rho] in
theorem tysOf_ok (P : Program) (t : TypeId) (d : ATy) (h : (tysOf P).get t = some d) : TyOk P t d := by
  unfold tysOf at h
  rcases tysFrom_get P _ _ _ t d h with h | h
  · simp [Tr.get] at h
  · exact tyOf_ok h
omit [Rho] in
theorem ofList_get {α : Type} : ∀ (l : List α) (i : Nat) (t : Tr α) (k : Nat), (Tr.ofList l i t).get k = if i ≤ k ∧ k < i + l.length then l[k - i]? else t.get k
  | [], i, t, k => by simp [Tr.ofList]; intro h1 h2; omega
  | x :: l, i, t, k => by
    simp only [Tr.ofList]
    rw [ofList_get l (Nat.succ i) _ k, Tr.get_set]
    by_cases e : k = i
    · subst e
      rw [if_neg (by omega), if_pos rfl, if_pos (by simp)]
      simp
    · by_cases c : Nat.succ i ≤ k ∧ k < Nat.succ i + l.length
      · rw [if_pos c, if_pos (by simp; omega)]
        have : k - i = (k - Nat.succ i) + 1 := by omega
        rw [this]
        simp
      · rw [if_neg c, if_neg e, if_neg (by simp; omega)]
omit [Rho] in
theorem fnEs_get : ∀ (l : List Func) (k : Nat), (fnEs l)[k]? = (l[k]?).map fnE
  | [], k => by simp [fnEs]
  | x :: l, 0 => by simp [fnEs]
  | x :: l, k + 1 => by simp [fnEs, fnEs_get l k]
omit [Rho] in
theorem fnsOf_get {P : Program} {f : FuncId} {e : FnE} (h : (fnsOf P).get f = some e) : ∃ fn, P.funcs[f]? = some fn ∧ e = fnE fn := by
  unfold fnsOf at h
  rw [ofList_get] at h
  split at h
  · simp only [Nat.sub_zero] at h
    rw [fnEs_get] at h
    cases hf : P.funcs.toList[f]? with
    | none => rw [hf] at h; cases h
    | some fn => rw [hf] at h; cases h; exact ⟨fn, by simpa using hf, rfl⟩
  · simp [Tr.get] at h
omit [Rho] in
theorem fnE_fn (fn : Func) : (fnE fn).fn = fn := by unfold fnE; split <;> rfl
def allOk : List FnE → Bool
  | [] => true
  | e :: l => bif fnOk e then allOk l else false
omit [Rho] in
theorem allOk_spec : ∀ {l : List FnE}, allOk l = true → ∀ e ∈ l, fnOk e = true
  | [], _, e, he => by cases he
  | x :: l, h, e, he => by
    simp only [allOk] at h
    cases hx : fnOk x <;> rw [hx] at h <;> simp only [cond_true, cond_false, Bool.false_eq_true] at h
    rcases List.mem_cons.1 he with rfl | he
    · exact hx
    · exact allOk_spec h e he
def extOk : List Func → Bool
  | [] => true
  | fn :: l => bif (fn.body.isSome || (Extern.allNextRows.lookup fn.origin).isNone) then extOk l else false
omit [Rho] in
theorem extOk_spec : ∀ {l : List Func}, extOk l = true → ∀ fn ∈ l, fn.body = none → (Extern.allNextRows.lookup fn.origin) = none
  | [], _, e, he, _ => by cases he
  | x :: l, h, e, he, hb => by
    simp only [extOk] at h
    cases hx : (x.body.isSome || (Extern.allNextRows.lookup x.origin).isNone) <;> rw [hx] at h <;> simp only [cond_true, cond_false, Bool.false_eq_true] at h
    rcases List.mem_cons.1 he with rfl | he
    · rw [hb] at hx
      simpa using hx
    · exact extOk_spec h e he hb
omit [Rho] in
theorem next1 : (Extern.allNextRows.lookup "math.Float64bits").isNone = true := by kernel_rfl
omit [Rho] in
theorem next2 : (Extern.allNextRows.lookup "math.Float64frombits").isNone = true := by kernel_rfl
omit [Rho] in
theorem gen1 : (Extern.allGenericRows.lookup "math.Float64bits").isNone = true := by kernel_rfl
omit [Rho] in
theorem gen2 : (Extern.allGenericRows.lookup "math.Float64frombits").isNone = true := by kernel_rfl
omit [Rho] in
theorem typ1 : (Extern.allTypedRows.lookup "math.Float64bits").isNone = true := by kernel_rfl
omit [Rho] in
theorem typ2 : (Extern.allTypedRows.lookup "math.Float64frombits").isNone = true := by kernel_rfl
omit [Rho] in
theorem row1 : Extern.allRows.lookup "math.Float64bits" = some Extern.MathFloatBits.float64bits := by kernel_rfl
omit [Rho] in
theorem row2 : Extern.allRows.lookup "math.Float64frombits" = some Extern.MathFloatBits.float64frombits := by kernel_rfl
omit [Rho] in
theorem ext_run {P : Program} {f : FuncId} {fn : Func} {g : Array Value → Sem Value} (hf : P.funcs[f]? = some fn) (hb : fn.body = none) {n : String} (hn : fn.name = n) (hne : n ≠ "runtime.NumGoroutine") (h1 : (Extern.allNextRows.lookup n).isNone = true) (h0 : Extern.allNextRows.lookup fn.origin = none)
    (h2 : (Extern.allGenericRows.lookup n).isNone = true) (h3 : (Extern.allTypedRows.lookup n).isNone = true) (h4 : Extern.allRows.lookup n = some g) {args : Array Value} {w : World} {v : Value} (hg : (g args).run P w = .ok v w) :
    (callFunc f args).run P w = .ok (.value v) w := by
  have e1 : Extern.findNext fn = none := by
    unfold Extern.findNext
    simp only [hn]
    rw [Option.isNone_iff_eq_none] at h1
    rw [h1, h0]
    rfl
  have e2 : Extern.find fn = some g := by
    unfold Extern.find
    simp only [hn]
    rw [Option.isNone_iff_eq_none] at h2 h3
    rw [h2, h3, h4]
    rfl
  unfold callFunc
  rw [Sem.run_bind, run_program]
  simp only [Result.andThen_ok, hf]
  have e3 : (fn.name == "runtime.NumGoroutine") = false := by rw [hn]; simpa using hne
  rw [e3]
  simp only [Bool.false_eq_true, if_false, hb, Option.isNone_none, if_true, Sem.run_bind, run_mark, Result.andThen_ok, e1, e2, hg, Sem.run_pure]
theorem envOf_ok {P : Program} (h1 : allOk (fnEs P.funcs.toList) = true) (h2 : extOk P.funcs.toList = true) (h3 : P.follows .mixedOrders = true) : EnvOk (envOf P) := by
  have key : ∀ f e, (fnsOf P).get f = some e → ∃ fn, P.funcs[f]? = some fn ∧ e = fnE fn ∧ fnOk e = true ∧ fn ∈ P.funcs.toList := fun f e h => by
    obtain ⟨fn, a, b⟩ := fnsOf_get h
    refine ⟨fn, a, b, ?_, by simpa using Array.mem_of_getElem? a⟩
    have hm : fnE fn ∈ fnEs P.funcs.toList := by
      refine List.mem_of_getElem? (i := f) ?_
      rw [fnEs_get]
      have : P.funcs.toList[f]? = some fn := by simpa using a
      rw [this]
      rfl
    rw [b]
    exact allOk_spec h1 _ hm
  refine ⟨tysOf_ok P, fun f e h => ?_, fun f e c h hc => ?_, h3, fun f e h hb hn b w => ?_, fun f e h hb hn b w => ?_, fun f args v l h => by cases h⟩
  · obtain ⟨fn, a, b, c, _⟩ := key f e h
    simp only [fnOk, Bool.and_eq_true, beq_eq, bne_iff_ne, decide_eq_true_eq] at c
    exact ⟨by rw [b, fnE_fn]; exact a, c.1, c.2.1⟩
  · obtain ⟨fn, a, b, k, _⟩ := key f e h
    simp only [fnOk, Bool.and_eq_true, hc] at k
    exact k.2.2
  · obtain ⟨fn, a, b', k, hm⟩ := key f e h
    subst b'
    rw [fnE_fn] at hb hn
    exact ext_run a hb (by simpa using hn) (by decide) next1 (extOk_spec h2 fn hm hb) gen1 typ1 row1 rfl
  · obtain ⟨fn, a, b', k, hm⟩ := key f e h
    subst b'
    rw [fnE_fn] at hb hn
    refine ext_run a hb (by simpa using hn) (by decide) next2 (extOk_spec h2 fn hm hb) gen2 typ2 row2 ?_
    rfl
def yes : Out → Bool
  | .val v _ => (match v with
    | .bool b => b
    | _ => false)
  | .fail _ => false
omit [Rho] in
theorem yes_spec {o : Out} (h : yes o = true) : ∃ A, o = .val (.bool true) A := by
  cases o with
  | fail n => cases h
  | val v A =>
    cases v <;> simp only [yes, Bool.false_eq_true] at h
    subst h
    exact ⟨A, rfl⟩
theorem rel_none (base : Nat) (w : World) (h : base ≤ w.heap.size) : Rel base (fun _ _ => none) ⟨.nil, 0⟩ w :=
  ⟨h, fun f F hF => by simp [Tr.get] at hF, fun f t p hp => by simp at hp, fun f f' F t t' p p' hF => by simp [Tr.get] at hF, fun f F t p hF => by simp [Tr.get] at hF, fun f F p hF => by simp [Tr.get] at hF⟩
theorem top {E : Env} (hE : EnvOk E) {n : Nat} {f : FuncId} {args : List AV} {cargs : Array Value} (h : yes (AE.call E n f args ⟨.nil, 0⟩) = true) (ha : LRel (fun _ _ => none) args cargs.toList) (w : World) :
    Calls E.P f cargs w fun e w' => e = .returned (.bool true) ∧ Below w.heap.size w w' := by
  obtain ⟨A, hA⟩ := yes_spec h
  refine (call_ok hE n f args ⟨.nil, 0⟩ (.bool true) A _ w cargs hA (rel_none w.heap.size w (Nat.le_refl _)) ha).mono ?_
  rintro e w' ⟨cv, μ', rfl, hv, hs⟩
  cases hv
  exact ⟨rfl, hs.os, hs.tape, hs.output, hs.size, fun k hk => hs.blk k hk fun f F t p hF => by simp [Tr.get] at hF⟩
end Go.AE
namespace Go.AE
open Go.RowKit
set_option linter.unusedVariables false
set_option linter.unusedSimpArgs false
variable [Rho]
def envK (P : Program) (K : FuncId) : Env :=
  { P, fns := fnsOf P, tys := tysOf P, orc := fun f args => bif Nat.beq f K then (match args with
    | [] => some (.bool true, [])
    | _ :: _ => none) else none }
theorem Step.grow {base : Nat} {μ : Mp} {A : AW} {w w1 : World} (h : Rel base μ A w) (hb : Below w.heap.size w w1) : Step base μ A w μ A w1 := by
  have hr : Rel base μ A w1 := by
    refine ⟨Nat.le_trans h.base_le hb.size, h.lt, fun f t p hp => ?_, h.inj, h.own, fun f F p hF hp => (h.con f F p hF hp).mono (fun _ _ _ h => h) (hb.block _ (h.dom _ _ _ hp).1)⟩
    obtain ⟨a, b⟩ := h.dom f t p hp
    exact ⟨Nat.lt_of_lt_of_le a hb.size, b⟩
  exact ⟨h, hr, fun _ _ _ h => h, fun _ _ h => ⟨h, rfl⟩, Nat.le_refl _, fun _ t p h => .inl ⟨t, p, h, rfl⟩, fun _ F h => ⟨F, h, rfl, Nat.le_refl _⟩, hb.os, hb.tape, hb.output, hb.size, fun b hlt _ => hb.block b hlt⟩
def hasBody (P : Program) (K : FuncId) : Bool :=
  match (fnsOf P).get K with
  | some e => e.fn.body.isSome
  | none => false
theorem envK_ok {P : Program} {K : FuncId} (hE : EnvOk (envOf P)) (hb : hasBody P K = true) (hk : ∀ w, Calls P K #[] w fun e w' => e = .returned (.bool true) ∧ Below w.heap.size w w') : EnvOk (envK P K) := by
  refine ⟨hE.ty, hE.fn, hE.code, hE.mixed, hE.ext1, hE.ext2, fun f args v l h => ?_⟩
  simp only [envK, beq_eq] at h
  by_cases e : f = K
  · subst e
    simp only [decide_true, cond_true] at h
    split at h
    · cases h
      refine ⟨?_, fun base μ A w cargs hr ha => ?_⟩
      · unfold hasBody at hb
        split at hb
        · rename_i e he
          obtain ⟨c, hc⟩ := Option.isSome_iff_exists.1 hb
          exact ⟨e, c, he, hc⟩
        · cases hb
      · have hc : cargs = #[] := Array.ext' ha.inv_nil
        subst hc
        refine (hk w).mono ?_
        rintro e w' ⟨rfl, hbl⟩
        exact ⟨_, μ, rfl, .bool true, Step.grow hr hbl⟩
    · cases h
  · simp [e] at h
end Go.AE
