/-
  EACH OPERATION OF THE EVALUATOR IS ONE OF THE MODEL's, sixth part: maps.
-/
import Derived.Test.YtiecclkgjcnaoaaGreatAiOps5
namespace Go.AE
set_option linter.unusedVariables false
variable [Rho]
section
variable {E : Env} {base : Nat} {μ : Mp} {A : AW} {w : World}
theorem keyOk_sound (hE : TysOk E) {kt : TypeId} {k : AV} {ck : Value} (h : keyOk E kt k = true) (hk : VRel μ k ck) : ∃ d, E.P.underlying kt = some d ∧ ((d = .string ∧ ∃ l, k = .str l) ∨ (∃ i, d = .int i) ∧ ∃ i n, k = .int i n) := by
  unfold keyOk at h
  split at h
  · rename_i d hd
    have ht := hE kt d hd
    split at h
    · rename_i l hdd
      exact ⟨_, ht.und, .inl ⟨hdd, l, rfl⟩⟩
    · rename_i i j n hdd
      exact ⟨_, ht.und, .inr ⟨⟨i, hdd⟩, j, n, rfl⟩⟩
    · cases h
  · cases h
theorem checkKey_run {P : Program} {w : World} {kt : TypeId} {d : TypeDesc} {k : AV} {ck : Value} (hu : P.underlying kt = some d) (hk : VRel μ k ck) (hd : (d = .string ∧ ∃ l, k = .str l) ∨ (∃ i, d = .int i) ∧ ∃ i n, k = .int i n) (b : Bool) :
    (Instr.checkKey b 10000 kt ck).run P w = .ok () w := by
  unfold Instr.checkKey
  rcases hd with ⟨rfl, l, rfl⟩ | ⟨⟨i, rfl⟩, j, n, rfl⟩
  · cases hk
    rw [Sem.run_bind, run_underlying hu]
    rfl
  · cases hk
    rw [Sem.run_bind, run_underlying hu]
    rfl
theorem keyEq_sound {d : TypeDesc} {k x : AV} {ck cx : Value} {b : Bool} (hk : VRel μ k ck) (hx : VRel μ x cx) (hd : (d = .string ∧ ∃ l, k = .str l) ∨ (∃ i, d = .int i) ∧ ∃ i n, k = .int i n) (h : keyEq k x = some b) :
    Instr.sameNow d ck cx = some b := by
  rcases hd with ⟨rfl, l, rfl⟩ | ⟨⟨i, rfl⟩, j, n, rfl⟩
  · cases hk
    cases x <;> simp only [keyEq, Option.some.injEq, reduceCtorEq] at h
    cases hx
    rw [strEq_eq] at h
    subst h
    rename_i s r
    simp only [Instr.sameNow, Option.some.injEq]
    rw [beq_toListBytes, ByteArray.toList_eq, ByteArray.toList_eq]
  · cases hk
    cases x <;> simp only [keyEq, reduceCtorEq] at h
    cases hx
    rw [kindEq_eq] at h
    rename_i j' n'
    by_cases hj : j = j'
    · subst hj
      simp only [decide_true, cond_true, Option.some.injEq] at h
      rw [ieq_eq] at h
      subst h
      simp only [Instr.sameNow, if_true, Option.some.injEq]
      rfl
    · simp [hj] at h
def ERel (μ : Mp) (es : List (AV × AV)) (ents : List MapEntry) : Prop := es.length = ents.length ∧ ∀ (i : Nat) k v, es[i]? = some (k, v) → ∃ e, ents[i]? = some e ∧ VRel μ k e.key ∧ VRel μ v e.val
theorem ERel.inv {μ : Mp} {k v : AV} {es : List (AV × AV)} {ents : List MapEntry} (h : ERel μ ((k, v) :: es) ents) : ∃ e r, ents = e :: r ∧ VRel μ k e.key ∧ VRel μ v e.val ∧ ERel μ es r := by
  cases ents with
  | nil => have := h.1; simp at this
  | cons e r =>
    obtain ⟨e', a, b, c⟩ := h.2 0 k v rfl
    cases a
    exact ⟨e, r, rfl, b, c, by have := h.1; simpa using this, fun i k v hv => by have := h.2 (i + 1) k v (by simpa using hv); simpa using this⟩
theorem findKey_sound {d : TypeDesc} {k : AV} {ck : Value} (hk : VRel μ k ck) (hd : (d = .string ∧ ∃ l, k = .str l) ∨ (∃ i, d = .int i) ∧ ∃ i n, k = .int i n) : ∀ (es : List (AV × AV)) (ents : List MapEntry) (i : Nat) (r : Option (Nat × AV)),
    findKeyA k es i = some r → ERel μ es ents → ∃ r', Instr.findNow d ck ents i = some r' ∧ (match r, r' with
      | none, none => True
      | some (j, v), some (j', v') => j = j' ∧ VRel μ v v' ∧ i ≤ j ∧ j < i + es.length
      | _, _ => False)
  | [], ents, i, r, h, he => by
    simp only [findKeyA, Option.some.injEq] at h
    subst h
    have : ents = [] := List.eq_nil_of_length_eq_zero he.1.symm
    subst this
    exact ⟨none, rfl, trivial⟩
  | (x, v) :: es, ents, i, r, h, he => by
    obtain ⟨e, q, rfl, h1, h2, h3⟩ := he.inv
    simp only [findKeyA] at h
    split at h
    · rename_i hb
      cases h
      refine ⟨some (i, e.val), ?_, rfl, h2, Nat.le_refl _, by simp⟩
      simp only [Instr.findNow, keyEq_sound hk h1 hd hb]
    · rename_i hb
      obtain ⟨r', a, b⟩ := findKey_sound hk hd es q (Nat.succ i) r h h3
      refine ⟨r', ?_, ?_⟩
      · simp only [Instr.findNow, keyEq_sound hk h1 hd hb]
        exact a
      · cases r with
        | none => cases r' <;> exact b
        | some p =>
          cases r' with
          | none => exact b
          | some q =>
            obtain ⟨b1, b2, b3, b4⟩ := b
            exact ⟨b1, b2, by omega, by simp; omega⟩
    · cases h
theorem findKey_run {P : Program} {w : World} {kt : TypeId} {d : TypeDesc} {k : AV} {ck : Value} (hu : P.underlying kt = some d) (hk : VRel μ k ck) (hd : (d = .string ∧ ∃ l, k = .str l) ∨ (∃ i, d = .int i) ∧ ∃ i n, k = .int i n)
    {es : List (AV × AV)} {ents : List MapEntry} {r : Option (Nat × AV)} (h : findKeyA k es 0 = some r) (he : ERel μ es ents) : ∃ r', (Instr.findKey kt ck ents).run P w = .ok r' w ∧ (match r, r' with
      | none, none => True
      | some (j, v), some (j', v') => j = j' ∧ VRel μ v v' ∧ j < es.length
      | _, _ => False) := by
  obtain ⟨r', a, b⟩ := findKey_sound hk hd es ents 0 r h he
  refine ⟨r', ?_, ?_⟩
  · unfold Instr.findKey
    rw [Sem.run_bind, run_underlying hu]
    simp only [Result.andThen_ok, a]
    rfl
  · cases r <;> cases r' <;> first | exact b | (obtain ⟨b1, b2, _, b4⟩ := b; exact ⟨b1, b2, by simpa using b4⟩)
theorem lookup_sound (hE : TysOk E) (h : Rel base μ A w) {t : TypeId} {m k v : AV} {ok : Bool} {A' : AW} {cm ck : Value} (hl : lookupA E t m k ok A = .val v A') (hm : VRel μ m cm) (hk : VRel μ k ck) :
    Ans E base μ A w (Instr.lookup t cm ck ok) v A' := by
  unfold lookupA at hl
  split at hl
  · rename_i d hd
    have ht := (hE t d hd).run_und w
    split at hl
    · rename_i kt vt hdd
      cases hko : keyOk E kt k <;> rw [hko] at hl <;> simp only [cond_true, cond_false, reduceCtorEq] at hl
      obtain ⟨dk, hu, hdk⟩ := keyOk_sound hE hko hk
      split at hl
      · rename_i es hes
        -- the entries
        have hent : ∃ ents : Array MapEntry, ERel μ es ents.toList ∧ ∀ K : Array MapEntry → Sem Value, (do
            let es ← match cm with
              | .map none => pure #[]
              | .map (some r) => do
                let .map es _ ← getObj r | stuck "Lookup: map expected"
                pure es
              | _ => stuck "Lookup: map expected"
            K es : Sem Value).run E.P w = (K ents).run E.P w := by
          split at hes
          · cases hes
            cases hm
            exact ⟨#[], ⟨rfl, by simp⟩, fun K => rfl⟩
          · rename_i f
            split at hes
            · rename_i es' hF
              cases hes
              cases hm with
              | map hp =>
                rename_i p
                obtain ⟨ents, clock, a1, a2, a3⟩ := h.con f _ p hF hp
                refine ⟨ents, ⟨by simpa using a2, a3⟩, fun K => ?_⟩
                have hg : (getObj p.c).run E.P w = .ok (.map ents clock) w := by simp [getObj, Sem.run, a1]
                simp only [Sem.run_bind, hg, Result.andThen_ok]
                rfl
            · cases hes
          · cases hes
        obtain ⟨ents, he, hrun⟩ := hent
        have fin : ∀ cv, ((do
            Instr.checkKey ents.isEmpty 10000 kt ck
            let (v, ok') ← match ← Instr.findKey kt ck ents.toList with
              | some (_, v) => pure (v, true)
              | none => pure (← zeroValue vt, false)
            pure (if ok then .tuple #[v, .bool ok'] else v) : Sem Value)).run E.P w = .ok cv w → (Instr.lookup t cm ck ok).run E.P w = .ok cv w := by
          intro cv hcv
          unfold Instr.lookup
          rw [Sem.run_bind, ht, hdd]
          simp only [Result.andThen_ok]
          refine Eq.trans ?_ hcv
          exact hrun _
        split at hl
        · rename_i j v0 hf
          cases hl
          obtain ⟨r', a, b⟩ := findKey_run (P := E.P) (w := w) hu hk hdk hf he
          cases r' with
          | none => exact b.elim
          | some q =>
            obtain ⟨b1, b2, b3⟩ := b
            cases ok with
            | true =>
              refine Ans.same h (fin _ ?_) (by simp only [cond_true]; exact vrel_tuple_mk (LRel.cons b2 (LRel.cons (.bool true) (LRel.nil μ))))
              simp only [Sem.run_bind, checkKey_run hu hk hdk, Result.andThen_ok, a, Sem.run_pure, if_true]
            | false =>
              refine Ans.same h (fin _ ?_) b2
              simp only [Sem.run_bind, checkKey_run hu hk hdk, Result.andThen_ok, a, Sem.run_pure, Bool.false_eq_true, if_false]
        · rename_i hf
          obtain ⟨r', a, b⟩ := findKey_run (P := E.P) (w := w) hu hk hdk hf he
          cases r' with
          | some q => exact b.elim
          | none =>
            split at hl
            · rename_i dv hdv
              split at hl
              · rename_i z hz
                cases hl
                obtain ⟨zv, z1, z2, z3, z4, hzv⟩ := (hE vt dv hdv).run_zero w hz μ
                cases ok with
                | true =>
                  refine Ans.same h (fin _ ?_) (by simp only [cond_true]; exact vrel_tuple_mk (LRel.cons hzv (LRel.cons (.bool false) (LRel.nil μ))))
                  simp only [Sem.run_bind, checkKey_run hu hk hdk, Result.andThen_ok, a, z1, Sem.run_pure, if_true]
                | false =>
                  refine Ans.same h (fin _ ?_) hzv
                  simp only [Sem.run_bind, checkKey_run hu hk hdk, Result.andThen_ok, a, z1, Sem.run_pure, Bool.false_eq_true, if_false]
              · cases hl
            · cases hl
        · cases hl
      · cases hl
    · cases hl
  · cases hl
theorem makeMap_sound (h : Rel base μ A w) (t : TypeId) : Ans E base μ A w (Instr.makeMap t none) (.map A.nxt) ⟨A.heap.set A.nxt (.map []), Nat.succ A.nxt⟩ := by
  have hst := Step.new (w1 := w.alloc (.map #[] 0)) h (.map []) ⟨w.heap.size, 0, 0, 0, 0⟩ ⟨rfl, rfl, rfl⟩ rfl (alloc_size w _) (fun b hb => alloc_old w _ b hb) rfl ⟨#[], 0, alloc_new w _, rfl, by simp⟩
  exact ⟨.map (some w.heap.size), _, _, rfl, VRel.map (p := ⟨w.heap.size, 0, 0, 0, 0⟩) (Mp.put_same _ _ _ _), hst⟩
omit [Rho] in
theorem setAtL_get (k v : AV) : ∀ (i : Nat) (es : List (AV × AV)) (j : Nat), (setAtL i k v es)[j]? = if j = i ∧ i < es.length then some (k, v) else es[j]?
  | i, [], j => by simp [setAtL]
  | 0, e :: es, j => by cases j <;> simp [setAtL]
  | i + 1, e :: es, j => by
    cases j with
    | zero => simp [setAtL]
    | succ j => simp only [setAtL, List.getElem?_cons_succ, setAtL_get k v i es j, List.length_cons]; congr 1; simp
omit [Rho] in
theorem setAtL_len (k v : AV) : ∀ (i : Nat) (es : List (AV × AV)), (setAtL i k v es).length = es.length
  | i, [] => by cases i <;> rfl
  | 0, e :: es => rfl
  | i + 1, e :: es => by simp [setAtL, setAtL_len k v i es]
omit [Rho] in
theorem findKeyA_some {k : AV} : ∀ (es : List (AV × AV)) (i j : Nat) (v : AV), findKeyA k es i = some (some (j, v)) → i ≤ j ∧ ∃ x, es[j - i]? = some (x, v) ∧ keyEq k x = some true
  | [], i, j, v, h => by simp [findKeyA] at h
  | (x, y) :: es, i, j, v, h => by
    simp only [findKeyA] at h
    split at h
    · rename_i hb
      cases h
      exact ⟨Nat.le_refl _, x, by simp, hb⟩
    · obtain ⟨a, x', b, c⟩ := findKeyA_some es (Nat.succ i) j v h
      have e : j - i = (j - Nat.succ i) + 1 := by omega
      exact ⟨by omega, x', by rw [e]; simpa using b, c⟩
    · cases h
omit [Rho] in
theorem sameNow_bits {d : TypeDesc} {a b : Value} (h : Instr.sameNow d a b = some true) : Instr.sameBits 10000 b a = true := by
  unfold Instr.sameNow at h
  split at h
  · rename_i k x k' y
    split at h
    · rename_i hk
      subst hk
      simp only [Option.some.injEq, beq_iff_eq] at h
      subst h
      simp [Instr.sameBits]
    · cases h
  · simp only [Option.some.injEq] at h
    simp only [Instr.sameBits]
    rw [beq_toListBytes] at h ⊢
    simp only [beq_iff_eq] at h ⊢
    exact h.symm
  · simp only [Option.some.injEq, beq_iff_eq] at h
    subst h
    simp [Instr.sameBits]
  · cases h
theorem mapUpdate_sound (hE : TysOk E) (h : Rel base μ A w) {t : TypeId} {m k x v : AV} {A' : AW} {cm ck cx : Value} (hl : mapUpdateA E t m k x A = .val v A') (hm : VRel μ m cm) (hk : VRel μ k ck) (hx : VRel μ x cx) :
    v = .undef ∧ ∃ w' μ', (Instr.mapUpdate t cm ck cx).run E.P w = .ok () w' ∧ Step base μ A w μ' A' w' := by
  unfold mapUpdateA at hl
  split at hl
  · rename_i d hd
    have ht := (hE t d hd).run_und w
    split at hl
    · rename_i kt vt hdd
      cases hko : keyOk E kt k <;> rw [hko] at hl <;> simp only [cond_true, cond_false, reduceCtorEq] at hl
      obtain ⟨dk, hu, hdk⟩ := keyOk_sound hE hko hk
      split at hl
      · rename_i f
        cases hm with
        | map hp =>
          rename_i p
          split at hl
          · rename_i es hF
            obtain ⟨ents, clock, a1, a2, a3⟩ := h.con f _ p hF hp
            have hg : (getObj p.c).run E.P w = .ok (.map ents clock) w := by simp [getObj, Sem.run, a1]
            have he : ERel μ es ents.toList := ⟨by simpa using a2, a3⟩
            have hset : ∀ o : Obj, o.isChan = false → (∀ c e z, o ≠ .cells c e z) → (setObj p.c o).run E.P w = .ok () { w with heap := w.heap.setIfInBounds p.c o } := fun o _ _ => by simp [setObj, Sem.run, a1]
            have hlt := (h.dom f 0 p hp).1
            have hwrite : ∀ (es' : List (AV × AV)) (ents' : Array MapEntry) (clock' : Nat), es'.length = ents'.size → (∀ (i : Nat) k v, es'[i]? = some (k, v) → ∃ e, ents'.toList[i]? = some e ∧ VRel μ k e.key ∧ VRel μ v e.val) →
                Step base μ A w (μ.put f 0 p) ⟨A.heap.set f (.map es'), A.nxt⟩ { w with heap := w.heap.setIfInBounds p.c (.map ents' clock') } := by
              intro es' ents' clock' q1 q2
              refine Step.write (F' := .map es') (w1 := { w with heap := w.heap.setIfInBounds p.c (.map ents' clock') }) h hF rfl hp rfl (.inl rfl) ⟨rfl, rfl, rfl⟩ (by simp) (fun b hb => ?_) ⟨ents', clock', ?_, q1, q2⟩
              · show (w.heap.setIfInBounds p.c _)[b]? = _
                rw [Array.getElem?_setIfInBounds_ne (Ne.symm hb)]
              · show (w.heap.setIfInBounds p.c _)[p.c]? = _
                rw [Array.getElem?_setIfInBounds_self_of_lt hlt]
            split at hl
            · rename_i j v0 hf
              cases hl
              obtain ⟨r', a, b⟩ := findKey_run (P := E.P) (w := w) hu hk hdk hf he
              cases r' with
              | none => exact b.elim
              | some q =>
                obtain ⟨j', v'⟩ := q
                obtain ⟨b1, b2, b3⟩ := b
                subst b1
                refine ⟨rfl, ?_⟩
                have hjlt : j < ents.size := by rw [← a2]; exact b3
                have hstays : (Instr.keyThatStays (((ents[j]?).map (·.key)).getD ck) ck).run E.P w = .ok ck w := by
                  obtain ⟨_, x', g1, g2⟩ := findKeyA_some es 0 j v0 hf
                  obtain ⟨e, e1, e2, _⟩ := a3 j x' v0 (by simpa using g1)
                  have e1' : ents[j]? = some e := by simpa using e1
                  have hb := sameNow_bits (keyEq_sound hk e2 hdk g2)
                  rw [e1']
                  simp only [Option.map_some, Option.getD_some]
                  unfold Instr.keyThatStays
                  rw [hb]
                  rfl
                refine ⟨_, _, ?_, hwrite (setAtL j k x es) (ents.modify j fun e => { e with key := ck, val := cx }) clock (by simp [setAtL_len, a2]) ?_⟩
                · unfold Instr.mapUpdate
                  simp only [Sem.run_bind, ht, hdd, Result.andThen_ok, hg, checkKey_run hu hk hdk, a, hstays]
                  exact hset _ rfl (by simp)
                · intro i k' v2 hi
                  rw [setAtL_get] at hi
                  by_cases hij : i = j ∧ j < es.length
                  · rw [if_pos hij] at hi
                    obtain ⟨rfl, _⟩ := hij
                    cases hi
                    refine ⟨{ ents[i] with key := ck, val := cx }, ?_, hk, hx⟩
                    simp [hjlt]
                  · rw [if_neg hij] at hi
                    obtain ⟨e, e1, e2⟩ := a3 i k' v2 hi
                    have hne : ¬ j = i := fun e => hij ⟨e.symm, by rw [a2]; exact hjlt⟩
                    refine ⟨e, ?_, e2⟩
                    simp only [Array.getElem?_toList] at e1 ⊢
                    rw [Array.getElem?_modify, if_neg hne]
                    exact e1
            · rename_i hf
              cases hl
              obtain ⟨r', a, b⟩ := findKey_run (P := E.P) (w := w) hu hk hdk hf he
              cases r' with
              | some q => exact b.elim
              | none =>
                refine ⟨rfl, _, _, ?_, hwrite (es ++ [(k, x)]) (ents.push { key := ck, val := cx, born := clock }) (clock + 1) (by simp [a2]) ?_⟩
                · unfold Instr.mapUpdate
                  simp only [Sem.run_bind, ht, hdd, Result.andThen_ok, hg, checkKey_run hu hk hdk, a]
                  exact hset _ rfl (by simp)
                · intro i k' v2 hi
                  by_cases hlt2 : i < es.length
                  · rw [List.getElem?_append_left hlt2] at hi
                    obtain ⟨e, e1, e2⟩ := a3 i k' v2 hi
                    refine ⟨e, ?_, e2⟩
                    simp only [Array.toList_push]
                    rw [List.getElem?_append_left (by simp; omega)]
                    exact e1
                  · rw [List.getElem?_append_right (by omega)] at hi
                    have h0 : i - es.length = 0 := by
                      rcases Nat.eq_zero_or_pos (i - es.length) with h | h
                      · exact h
                      · rw [List.getElem?_eq_none (by simp; omega)] at hi; cases hi
                    rw [h0] at hi
                    cases hi
                    refine ⟨{ key := ck, val := cx, born := clock }, ?_, hk, hx⟩
                    simp only [Array.toList_push]
                    rw [List.getElem?_append_right (by simp; omega)]
                    have : i - ents.toList.length = 0 := by simp; omega
                    rw [this]
                    rfl
            · cases hl
          · cases hl
      · cases hl
    · cases hl
  · cases hl
end
end Go.AE
