/-
  REGIONS THAT DRAW THEIR ORDER: whatever the order, the model ends where the evaluator does.
-/
import Derived.Test.YtiecclkgjcnaoaaGreatAiOrder
namespace Go.AE
set_option linter.unusedVariables false
set_option linter.unusedSimpArgs false
variable [Rho]
structure Pd where
  i : Nat
  o : Oper
  d : Tmp
  v : AV
  fam : Option Nat
def Late (E : Env) (F : Fr) (o : Oper) (v : AV) (g : Nat) (Fm : AFam) : Prop :=
  ∀ F2 : Fr, (∀ x ∈ o.op.operands, ev F2 x = ev F x) → ∀ (μ : Mp) (w : World) (a : Act), (∀ x, VRel μ (ev F2 x) (a.eval x)) → ∃ mk s, v = mk g ∧ NewAns E μ w s mk Fm ∧ execOp a.eval o = (do pure (.value (← s)))
structure PdOk (E : Env) (ops : Array Oper) (N : Nat) (F : Fr) (A : AW) (μ : Mp) (n0 : Nat) (p : Pd) : Prop where
  op : ops[p.i]? = some p.o
  act : acts p.o.op = false
  dst : p.o.dst = some p.d
  lt : p.d < N
  val : F.get p.d = some p.v
  has : ∀ g, p.fam = some g → g < A.nxt
  how : (wantedA ops.toList F p.o = some false ∧ p.v = .tuple []) ∨ (wantedA ops.toList F p.o = some true ∧ makes p.o.op = false ∧ execA E F p.o A = .val p.v A) ∨
    (wantedA ops.toList F p.o = some true ∧ ∃ g Fm, p.fam = some g ∧ n0 ≤ g ∧ A.heap.get g = some Fm ∧ (∀ t, μ g t = none) ∧ Late E F p.o p.v g Fm)
def hat (F : Fr) : List Pd → Fr
  | [] => F
  | p :: l => (hat F l).set p.d .undef
omit [Rho] in
theorem hat_get (F : Fr) (t : Tmp) : ∀ l : List Pd, ((∃ p ∈ l, p.d = t) → (hat F l).get t = some .undef) ∧ ((∀ p ∈ l, p.d ≠ t) → (hat F l).get t = F.get t)
  | [] => ⟨fun ⟨p, hp, _⟩ => (by cases hp), fun _ => rfl⟩
  | p :: l => by
    have ih := hat_get F t l
    simp only [hat, Fr.get_set]
    by_cases e : t = p.d
    · rw [if_pos e]
      exact ⟨fun _ => rfl, fun h => absurd e.symm (h p (List.mem_cons_self ..))⟩
    · rw [if_neg e]
      refine ⟨fun ⟨q, hq, hqt⟩ => ih.1 ?_, fun h => ih.2 fun q hq => h q (List.mem_cons_of_mem _ hq)⟩
      rcases List.mem_cons.1 hq with rfl | hq
      · exact absurd hqt.symm e
      · exact ⟨q, hq, hqt⟩
def FRelP (μ : Mp) (N : Nat) (F : Fr) (l : List Pd) (a : Act) : Prop := N ≤ a.tmps.size ∧ ∀ t v, (∀ p ∈ l, p.d ≠ t) → F.get t = some v → VRel μ v (a.tmps.getD t undef)
theorem FRelP.hat {μ : Mp} {N : Nat} {F : Fr} {l : List Pd} {a : Act} (h : FRelP μ N F l a) : FRel μ N (hat F l) a := by
  refine ⟨h.1, fun t v hv => ?_⟩
  by_cases e : ∃ p ∈ l, p.d = t
  · rw [(hat_get F t l).1 e] at hv
    cases hv
    exact .undef _
  · have e : ∀ p ∈ l, p.d ≠ t := fun p hp he => e ⟨p, hp, he⟩
    rw [(hat_get F t l).2 e] at hv
    exact h.2 t v e hv
omit [Rho] in
theorem oneA_inv {E : Env} {call : FuncId → List AV → AW → Out} {N : Nat} {all : List Oper} {o : Oper} {F F1 : Fr} {A A1 : AW} (h : oneA E call N all o F A = .ok F1 A1) :
    ∃ v, putF N F o.dst v A1 = .ok F1 A1 ∧ ((wantedA all F o = some true ∧ (execA E F o A = .val v A1 ∨ ∃ f args, execA E F o A = .enter f args ∧ call f args A = .val v A1)) ∨ (wantedA all F o = some false ∧ v = .tuple [] ∧ A1 = A)) := by
  unfold oneA at h
  have pin : ∀ {v : AV} {B : AW}, putF N F o.dst v B = .ok F1 A1 → A1 = B := fun hp => (putF_get hp).1
  split at h
  · rename_i hw
    split at h
    · rename_i v B hex
      have := pin h
      subst this
      exact ⟨v, h, .inl ⟨hw, .inl hex⟩⟩
    · rename_i f args hex
      split at h
      · rename_i v B hc
        have := pin h
        subst this
        exact ⟨v, h, .inl ⟨hw, .inr ⟨f, args, hex, hc⟩⟩⟩
      · cases h
    · cases h
  · rename_i hw
    have := pin h
    subst this
    exact ⟨_, h, .inr ⟨hw, rfl, rfl⟩⟩
  · cases h
omit [Rho] in
theorem noacts_enter {E : Env} {F : Fr} {o : Oper} {A : AW} (ha : acts o.op = false) {f : FuncId} {args : List AV} : execA E F o A ≠ .enter f args := by
  intro h
  unfold execA at h
  split at h
  · rename_i c ho
    unfold callA at h
    split at h
    · exact liftR_enter h
    · rename_i x hc
      rw [ho] at ha
      simp [acts, hc] at ha
    · cases h
  · exact liftR_enter h
omit [Rho] in
theorem drawA_inv {E : Env} {call : FuncId → List AV → AW → Out} {N : Nat} {all : List Oper} {bs : List Nat} {i : Nat} {rest : List Nat} {seen : List Seen} {F F' : Fr} {A A' : AW} {o : Oper} {b : Nat} (ho : all[i]? = some o) (hb : bs[i]? = some b)
    (h : drawA E call N all bs (i :: rest) seen F A = .ok F' A') : ∃ F1 A1 seen', oneA E call N all o F A = .ok F1 A1 ∧ drawA E call N all bs rest seen' F1 A1 = .ok F' A' ∧ (∀ s ∈ seen, s ∈ seen') ∧
      (acts o.op = true → still E F1 A1 b seen = true) ∧ (acts o.op = false → makes o.op = false → A1.nxt = A.nxt) ∧
      (acts o.op = false → makes o.op = false → wantedA all F o = some true → reads o.op = true → ∀ d v, o.dst = some d → F1.get d = some v → ⟨i, o, v⟩ ∈ seen') := by
  simp only [drawA, nth_eq, ho, hb] at h
  split at h
  · rename_i F1 A1 h1
    cases ha : acts o.op <;> simp only [ha, cond_true, cond_false] at h
    · cases hm : makes o.op <;> simp only [hm, cond_true, cond_false] at h
      · cases hn : Nat.beq A1.nxt A.nxt <;> simp only [hn, cond_true, cond_false, reduceCtorEq] at h
        have hn' : A1.nxt = A.nxt := by rw [beq_eq] at hn; simpa using hn
        split at h
        · rename_i hw
          cases hr : reads o.op <;> simp only [hr, cond_true, cond_false] at h
          · exact ⟨F1, A1, seen, h1, h, fun s hs => hs, by simp, fun _ _ => hn', by simp⟩
          · split at h
            · rename_i d hd
              split at h
              · rename_i v hv
                refine ⟨F1, A1, _, h1, h, fun s hs => List.mem_cons_of_mem _ hs, by simp, fun _ _ => hn', fun _ _ _ _ d' v' hd' hv' => ?_⟩
                rw [hd] at hd'
                cases hd'
                rw [hv] at hv'
                cases hv'
                exact List.mem_cons_self ..
              · cases h
            · cases h
        · rename_i hw
          exact ⟨F1, A1, seen, h1, h, fun s hs => hs, by simp, fun _ _ => hn', fun _ _ hw' => absurd hw' hw⟩
      · exact ⟨F1, A1, seen, h1, h, fun s hs => hs, by simp, by simp, by simp⟩
    · cases hs : still E F1 A1 b seen <;> simp only [hs, cond_true, cond_false, reduceCtorEq] at h
      exact ⟨F1, A1, seen, h1, h, fun s hs => hs, fun _ => hs, by simp, by simp⟩
  · cases h
section
variable (E : Env) (base : Nat) (call : FuncId → List AV → AW → Out) (N : Nat) (ops : Array Oper) (bs order : List Nat) (F' : Fr) (A' : AW) (μ0 : Mp) (A0 : AW) (w0 : World) (a0 : Act)
structure St (pre rest : List Nat) (seen : List Seen) (pend : List Pd) (listed : Array Bool) (F : Fr) (A : AW) (μ : Mp) (w : World) (a : Act) : Prop where
  ord : order = pre ++ rest
  run : drawA E call N ops.toList bs rest seen F A = .ok F' A'
  sz : listed.size = ops.size
  lis : ∀ i, i < ops.size → (listed.getD i false = true ↔ i ∈ pre ∧ ∀ p ∈ pend, p.i ≠ i)
  cl : ∀ k, listed.getD k false = true → ∀ m, bs[k]? = some m → ∀ j, bit m j = true → listed.getD j false = true
  pre' : ∀ p ∈ pend, p.i ∈ pre
  ok : ∀ p ∈ pend, PdOk E ops N F A μ A0.nxt p
  see : ∀ p ∈ pend, makes p.o.op = false → reads p.o.op = true → wantedA ops.toList F p.o = some true → ⟨p.i, p.o, p.v⟩ ∈ seen
  dis : ∀ p ∈ pend, ∀ q ∈ pend, ∀ g, p.fam = some g → q.fam = some g → p.i = q.i
  step : Step base μ0 A0 w0 μ A w
  frm : FRelP μ N F pend a
  dfr : a.defers = a0.defers
end
section
variable {E : Env} {base : Nat} {call : FuncId → List AV → AW → Out} {N : Nat} {ops : Array Oper} {bs order : List Nat} {F' : Fr} {A' : AW} {μ0 : Mp} {A0 : AW} {w0 : World} {a0 : Act}
  {pre rest : List Nat} {seen : List Seen} {pend : List Pd} {listed : Array Bool} {F : Fr} {A : AW} {μ : Mp} {w : World} {a : Act}
omit [Rho] in
theorem getD_listed {l : Array Bool} {i : Nat} : l.getD i false = true ↔ l[i]? = some true := by
  rw [Array.getD_eq_getD_getElem?]
  cases l[i]? with
  | none => simp
  | some b => simp
theorem St.ahead (hO : OOk ops bs order) (h : St E base call N ops bs order F' A' μ0 A0 w0 a0 pre rest seen pend listed F A μ w a) {i : Nat} (hi : i ∈ Region.ready .any ops listed) (hio : i ∈ order) {b : Nat} (hb : bs[i]? = some b) :
    ∀ j, bit b j = true → listed.getD j false = true := by
  obtain ⟨_, o, ho, hall⟩ := mem_ready.1 hi
  obtain ⟨o', b', hI⟩ := hO.item i hio
  have e1 := hI.op
  rw [ho] at e1
  cases e1
  have e2 := hI.bits
  rw [hb] at e2
  cases e2
  intro j hj
  obtain ⟨e, he, hbd, h1⟩ := hI.cl j hj
  have hl := hall e (by simpa using he) hbd
  rcases h1 with rfl | ⟨m, hm, hmj⟩
  · exact hl
  · exact h.cl _ hl m hm j hmj
theorem St.unl (h : St E base call N ops bs order F' A' μ0 A0 w0 a0 pre rest seen pend listed F A μ w a) {i : Nat} (hi : i ∈ Region.ready .any ops listed) : i < ops.size ∧ listed.getD i false = false := by
  obtain ⟨h1, o, ho, _⟩ := mem_ready.1 hi
  have hlt : i < ops.size := (Array.getElem?_eq_some_iff.1 ho).1
  refine ⟨hlt, ?_⟩
  have : i < listed.size := by rw [h.sz]; exact hlt
  simpa [Array.getD_eq_getD_getElem?, this] using h1
theorem St.notListed (h : St E base call N ops bs order F' A' μ0 A0 w0 a0 pre rest seen pend listed F A μ w a) (hO : OOk ops bs order) {p : Pd} (hp : p ∈ pend) : listed.getD p.i false = false := by
  have hlt : p.i < ops.size := (Array.getElem?_eq_some_iff.1 (h.ok p hp).op).1
  cases hl : listed.getD p.i false
  · rfl
  · exact absurd rfl ((h.lis p.i hlt).1 hl |>.2 p hp)
theorem St.disj (h : St E base call N ops bs order F' A' μ0 A0 w0 a0 pre rest seen pend listed F A μ w a) (hO : OOk ops bs order) {i j : Nat} (hi : i ∈ pre) (hj : j ∈ rest) : PairR ops bs i j := by
  have := hO.pair
  rw [h.ord] at this
  exact (List.pairwise_append.1 this).2.2 i hi j hj
theorem St.mem (h : St E base call N ops bs order F' A' μ0 A0 w0 a0 pre rest seen pend listed F A μ w a) {p : Pd} (hp : p ∈ pend) : p.i ∈ order := by
  rw [h.ord]; exact List.mem_append_left _ (h.pre' p hp)
omit [Rho] in
theorem lis_set {i : Nat} (hi : i < listed.size) (k : Nat) : (listed.setIfInBounds i true).getD k false = true ↔ k = i ∨ listed.getD k false = true := by
  by_cases e : k = i
  · subst e
    simp [Array.getD_eq_getD_getElem?, hi]
  · rw [getD_set_ne false (Ne.symm e)]
    simp [e]
theorem St.clos (hO : OOk ops bs order) (h : St E base call N ops bs order F' A' μ0 A0 w0 a0 pre rest seen pend listed F A μ w a) {i : Nat} (hi : i ∈ Region.ready .any ops listed) (hio : i ∈ order) :
    ∀ k, (listed.setIfInBounds i true).getD k false = true → ∀ m, bs[k]? = some m → ∀ j, bit m j = true → (listed.setIfInBounds i true).getD j false = true := by
  intro k hk m hm j hj
  have hlt : i < listed.size := by rw [h.sz]; exact (h.unl hi).1
  rw [lis_set hlt] at hk ⊢
  rcases hk with rfl | hk
  · exact .inr (h.ahead hO hi hio hm j hj)
  · exact .inr (h.cl k hk m hm j hj)
theorem St.late (hE : EnvOk E) (hO : OOk ops bs order) (h : St E base call N ops bs order F' A' μ0 A0 w0 a0 pre rest seen pend listed F A μ w a) {p : Pd} (hp : p ∈ pend) (hi : p.i ∈ Region.ready .any ops listed) {Q : Exit → Act → World → Prop} {K : Act → World → Prop}
    (hK : ∀ pend' a' w' μ', St E base call N ops bs order F' A' μ0 A0 w0 a0 pre rest seen pend' (listed.setIfInBounds p.i true) F A μ' w' a' → K a' w') : wpOp E.P ops Q p.i K a w := by
  have hP := h.ok p hp
  obtain ⟨o2, b, hI⟩ := hO.item p.i (h.mem hp)
  have e1 := hI.op
  rw [hP.op] at e1
  cases e1
  have hlt : p.i < listed.size := by rw [h.sz]; exact (h.unl hi).1
  have same : ∀ q ∈ pend, q.i = p.i → q.o = p.o ∧ q.d = p.d := fun q hq e => by
    have h2 := (h.ok q hq).dst
    have h3 := hP.dst
    have : q.o = p.o := by have := (h.ok q hq).op; rw [e, hP.op] at this; simpa using this.symm
    refine ⟨this, ?_⟩
    rw [this, h3] at h2
    simpa using h2.symm
  have hlook : ∀ t ∈ p.o.looksAt ops, (hat F pend).get t = F.get t := fun t ht => (hat_get F t pend).2 fun q hq e => by
    subst e
    by_cases e2 : q.i = p.i
    · obtain ⟨h1, h2⟩ := same q hq e2
      have := hI.own
      unfold ownDst at this
      rw [hP.dst, hP.act] at this
      simp only [Bool.false_or] at this
      exact contains_false this (h2 ▸ ht)
    · refine hO.both (h.mem hp) (h.mem hq) (fun e => e2 e.symm) hP.op (h.ok q hq).op hI.bits ?_ (h.ok q hq).act q.d (h.ok q hq).dst ht
      cases hb : bit b q.i
      · rfl
      · have := h.ahead hO hi (h.mem hp) hI.bits q.i hb
        rw [h.notListed hO hq] at this
        cases this
  have hF := h.frm.hat
  have hmem : ∀ q, q ∈ pend.filter (fun q => q.i != p.i) ↔ q ∈ pend ∧ q.i ≠ p.i := fun q => by simp [List.mem_filter]
  have fin : ∀ cv w' μ', VRel μ' p.v cv → Step base μ0 A0 w0 μ' A w' → (∀ f t x, μ f t = some x → μ' f t = some x) → (∀ q ∈ pend, q.i ≠ p.i → ∀ g, q.fam = some g → (A.heap.get g).isSome = true → (∀ t, μ g t = none) → ∀ t, μ' g t = none) → K (a.put p.o.dst cv) w' := fun cv w' μ' hv hst hkeep hun => by
    refine hK (pend.filter fun q => q.i != p.i) _ w' μ' ⟨h.ord, h.run, by simp [h.sz], fun k hk => ?_, h.clos hO hi (h.mem hp), fun q hq => h.pre' q ((hmem q).1 hq).1, fun q hq => ?_, fun q hq => h.see q ((hmem q).1 hq).1,
      fun q hq r hr => h.dis q ((hmem q).1 hq).1 r ((hmem r).1 hr).1, hst, ⟨?_, fun t v ht hvt => ?_⟩, ?_⟩
    · rw [lis_set hlt, h.lis k hk]
      constructor
      · rintro (rfl | ⟨h1, h2⟩)
        · exact ⟨h.pre' p hp, fun q hq => ((hmem q).1 hq).2⟩
        · exact ⟨h1, fun q hq => h2 q ((hmem q).1 hq).1⟩
      · rintro ⟨h1, h2⟩
        by_cases e : k = p.i
        · exact .inl e
        · refine .inr ⟨h1, fun q hq e2 => ?_⟩
          exact h2 q ((hmem q).2 ⟨hq, fun e3 => e (e2.symm.trans e3)⟩) e2
    · obtain ⟨hq1, hq2⟩ := (hmem q).1 hq
      obtain ⟨k1, k2, k3, k4, k5, k0, k6⟩ := h.ok q hq1
      refine ⟨k1, k2, k3, k4, k5, k0, ?_⟩
      rcases k6 with k6 | k6 | ⟨k6, g, Fm, k7, k8, k9, k10, k11⟩
      · exact .inl k6
      · exact .inr (.inl k6)
      · exact .inr (.inr ⟨k6, g, Fm, k7, k8, k9, hun q hq1 hq2 g k7 (by rw [k9]; rfl) k10, k11⟩)
    · rw [hP.dst]; simp only [Act.put, Array.size_setIfInBounds]; exact h.frm.1
    · rw [hP.dst]
      simp only [Act.put]
      rw [getD_put _ _ _ _ (Nat.lt_of_lt_of_le hP.lt h.frm.1)]
      by_cases e : t = p.d
      · subst e
        rw [hP.val] at hvt
        cases hvt
        rw [if_pos rfl]
        exact hv
      · rw [if_neg e]
        refine (h.frm.2 t v (fun q hq e2 => ?_) hvt).mono hkeep
        by_cases e3 : q.i = p.i
        · exact e (e2.symm.trans (same q hq e3).2)
        · exact ht q ((hmem q).2 ⟨hq, e3⟩) e2
    · rw [← h.dfr]
      cases p.o.dst <;> rfl
  have hold : ∀ {μ' : Mp} {w' : World}, Step base μ A w μ' A w' → ∀ q ∈ pend, q.i ≠ p.i → ∀ g, q.fam = some g → (A.heap.get g).isSome = true → (∀ t, μ g t = none) → ∀ t, μ' g t = none := fun hst q _ _ g _ hg hn => by
    obtain ⟨x, hx⟩ := Option.isSome_iff_exists.1 hg
    exact (hst.pend g (h.step.rel.lt g x hx) hn).1
  unfold wpOp
  simp only [hP.op]
  have hwc : ∀ {c : Bool}, wantedA ops.toList F p.o = some c → Region.wanted p.o (yielded ops a.tmps) = c := fun {c} hc => by
    have := wanted_sound hF ((looks_wanted hlook).trans hc)
    simpa using this
  rcases hP.how with ⟨h1, h2⟩ | ⟨h1, h2, h3⟩ | ⟨h1, g, Fm, h2, h3, h4, h5, h6⟩
  · rw [if_neg (by rw [hwc h1]; simp)]
    exact fin undef w μ (by rw [h2]; exact .tuple (by simp) (by simp)) h.step (fun _ _ _ hx => hx) (fun _ _ _ _ _ _ hn => hn)
  · rw [if_pos (hwc h1)]
    refine .inl ?_
    exact exec_wp hE h.step.rel ((looks_exec hlook A).trans h3) hF.ev fun cv w' μ' hv hst => fin cv w' μ' hv (h.step.trans hst) hst.keep (hold hst)
  · rw [if_pos (hwc h1)]
    refine .inl ?_
    obtain ⟨mk, s, q1, q2, q3⟩ := h6 (hat F pend) (looks_ev hlook) μ w a hF.ev
    obtain ⟨cv, w1, μ', r1, r2, r3, r4, r5⟩ := q2.late h.step h3 h4 h5
    refine wp_value (by rw [q3]; exact value_run r1) (fin cv w1 μ' (by rw [q1]; exact r2) r3 r4 fun q hq hne g' hg' _ hn => r5 g' (fun e => ?_) hn)
    subst e
    exact hne (h.dis q hq p hp g' hg' h2)
theorem float_keeps (hE : EnvOk E) {o : Oper} {A1 : AW} {v : AV} (h : Rel base μ A w) (ha : acts o.op = false) (hm : makes o.op = false → A1.nxt = A.nxt) (hx : execA E F o A = .val v A1) :
    (makes o.op = false → A1 = A) ∧ Ext A A1 := by
  cases hmk : makes o.op
  · have := (float_ext (B := A) ha hmk hx (hm hmk) (fun _ _ _ h => h)).2
    exact ⟨fun _ => this, by rw [this]; exact fun _ _ h => h⟩
  · obtain ⟨Fm, e, _⟩ := makes_late hE hmk hx
    refine ⟨by simp, fun f x hf => ?_⟩
    rw [e]
    simp only [Tr.get_set]
    rw [if_neg (by have := h.lt f x hf; omega)]
    exact hf
theorem PdOk.next {n0 : Nat} {q : Pd} (hP : PdOk E ops N F A μ n0 q) {F1 : Fr} {A1 : AW} {μ1 : Mp} {dst : Option Tmp} {v : AV} (hput : putF N F dst v A1 = .ok F1 A1) (hd : ∀ d, dst = some d → d ∉ q.o.looksAt ops) (hne : dst ≠ some q.d) (hnx : A.nxt ≤ A1.nxt)
    (hex : makes q.o.op = false → wantedA ops.toList F q.o = some true → execA E F q.o A = .val q.v A → execA E F1 q.o A1 = .val q.v A1)
    (hg : ∀ g Fm, q.fam = some g → A.heap.get g = some Fm → (∀ t, μ g t = none) → A1.heap.get g = some Fm ∧ ∀ t, μ1 g t = none) : PdOk E ops N F1 A1 μ1 n0 q ∧ wantedA ops.toList F1 q.o = wantedA ops.toList F q.o := by
  obtain ⟨_, hget, _⟩ := putF_get hput
  have hlook : ∀ t ∈ q.o.looksAt ops, F1.get t = F.get t := fun t ht => by
    rw [hget, if_neg]
    intro e
    exact hd t e ht
  have hw := looks_wanted hlook
  refine ⟨⟨hP.op, hP.act, hP.dst, hP.lt, ?_, fun g hg => Nat.lt_of_lt_of_le (hP.has g hg) hnx, ?_⟩, hw⟩
  · rw [hget, if_neg hne]; exact hP.val
  · rcases hP.how with h1 | ⟨h1, h2, h3⟩ | ⟨h1, g, Fm, h2, h3, h4, h5, h6⟩
    · exact .inl ⟨hw.trans h1.1, h1.2⟩
    · exact .inr (.inl ⟨hw.trans h1, h2, hex h2 h1 h3⟩)
    · obtain ⟨k1, k2⟩ := hg g Fm h2 h4 h5
      refine .inr (.inr ⟨hw.trans h1, g, Fm, h2, h3, k1, k2, fun F2 hF2 => h6 F2 fun x hx => (hF2 x hx).trans (looks_ev hlook x hx)⟩)
omit [Rho] in
theorem looks_one {call : FuncId → List AV → AW → Out} {F2 F1 : Fr} {A1 : AW} {o : Oper} (h : ∀ t ∈ o.looksAt ops, F2.get t = F.get t) (h1 : oneA E call N ops.toList o F A = .ok F1 A1) :
    ∃ v F3, putF N F o.dst v A1 = .ok F1 A1 ∧ putF N F2 o.dst v A1 = .ok F3 A1 ∧ oneA E call N ops.toList o F2 A = .ok F3 A1 := by
  obtain ⟨v, hp, hk⟩ := oneA_inv h1
  have ⟨_, _, hlt⟩ := putF_get hp
  have : ∃ F3, putF N F2 o.dst v A1 = .ok F3 A1 := by
    unfold putF
    cases hd : o.dst with
    | none => exact ⟨F2, rfl⟩
    | some d =>
      have := hlt d hd
      refine ⟨F2.set d v, ?_⟩
      have hb : Nat.blt d N = true := by rw [blt_eq]; simpa using this
      simp only [hb, cond_true]
  obtain ⟨F3, h3⟩ := this
  refine ⟨v, F3, hp, h3, ?_⟩
  unfold oneA
  rw [looks_wanted h, looks_exec h]
  rcases hk with ⟨hw, hx | ⟨f, args, hx, hc⟩⟩ | ⟨hw, rfl, rfl⟩
  · simp only [hw, hx]; exact h3
  · simp only [hw, hx, hc]; exact h3
  · simp only [hw]; exact h3
theorem St.both (hE : EnvOk E) (hC : CallOk E base call) (hO : OOk ops bs order) {i : Nat} (h : St E base call N ops bs order F' A' μ0 A0 w0 a0 pre (i :: rest) seen pend listed F A μ w a) (hi : i ∈ Region.ready .any ops listed)
    {Q : Exit → Act → World → Prop} {K : Act → World → Prop}
    (hK : ∀ seen' F1 A1 a' w' μ', St E base call N ops bs order F' A' μ0 A0 w0 a0 (pre ++ [i]) rest seen' pend (listed.setIfInBounds i true) F1 A1 μ' w' a' → K a' w') : wpOp E.P ops Q i K a w := by
  have hio : i ∈ order := by rw [h.ord]; simp
  obtain ⟨o, b, hI⟩ := hO.item i hio
  have hop := hI.op
  have hlt : i < listed.size := by rw [h.sz]; exact (h.unl hi).1
  obtain ⟨F1, A1, seen', h1, h2, h3, h4, h5, h6⟩ := drawA_inv (o := o) (b := b) (by simpa using hop) hI.bits h.run
  have hR : ∀ q ∈ pend, PairR ops bs q.i i := fun q hq => h.disj hO (h.pre' q hq) (List.mem_cons_self ..)
  have hbit : ∀ q ∈ pend, bit b q.i = false := fun q hq => by
    cases hb : bit b q.i
    · rfl
    · have := h.ahead hO hi hio hI.bits q.i hb
      rw [h.notListed hO hq] at this
      cases this
  have hfree := fun q hq => (hR q hq).free (h.ok q hq).op hop hI.bits (hbit q hq)
  have hlook : ∀ t ∈ o.looksAt ops, (hat F pend).get t = F.get t := fun t ht => (hat_get F t pend).2 fun q hq e => by
    subst e
    exact (hfree q hq).2.1 q.d (h.ok q hq).dst ht
  obtain ⟨v, F3, p1, p2, p3⟩ := looks_one hlook h1
  refine one_sound (all := ops.toList) hE hC (by simpa using hop) p3 h.step.rel h.frm.hat fun cv w' μ' hv hst hF3 => ?_
  refine hK seen' F1 A1 _ w' μ' ⟨by rw [h.ord]; simp, h2, by simp [h.sz], fun k hk => ?_, h.clos hO hi hio, fun q hq => List.mem_append_left _ (h.pre' q hq), fun q hq => ?_, fun q hq k1 k2 k3 => ?_, h.dis, h.step.trans hst, ⟨hF3.1, fun t u ht hu => ?_⟩, ?_⟩
  · rw [lis_set hlt, h.lis k hk]
    constructor
    · rintro (rfl | ⟨h1, h2⟩)
      · exact ⟨by simp, fun q hq e => (hR q hq).1 e⟩
      · exact ⟨List.mem_append_left _ h1, h2⟩
    · rintro ⟨h1, h2⟩
      rcases List.mem_append.1 h1 with h1 | h1
      · exact .inr ⟨h1, h2⟩
      · simp at h1; exact .inl h1
  · refine (PdOk.next (h.ok q hq) p1 (hfree q hq).2.2 ((hR q hq).dst (h.ok q hq).op hop hI.bits q.d (h.ok q hq).dst) hst.nxt (fun m1 m2 m3 => ?_) (fun g Fm k1 k2 k3 => ?_)).1
    · have hlk : ∀ t ∈ q.o.looksAt ops, F1.get t = F.get t := fun t ht => by
        rw [(putF_get p1).2.1, if_neg]
        intro e
        exact (hfree q hq).2.2 t e ht
      cases ha : acts o.op
      · -- what does not act
        have hext : Ext A A1 := by
          obtain ⟨v', q1, q2⟩ := oneA_inv h1
          rcases q2 with ⟨_, hx | ⟨f, args, hx, _⟩⟩ | ⟨_, _, rfl⟩
          · exact (float_keeps hE h.step.rel ha (h5 ha) hx).2
          · exact absurd hx (noacts_enter ha)
          · exact fun _ _ h => h
        rw [looks_exec hlk]
        exact (float_ext (h.ok q hq).act m1 m3 rfl (fun _ => hext)).1
      · cases hr : reads q.o.op
        · rw [looks_exec hlk]
          exact (float_ext (h.ok q hq).act m1 m3 rfl (fun hx => by rw [hr] at hx; cases hx)).1
        · obtain ⟨B, x1, x2⟩ := still_spec (h4 ha) ⟨q.i, q.o, q.v⟩ (h.see q hq m1 hr m2) (hbit q hq)
          have := (float_ext (B := A1) (h.ok q hq).act m1 x1 x2 (fun _ _ _ h => h)).1
          exact this
    · have hlt' := h.step.rel.lt g Fm k2
      obtain ⟨x, y⟩ := hst.pend g hlt' k3
      exact ⟨y.trans k2, x⟩
  · have hw : wantedA ops.toList F1 q.o = wantedA ops.toList F q.o := looks_wanted fun t ht => by
      rw [(putF_get p1).2.1, if_neg]
      intro e
      exact (hfree q hq).2.2 t e ht
    exact h3 _ (h.see q hq k1 k2 (hw ▸ k3))
  · refine hF3.2 t u ?_
    rw [(putF_get p2).2.1]
    rw [(putF_get p1).2.1] at hu
    split at hu
    · rename_i e; rw [if_pos e]; exact hu
    · rename_i e
      rw [if_neg e, (hat_get F t pend).2 ht]
      exact hu
  · rw [← h.dfr]
    cases o.dst <;> rfl
theorem St.alone (hE : EnvOk E) (hO : OOk ops bs order) {j : Nat} (h : St E base call N ops bs order F' A' μ0 A0 w0 a0 pre (j :: rest) seen pend listed F A μ w a) (ha : ∀ o, ops[j]? = some o → acts o.op = false) :
    ∃ seen' pend' F1 A1, St E base call N ops bs order F' A' μ0 A0 w0 a0 (pre ++ [j]) rest seen' pend' listed F1 A1 μ w a := by
  have hjo : j ∈ order := by rw [h.ord]; simp
  obtain ⟨o, b, hI⟩ := hO.item j hjo
  have hop := hI.op
  have ha := ha o hop
  obtain ⟨F1, A1, seen', h1, h2, h3, h4, h5, h6⟩ := drawA_inv (o := o) (b := b) (by simpa using hop) hI.bits h.run
  obtain ⟨v, p1, p2⟩ := oneA_inv h1
  have hown := hI.own
  obtain ⟨d, hd, hdl⟩ : ∃ d, o.dst = some d ∧ d ∉ o.looksAt ops := by
    unfold ownDst at hown
    rw [ha] at hown
    cases hd : o.dst with
    | none => rw [hd] at hown; cases hown
    | some d =>
      rw [hd] at hown
      exact ⟨d, rfl, contains_false (by simpa using hown)⟩
  obtain ⟨_, hget, hltN⟩ := putF_get p1
  have hR : ∀ q ∈ pend, PairR ops bs q.i j := fun q hq => h.disj hO (h.pre' q hq) (List.mem_cons_self ..)
  -- the memory
  have hmem : A.nxt ≤ A1.nxt ∧ Ext A A1 ∧ Step base μ0 A0 w0 μ A1 w ∧ (wantedA ops.toList F o = some true → makes o.op = true → ∃ Fm, A1.heap.get A.nxt = some Fm ∧ Late E F o v A.nxt Fm) ∧ (makes o.op = false → A1 = A) := by
    rcases p2 with ⟨hw, hx | ⟨f, args, hx, _⟩⟩ | ⟨hw, _, rfl⟩
    · have k := float_keeps hE h.step.rel ha (h5 ha) hx
      refine ⟨?_, k.2, ?_, fun _ hm => ?_, k.1⟩
      · cases hm : makes o.op
        · rw [k.1 hm]; exact Nat.le_refl _
        · obtain ⟨Fm, e, _⟩ := makes_late hE hm hx
          rw [e]
          exact Nat.le_succ _
      · cases hm : makes o.op
        · rw [k.1 hm]; exact h.step
        · obtain ⟨Fm, e, _⟩ := makes_late hE hm hx
          rw [e]
          exact h.step.trans (Step.ahead h.step.rel Fm)
      · obtain ⟨Fm, e, hl⟩ := makes_late hE hm hx
        exact ⟨Fm, by rw [e]; simp [Tr.get_set], hl⟩
    · exact absurd hx (noacts_enter ha)
    · exact ⟨Nat.le_refl _, fun _ _ h => h, h.step, fun hw' => by rw [hw] at hw'; simp at hw', fun _ => rfl⟩
  obtain ⟨hnx, hext, hstep, hmk, hsame⟩ := hmem
  have hself : ∀ t ∈ o.looksAt ops, F1.get t = F.get t := fun t ht => by
    rw [hget, if_neg]
    intro e
    rw [hd] at e
    cases e
    exact hdl ht
  have hval : F1.get d = some v := by rw [hget, if_pos hd]
  have hother : ∀ q ∈ pend, PdOk E ops N F1 A1 μ A0.nxt q ∧ wantedA ops.toList F1 q.o = wantedA ops.toList F q.o := fun q hq => by
    have hnl := (hR q hq).back (h.ok q hq).op hop hI.bits ha
    refine PdOk.next (h.ok q hq) p1 hnl ((hR q hq).dst (h.ok q hq).op hop hI.bits q.d (h.ok q hq).dst) hnx (fun m1 m2 m3 => ?_) (fun g Fm k1 k2 k3 => ⟨hext _ _ k2, k3⟩)
    have hlk : ∀ t ∈ q.o.looksAt ops, F1.get t = F.get t := fun t ht => by
      rw [hget, if_neg]
      intro e
      exact hnl t e ht
    rw [looks_exec hlk]
    exact (float_ext (h.ok q hq).act m1 m3 rfl (fun _ => hext)).1
  have hno : ∀ q ∈ pend, ∀ g, q.fam = some g → g ≠ A.nxt := fun q hq g hg e => by
    have := (h.ok q hq).has g hg
    omega
  refine ⟨seen', ⟨j, o, d, v, if makes o.op = true ∧ wantedA ops.toList F o = some true then some A.nxt else none⟩ :: pend, F1, A1, ⟨by rw [h.ord]; simp, h2, h.sz, fun k hk => ?_, h.cl, fun q hq => ?_, fun q hq => ?_, fun q hq k1 k2 k3 => ?_, fun q hq r hr g hg1 hg2 => ?_, hstep, ⟨h.frm.1, fun t u ht hu => ?_⟩, h.dfr⟩⟩
  · rw [h.lis k hk]
    constructor
    · rintro ⟨h1, h2⟩
      refine ⟨List.mem_append_left _ h1, fun q hq => ?_⟩
      rcases List.mem_cons.1 hq with rfl | hq
      · exact fun e => (h.disj hO h1 (List.mem_cons_self ..)).1 e.symm
      · exact h2 q hq
    · rintro ⟨h1, h2⟩
      have hj := h2 _ (List.mem_cons_self ..)
      refine ⟨?_, fun q hq => h2 q (List.mem_cons_of_mem _ hq)⟩
      rcases List.mem_append.1 h1 with h1 | h1
      · exact h1
      · simp at h1; exact absurd h1.symm hj
  · rcases List.mem_cons.1 hq with rfl | hq
    · simp
    · exact List.mem_append_left _ (h.pre' q hq)
  · rcases List.mem_cons.1 hq with rfl | hq
    · refine ⟨hop, ha, hd, hltN d hd, hval, fun g hg => ?_, ?_⟩
      · simp only at hg
        split at hg
        · rename_i hc
          cases hg
          obtain ⟨Fm, k1, _⟩ := hmk hc.2 hc.1
          exact hstep.rel.lt _ _ k1
        · cases hg
      have hw := looks_wanted hself
      rcases p2 with ⟨hw1, hx | ⟨f, args, hx, _⟩⟩ | ⟨hw1, hv, _⟩
      · cases hm : makes o.op
        · refine .inr (.inl ⟨hw.trans hw1, rfl, ?_⟩)
          simp only
          rw [looks_exec hself]
          rw [hsame hm] at hx ⊢
          exact hx
        · obtain ⟨Fm, k1, k2⟩ := hmk hw1 hm
          refine .inr (.inr ⟨hw.trans hw1, A.nxt, Fm, by simp [hm, hw1], h.step.nxt, k1, fun t => ?_, fun F2 hF2 => k2 F2 fun x hx => (hF2 x hx).trans (looks_ev hself x hx)⟩)
          cases hp : μ A.nxt t with
          | none => rfl
          | some q => obtain ⟨_, F', hF', _⟩ := h.step.rel.dom _ _ _ hp; have := h.step.rel.lt _ _ hF'; omega
      · exact absurd hx (noacts_enter ha)
      · exact .inl ⟨hw.trans hw1, hv⟩
    · exact (hother q hq).1
  · rcases List.mem_cons.1 hq with rfl | hq
    · exact h6 ha k1 ((looks_wanted hself) ▸ k3) k2 d v hd hval
    · exact h3 _ (h.see q hq k1 k2 ((hother q hq).2 ▸ k3))
  · rcases List.mem_cons.1 hq with rfl | hq <;> rcases List.mem_cons.1 hr with rfl | hr
    · rfl
    · simp only at hg1
      split at hg1
      · cases hg1
        exact absurd rfl (hno r hr _ hg2)
      · cases hg1
    · simp only at hg2
      split at hg2
      · cases hg2
        exact absurd rfl (hno q hq _ hg1)
      · cases hg2
    · exact h.dis q hq r hr g hg1 hg2
  · refine h.frm.2 t u (fun q hq => ht q (List.mem_cons_of_mem _ hq)) ?_
    rw [hget, if_neg] at hu
    · exact hu
    · intro e
      rw [hd] at e
      cases e
      exact ht _ (List.mem_cons_self ..) rfl
theorem St.finish (hO : OOk ops bs order) (h : St E base call N ops bs order F' A' μ0 A0 w0 a0 pre rest seen pend listed F A μ w a) (hall : ∀ i, i < ops.size → listed.getD i false = true) {Q : Exit → Act → World → Prop}
    (hQ : ∀ a' w' μ', a'.defers = a0.defers → Step base μ0 A0 w0 μ' A' w' → FRel μ' N F' a' → Q .normal a' w') : Q .normal a w := by
  have hp : pend = [] := by
    rcases pend with _ | ⟨p, l⟩
    · rfl
    · have h1 := h.notListed hO (List.mem_cons_self ..)
      have := hall p.i (Array.getElem?_eq_some_iff.1 (h.ok p (List.mem_cons_self ..)).op).1
      rw [h1] at this
      cases this
  subst hp
  have hr : rest = [] := by
    rcases rest with _ | ⟨j, l⟩
    · rfl
    · have hjo : j ∈ order := by rw [h.ord]; simp
      obtain ⟨o, b, hI⟩ := hO.item j hjo
      have hlt : j < ops.size := (Array.getElem?_eq_some_iff.1 hI.op).1
      have := ((h.lis j hlt).1 (hall j hlt)).1
      exact absurd rfl (h.disj hO this (List.mem_cons_self ..)).1
  subst hr
  have := h.run
  simp only [drawA, ResF.ok.injEq] at this
  obtain ⟨rfl, rfl⟩ := this
  exact hQ a w μ h.dfr h.step ⟨h.frm.1, fun t v hv => h.frm.2 t v (by simp) hv⟩
omit [Rho] in
theorem first_such {P : Nat → Prop} : ∀ {l : List Nat}, (∃ x ∈ l, P x) → ∃ a j b, l = a ++ j :: b ∧ P j ∧ ∀ x ∈ a, ¬ P x
  | [], ⟨x, hx, _⟩ => by cases hx
  | y :: l, ⟨x, hx, hP⟩ => by
    by_cases hy : P y
    · exact ⟨[], y, l, rfl, hy, by simp⟩
    · have : ∃ x ∈ l, P x := by
        rcases List.mem_cons.1 hx with e | hx
        · exact absurd (e ▸ hP) hy
        · exact ⟨x, hx, hP⟩
      obtain ⟨a, j, b, h1, h2, h3⟩ := first_such this
      refine ⟨y :: a, j, b, by rw [h1]; rfl, h2, fun z hz => ?_⟩
      rcases List.mem_cons.1 hz with rfl | hz
      · exact hy
      · exact h3 z hz
theorem St.stuck (hO : OOk ops bs order) (h : St E base call N ops bs order F' A' μ0 A0 w0 a0 pre rest seen pend listed F A μ w a) (hr : Region.ready .any ops listed = []) : ∀ i, i < ops.size → listed.getD i false = true := by
  intro i hi
  cases hl : listed.getD i false with
  | true => rfl
  | false =>
    obtain ⟨l1, j, l2, e, hj, hb⟩ := first_such (P := fun x => listed.getD x false = false) ⟨i, hO.all i hi, hl⟩
    have hjo : j ∈ order := by rw [e]; simp
    obtain ⟨o, b, hI⟩ := hO.item j hjo
    have hlt : j < listed.size := by rw [h.sz]; exact (Array.getElem?_eq_some_iff.1 hI.op).1
    have : j ∈ Region.ready .any ops listed := by
      refine mem_ready.2 ⟨by simpa [Array.getD_eq_getD_getElem?, hlt] using hj, o, hI.op, fun ed hm hbd => ?_⟩
      have := hO.edge l1 j l2 e o hI.op ed (by simpa using hm) hbd
      simpa using hb _ this
    rw [hr] at this
    cases this
theorem St.one (hE : EnvOk E) (hC : CallOk E base call) (hO : OOk ops bs order) {i : Nat} {Q : Exit → Act → World → Prop} {K : Act → World → Prop}
    (hK : ∀ pre rest seen pend F A a w μ, St E base call N ops bs order F' A' μ0 A0 w0 a0 pre rest seen pend (listed.setIfInBounds i true) F A μ w a → K a w) (hi : i ∈ Region.ready .any ops listed) :
    ∀ (rest pre : List Nat) (seen : List Seen) (pend : List Pd) (F : Fr) (A : AW), St E base call N ops bs order F' A' μ0 A0 w0 a0 pre rest seen pend listed F A μ w a → wpOp E.P ops Q i K a w := by
  intro rest
  induction rest with
  | nil =>
    intro pre seen pend F A h
    have hu := h.unl hi
    have hio := hO.all i hu.1
    rw [h.ord, List.append_nil] at hio
    have : ∃ p ∈ pend, p.i = i := by
      rcases Classical.em (∃ p ∈ pend, p.i = i) with hh | hh
      · exact hh
      · have := (h.lis i hu.1).2 ⟨hio, fun p hp e => hh ⟨p, hp, e⟩⟩
        rw [hu.2] at this
        cases this
    obtain ⟨p, hp, rfl⟩ := this
    exact h.late hE hO hp hi fun pend' a' w' μ' h' => hK _ _ _ _ _ _ _ _ _ h'
  | cons j rest ih =>
    intro pre seen pend F A h
    have hu := h.unl hi
    have hio := hO.all i hu.1
    by_cases hip : i ∈ pre
    · have : ∃ p ∈ pend, p.i = i := by
        rcases Classical.em (∃ p ∈ pend, p.i = i) with hh | hh
        · exact hh
        · have := (h.lis i hu.1).2 ⟨hip, fun p hp e => hh ⟨p, hp, e⟩⟩
          rw [hu.2] at this
          cases this
      obtain ⟨p, hp, rfl⟩ := this
      exact h.late hE hO hp hi fun pend' a' w' μ' h' => hK _ _ _ _ _ _ _ _ _ h'
    · by_cases e : j = i
      · subst e
        exact h.both hE hC hO hi fun seen' F1 A1 a' w' μ' h' => hK _ _ _ _ _ _ _ _ _ h'
      · have hir : i ∈ rest := by
          have := hio
          rw [h.ord] at this
          rcases List.mem_append.1 this with h1 | h1
          · exact absurd h1 hip
          · rcases List.mem_cons.1 h1 with h1 | h1
            · exact absurd h1.symm e
            · exact h1
        have hR : PairR ops bs j i := by
          have := hO.pair
          rw [h.ord] at this
          exact (List.pairwise_cons.1 (List.pairwise_append.1 this).2.1).1 i hir
        obtain ⟨oi, bi, hI⟩ := hO.item i hio
        have hjl : listed.getD j false = false := by
          have hjo : j ∈ order := by rw [h.ord]; simp
          obtain ⟨oj, bj, hJ⟩ := hO.item j hjo
          have hlt : j < ops.size := (Array.getElem?_eq_some_iff.1 hJ.op).1
          cases hl : listed.getD j false
          · rfl
          · exact absurd rfl (h.disj hO ((h.lis j hlt).1 hl).1 (List.mem_cons_self ..)).1
        obtain ⟨seen', pend', F1, A1, h'⟩ := h.alone hE hO fun o ho => by
          refine (hR.free ho hI.op hI.bits ?_).1
          cases hb : bit bi j
          · rfl
          · have := h.ahead hO hi hio hI.bits j hb
            rw [hjl] at this
            cases this
        exact ih _ _ _ _ _ h'
omit [Rho] in
theorem count_set : ∀ (l : List Bool) (i : Nat), l[i]? = some false → (l.set i true).count false + 1 = l.count false
  | [], i, h => by simp at h
  | b :: l, 0, h => by
    simp at h
    subst h
    simp
  | b :: l, i + 1, h => by
    have := count_set l i (by simpa using h)
    simp only [List.set_cons_succ, List.count_cons]
    omega
theorem St.any (hE : EnvOk E) (hC : CallOk E base call) (hO : OOk ops bs order) {Q : Exit → Act → World → Prop}
    (hQ : ∀ a' w' μ', a'.defers = a0.defers → Step base μ0 A0 w0 μ' A' w' → FRel μ' N F' a' → Q .normal a' w') :
    ∀ (fuel : Nat) (pre rest : List Nat) (seen : List Seen) (pend : List Pd) (listed : Array Bool) (F : Fr) (A : AW) (μ : Mp) (w : World) (a : Act), St E base call N ops bs order F' A' μ0 A0 w0 a0 pre rest seen pend listed F A μ w a →
      listed.toList.count false ≤ fuel → wpAny E.P .any ops Q fuel listed a w
  | 0, pre, rest, seen, pend, listed, F, A, μ, w, a, h, hc => by
    have hall : ∀ i, i < ops.size → listed.getD i false = true := fun i hi => by
      have hlt : i < listed.size := by rw [h.sz]; exact hi
      have hm : false ∉ listed.toList := List.count_eq_zero.1 (by omega)
      rw [getD_listed]
      cases hb : listed[i]? with
      | none => rw [Array.getElem?_eq_none_iff] at hb; omega
      | some b =>
        cases b
        · exact absurd (by simpa using Array.mem_of_getElem? hb) hm
        · rfl
    refine ⟨?_, h.finish hO hall hQ⟩
    cases hr : Region.ready .any ops listed with
    | nil => rfl
    | cons i l =>
      have := h.unl (i := i) (by rw [hr]; exact List.mem_cons_self ..)
      rw [hall i this.1] at this
      cases this.2
  | fuel + 1, pre, rest, seen, pend, listed, F, A, μ, w, a, h, hc => by
    refine ⟨fun hr => h.finish hO (h.stuck hO hr) hQ, fun i hi => ?_⟩
    refine St.one hE hC hO (fun pre rest seen pend F A a w μ h' => St.any hE hC hO hQ fuel pre rest seen pend _ F A μ w a h' ?_) hi rest pre seen pend F A h
    have hu := h.unl hi
    have hlt : i < listed.size := by rw [h.sz]; exact hu.1
    have := count_set listed.toList i (by
      have := hu.2
      rw [Array.getD_eq_getD_getElem?] at this
      rw [Array.getElem?_toList]
      simp [hlt] at this ⊢
      exact this)
    simp only [Array.toList_setIfInBounds]
    omega
end
theorem draw_sound {E : Env} {base : Nat} (hE : EnvOk E) : DrawHyp E base := by
  intro call hC N id ops order bs F F' A A' μ w a Q hok hl h hF hQ
  have hO := drawOk_spec hok
  refine wp_region_any hE.mixed ?_
  have hs : Step base μ A w μ A { w with drawn := w.drawn + 1 } := Step.side h ⟨rfl, rfl, rfl⟩ rfl
  refine St.any (μ0 := μ) (A0 := A) (w0 := w) (a0 := a) (N := N) (F' := F') (A' := A') (bs := bs) (order := order) hE hC hO hQ _ [] order [] [] _ F A μ _ a ⟨rfl, hl, by simp, fun i hi => by simp [Array.getD_eq_getD_getElem?, hi], fun k hk => ?_, by simp, by simp, by simp, by simp, hs, ⟨hF.1, fun t v _ hv => hF.2 t v hv⟩, rfl⟩ ?_
  · rw [getD_listed, Array.getElem?_replicate] at hk
    split at hk <;> cases hk
  · rw [Array.toList_replicate]
    exact Nat.le_trans (List.count_le_length ..) (by simp)
theorem call_ok {E : Env} {base : Nat} (hE : EnvOk E) (n : Nat) : CallOk E base (AE.call E n) := call_sound hE (draw_sound hE) n
end Go.AE
