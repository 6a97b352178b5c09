/-
  THE TWIN, second part: all operations, regions, calls.
  THE EVALUATOR BY RULES, over what is known of a frame: judgements for values and memory that are not written out.
-/
import Derived.Test.YtiecclkgjcnaoaaGreatAiFast
namespace Go.AE.R
open Go.AE Go.RowKit
set_option linter.unusedVariables false
set_option linter.unusedSimpArgs false
variable [Rho]
noncomputable section
def blt (b : Builtin) (tys : List TypeId) (args : List AV) (E : Env) (A : AW) : OpE :=
  Bool.rec (motive := fun _ => OpE) (Bool.rec (motive := fun _ => OpE) (liftR (builtinA E b tys args A)) (apA args E tys A)
    (Builtin.rec (motive := fun _ => Bool) true false false false false false false false false false false false false false false false false false false false false false false false false false b)) (len1 args E tys A) (Builtin.rec (motive := fun _ => Bool) false false false false false false false false true false false false false false false false false false false false false false false false false false b)
end
end Go.AE.R
namespace Go.AE
set_option linter.unusedVariables false
def CallV (E : Env) (f : FuncId) (args : List AV) (A : AW) (v : AV) (A' : AW) : Prop := ∃ n0, ∀ n, n0 ≤ n → call E n f args A = .val v A'
def CallP (E : Env) (f : FuncId) (args : List AV) (A : AW) (Q : AV → AW → Prop) : Prop := ∃ v A', Q v A' ∧ CallV E f args A v A'
def Rets (E : Env) (C : FnE) (todo : List Item) (F : Fr) (A : AW) (F' : Fr) (A' : AW) : Prop := ∃ n0, ∀ n, n0 ≤ n → go E n C todo F A = .ret F' A'
def OneV (E : Env) (N : Nat) (all : List Oper) (o : Oper) (F : Fr) (A : AW) (F' : Fr) (A' : AW) : Prop :=
  ∃ n0, ∀ n, n0 ≤ n → oneA E (fun f args A => bodyOf E f args A (go E n)) N all o F A = .ok F' A'
def OpsV (E : Env) (N : Nat) (all l : List Oper) (F : Fr) (A : AW) (F' : Fr) (A' : AW) : Prop :=
  ∃ n0, ∀ n, n0 ≤ n → opsA E (fun f args A => bodyOf E f args A (go E n)) N all l F A = .ok F' A'
theorem CallP.mono {E : Env} {f : FuncId} {args : List AV} {A : AW} {Q Q' : AV → AW → Prop} (h : CallP E f args A Q) (hq : ∀ v A', Q v A' → Q' v A') : CallP E f args A Q' := by
  obtain ⟨v, A', q, c⟩ := h
  exact ⟨v, A', hq _ _ q, c⟩
inductive Kn where
  | nil
  | put (t : Nat) (v : AV) (k : Kn)
  | clr (m : Nat) (k : Kn)
def Kn.find : Kn → Nat → Option AV
  | .nil, _ => none
  | .put t v k, j => bif Nat.beq t j then some v else k.find j
  | .clr m k, j => bif bit m j then k.find j else none
def Kn.le : Kn → Kn → Prop
  | .nil, _ => True
  | .put t v k, l => l.find t = some v ∧ k.le l
  | .clr _ _, _ => False
structure Kf (C : FnE) (l : Kn) (F : Fr) : Prop where
  mask : F.mask = C.mask
  get : ∀ t v, l.find t = some v → F.get t = some v
def evO (l : Kn) : Operand → Option AV
  | .tmp t => l.find t
  | .const v => some (ofConst v)
  | .global _ => none
  | .func f => some (.func f [] [])
def evsO (l : Kn) : List Operand → Option (List AV)
  | [] => some []
  | x :: xs => match evO l x, evsO l xs with
    | some v, some vs => some (v :: vs)
    | _, _ => none
def partsO (l : Kn) : List (Nat × Operand) → Option (List (Nat × AV))
  | [] => some []
  | (i, x) :: xs => match evO l x, partsO l xs with
    | some v, some vs => some ((i, v) :: vs)
    | _, _ => none
section
variable {C : FnE} {l : Kn} {F : Fr}
theorem Kf.ev (h : Kf C l F) {x : Operand} {v : AV} (hx : evO l x = some v) : AE.ev F x = v := by
  cases x with
  | tmp t =>
    show (match F.get t with
      | some v => v
      | none => AV.undef) = v
    rw [h.get t v hx]
  | const w => exact Option.some.inj hx
  | global g => cases hx
  | func f => exact Option.some.inj hx
theorem Kf.evs (h : Kf C l F) : ∀ {xs : List Operand} {vs : List AV}, evsO l xs = some vs → AE.evs F xs = vs
  | [], vs, hx => Option.some.inj hx
  | x :: xs, vs, hx => by
    simp only [evsO] at hx
    split at hx
    · rename_i v ws hv hws
      cases hx
      show AE.ev F x :: AE.evs F xs = _
      rw [h.ev hv, h.evs hws]
    · cases hx
theorem Kf.parts (h : Kf C l F) : ∀ {xs : List (Nat × Operand)} {vs : List (Nat × AV)}, partsO l xs = some vs → partsA F xs = vs
  | [], vs, hx => Option.some.inj hx
  | (i, x) :: xs, vs, hx => by
    simp only [partsO] at hx
    split at hx
    · rename_i v ws hv hws
      cases hx
      show (i, AE.ev F x) :: partsA F xs = _
      rw [h.ev hv, h.parts hws]
    · cases hx
theorem Kf.set (h : Kf C l F) (t : Nat) (v : AV) : Kf C (.put t v l) (F.set t v) := by
  refine ⟨?_, fun j w hj => ?_⟩
  · unfold Fr.set
    cases bit F.mask t <;> exact h.mask
  · rw [Fr.get_set]
    simp only [Kn.find] at hj
    cases hb : Nat.beq t j <;> rw [hb] at hj
    · have : j ≠ t := fun e => by subst e; rw [Nat.beq_refl] at hb; cases hb
      rw [if_neg this]
      exact h.get j w hj
    · have := Nat.eq_of_beq_eq_true hb
      rw [if_pos this.symm]
      exact hj
theorem Kf.clear (h : Kf C l F) : Kf C (.clr C.mask l) F.clear := by
  refine ⟨h.mask, fun j w hj => ?_⟩
  simp only [Kn.find] at hj
  cases hb : bit C.mask j <;> rw [hb] at hj
  · cases hj
  · have := h.get j w hj
    rw [← h.mask] at hb
    unfold Fr.get Fr.clear at *
    simp only [hb, cond_true] at this ⊢
    exact this
theorem Kf.le (h : Kf C l F) : ∀ {k : Kn}, k.le l → Kf C k F
  | .nil, _ => ⟨h.mask, fun t v hv => by cases hv⟩
  | .put t v k, hk => by
    have := h.le (k := k) hk.2
    refine ⟨h.mask, fun j w hj => ?_⟩
    simp only [Kn.find] at hj
    cases hb : Nat.beq t j <;> rw [hb] at hj
    · exact this.get j w hj
    · cases hj
      rw [← Nat.eq_of_beq_eq_true hb]
      exact h.get t _ hk.1
  | .clr _ _, hk => hk.elim
end
structure WG (E : Env) (C : FnE) (todo : List Item) (l : Kn) (A : AW) (R : AV → AW → Prop) : Prop where
  run : ∀ F, Kf C l F → ∃ F' A' v, outOf E C.fn (.ret F' A') = .val v A' ∧ R v A' ∧ Rets E C todo F A F' A'
structure WO (E : Env) (C : FnE) (all ops : List Oper) (l : Kn) (A : AW) (K : Kn → AW → Prop) : Prop where
  run : ∀ F, Kf C l F → ∃ F1 A1 l1, Kf C l1 F1 ∧ K l1 A1 ∧ OpsV E C.N all ops F A F1 A1
section
variable {E : Env} {C : FnE} {k : List Item} {l : Kn} {A : AW} {R : AV → AW → Prop}
theorem wg_le {todo : List Item} (l' : Kn) (h : WG E C todo l' A R) (hl : l'.le l) : WG E C todo l A R := ⟨fun F hF => h.run F (hF.le hl)⟩
theorem wg_A {todo : List Item} (P : AW → Prop) (hP : P A) (h : ∀ A', P A' → WG E C todo l A' R) : WG E C todo l A R := h A hP
theorem rets_step {todo todo' : List Item} {F F' : Fr} {A' : AW} (hs : ∀ n, go E (n + 1) C todo F A = go E n C todo' F A) (h : Rets E C todo' F A F' A') : Rets E C todo F A F' A' := by
  obtain ⟨n0, h⟩ := h
  refine ⟨n0 + 1, fun n hn => ?_⟩
  obtain ⟨m, rfl⟩ : ∃ m, n = m + 1 := ⟨n - 1, by omega⟩
  rw [hs]
  exact h m (by omega)
theorem wg_step {todo todo' : List Item} (hs : ∀ F n, Kf C l F → go E (n + 1) C todo F A = go E n C todo' F A) (h : WG E C todo' l A R) : WG E C todo l A R := ⟨fun F hF => by
  obtain ⟨F', A', v, ho, r, hr⟩ := h.run F hF
  exact ⟨F', A', v, ho, r, rets_step (fun n => hs F n hF) hr⟩⟩
theorem qO {a b : Code} (h : WG E C (.code a :: .code b :: k) l A R) : WG E C (.code (.seq a b) :: k) l A R := wg_step (fun _ _ _ => rfl) h
theorem qS (h : WG E C k l A R) : WG E C (.code .skip :: k) l A R := wg_step (fun _ _ _ => rfl) h
theorem wg_label {n : Nat} (h : WG E C k l A R) : WG E C (.code (.label n) :: k) l A R := wg_step (fun _ _ _ => rfl) h
theorem qY {id : Nat} {c : Code} (h : WG E C (.code c :: .inBlock id :: k) l A R) : WG E C (.code (.block id c) :: k) l A R := wg_step (fun _ _ _ => rfl) h
theorem wg_loop {c : Code} (h : WG E C (.code c :: .inLoop c :: k) l A R) : WG E C (.code (.loop c) :: k) l A R := wg_step (fun _ _ _ => rfl) h
theorem wg_scope {c : Code} (h : WG E C (.code c :: .inScope c :: k) l A R) : WG E C (.code (.scope c) :: k) l A R := wg_step (fun _ _ _ => rfl) h
theorem xB {id : Nat} (h : WG E C k l A R) : WG E C (.inBlock id :: k) l A R := wg_step (fun _ _ _ => rfl) h
theorem xN {c : Code} (h : WG E C (.code c :: .inLoop c :: k) l A R) : WG E C (.inLoop c :: k) l A R := wg_step (fun _ _ _ => rfl) h
theorem xH {c : Operand} {a b : Code} (hc : evO l c = some (.bool true)) (h : WG E C (.code a :: k) l A R) : WG E C (.code (.cond c a b) :: k) l A R :=
  wg_step (fun F n hF => by
    show (match ev F c with
      | .bool true => go E n C (.code a :: k) F A
      | .bool false => go E n C (.code b :: k) F A
      | _ => .fail 191) = _
    rw [hF.ev hc]) h
theorem wg_false {c : Operand} {a b : Code} (hc : evO l c = some (.bool false)) (h : WG E C (.code b :: k) l A R) : WG E C (.code (.cond c a b) :: k) l A R :=
  wg_step (fun F n hF => by
    show (match ev F c with
      | .bool true => go E n C (.code a :: k) F A
      | .bool false => go E n C (.code b :: k) F A
      | _ => .fail 191) = _
    rw [hF.ev hc]) h
theorem wg_if {c : Operand} {a b : Code} {x : Bool} (hc : evO l c = some (.bool x)) (h1 : x = true → WG E C (.code a :: k) l A R) (h2 : x = false → WG E C (.code b :: k) l A R) : WG E C (.code (.cond c a b) :: k) l A R := by
  cases x
  · exact wg_false hc (h2 rfl)
  · exact xH hc (h1 rfl)
theorem qV {c : Operand} {a b : Code} {p : Prop} [Decidable p] (hc : evO l c = some (.bool (decide p))) (h1 : p → WG E C (.code a :: k) l A R) (h2 : ¬ p → WG E C (.code b :: k) l A R) : WG E C (.code (.cond c a b) :: k) l A R :=
  wg_if hc (fun h => h1 (of_decide_eq_true h)) (fun h => h2 (of_decide_eq_false h))
theorem wg_exit {id : Nat} {k' : List Item} (he : exitTo id k = some k') (h : WG E C k' l A R) : WG E C (.code (.exit id) :: k) l A R :=
  wg_step (fun F n _ => by
    show (match exitTo id k with
      | some k' => go E n C k' F A
      | none => .fail 192) = _
    rw [he]) h
theorem wg_goto {n : Nat} {k' : List Item} (he : gotoIn n k = some k') (h : WG E C k' l A R) : WG E C (.code (.goto n) :: k) l A R :=
  wg_step (fun F m _ => by
    show (match gotoIn n k with
      | some k' => go E m C k' F A
      | none => .fail 193) = _
    rw [he]) h
theorem qA {id : Nat} {ops : Array Oper} (h : WO E C ops.toList ops.toList l A fun l1 A1 => WG E C k (.clr C.mask l1) A1 R) : WG E C (.code (.region id ops false) :: k) l A R := ⟨fun F hF => by
  obtain ⟨F1, A1, l1, hF1, hk, n1, hr⟩ := h.run F hF
  obtain ⟨F', A', v, ho, r, n0, h⟩ := hk.run _ hF1.clear
  refine ⟨F', A', v, ho, r, n0 + n1 + 1, fun n hn => ?_⟩
  obtain ⟨m, rfl⟩ : ∃ m, n = m + 1 := ⟨n - 1, by omega⟩
  show (match regA E C (fun f args A => bodyOf E f args A (go E m)) id ops.toList false F A with
    | .ok F A => go E m C k F.clear A
    | .fail m => .fail m) = _
  have := hr m (by omega)
  simp only [regA, cond_false]
  rw [this]
  exact h m (by omega)⟩
theorem wg_regionTo {id : Nat} {ops : Array Oper} (l' : Kn) (h1 : WO E C ops.toList ops.toList l A fun l1 A1 => A1 = A ∧ l'.le (.clr C.mask l1)) (h2 : WG E C k l' A R) : WG E C (.code (.region id ops false) :: k) l A R :=
  qA ⟨fun F hF => by
    obtain ⟨F1, A1, l1, hF1, ⟨rfl, hl⟩, ho⟩ := h1.run F hF
    exact ⟨F1, A1, l1, hF1, wg_le l' h2 hl, ho⟩⟩
theorem wg_cut {c : Code} (Φ : Kn → AW → Prop) (h1 : ∀ k', (∀ l1 A1, Φ l1 A1 → WG E C k' l1 A1 R) → WG E C (.code c :: k') l A R) (h2 : ∀ l1 A1, Φ l1 A1 → WG E C k l1 A1 R) : WG E C (.code c :: k) l A R := h1 k h2
def resO (l : Kn) : List ResultVar → Option (List AV)
  | [] => some []
  | .tmp t :: rs => match l.find t, resO l rs with
    | some v, some vs => some (v :: vs)
    | _, _ => none
  | .cell _ _ :: _ => none
def outV : List AV → AV
  | [v] => v
  | vs => .tuple vs
theorem Kf.res {F : Fr} (h : Kf C l F) : ∀ {rs : List ResultVar} {vs : List AV}, resO l rs = some vs → resultsOf E F A rs = some vs
  | [], vs, hx => hx
  | .tmp t :: rs, vs, hx => by
    simp only [resO] at hx
    split at hx
    · rename_i v ws hv hws
      cases hx
      simp only [resultsOf, resultOne, h.get t v hv, h.res hws]
    · cases hx
  | .cell _ _ :: _, vs, hx => by cases hx
theorem out_of {fn : Func} {F : Fr} {vs : List AV} (h : resultsOf E F A fn.results.toList = some vs) : outOf E fn (.ret F A) = .val (outV vs) A := by
  unfold outOf
  simp only [h]
  match vs with
  | [] => rfl
  | [v] => rfl
  | _ :: _ :: _ => rfl
theorem wg_nil {vs : List AV} (hr : resO l C.fn.results.toList = some vs) (h : R (outV vs) A) : WG E C [] l A R := ⟨fun F hF =>
  ⟨F, A, outV vs, out_of (hF.res hr), h, 1, fun n hn => by
    obtain ⟨m, rfl⟩ : ∃ m, n = m + 1 := ⟨n - 1, by omega⟩
    rfl⟩⟩
theorem qQ {vs : List AV} (hr : resO l C.fn.results.toList = some vs) (h : R (outV vs) A) : WG E C (.code .ret :: k) l A R := ⟨fun F hF =>
  ⟨F, A, outV vs, out_of (hF.res hr), h, 1, fun n hn => by
    obtain ⟨m, rfl⟩ : ∃ m, n = m + 1 := ⟨n - 1, by omega⟩
    rfl⟩⟩
theorem wg_ind {ι : Type} {todo : List Item} (μ : ι → Nat) (L : ι → Kn) (P : ι → AW → Prop)
    (h : ∀ i A, P i A → (∀ j A', μ j < μ i → P j A' → WG E C todo (L j) A' R) → WG E C todo (L i) A R) : ∀ i A, P i A → WG E C todo (L i) A R := by
  have key : ∀ n i A, μ i < n → P i A → WG E C todo (L i) A R := by
    intro n
    induction n with
    | zero => intro i A hn; omega
    | succ n ih => exact fun i A hn hp => h i A hp fun j A' hj hp' => ih j A' (by omega) hp'
  exact fun i A hp => key (μ i + 1) i A (by omega) hp
def argsK : List AV → Nat → Kn → Kn
  | [], _, l => l
  | v :: vs, i, l => argsK vs (Nat.succ i) (.put i v l)
theorem Kf.args {F : Fr} : ∀ (vs : List AV) (i : Nat) (l : Kn) (F : Fr), Kf C l F → Kf C (argsK vs i l) (argsIn vs i F)
  | [], _, _, _, h => h
  | v :: vs, i, l, F, h => Kf.args (F := F) vs (Nat.succ i) (.put i v l) (F.set i v) (h.set i v)
theorem call_of {f : FuncId} {args : List AV} {e : FnE} {c : Code} (he : E.fns.get f = some e) (hb : e.fn.body = some c) (hn : Nat.ble (len args) e.N = true)
    (h : WG E e [.code c] (argsK args 0 .nil) A R) : CallP E f args A R := by
  have h0 : Kf e .nil ⟨e.mask, [], .nil⟩ := ⟨rfl, fun t v hv => by cases hv⟩
  obtain ⟨F', A', v, ho, r, n0, h⟩ := h.run _ (Kf.args (F := ⟨e.mask, [], .nil⟩) args 0 .nil _ h0)
  refine ⟨v, A', r, n0, fun n hn' => ?_⟩
  unfold call bodyOf
  rw [he]
  simp only [hb, hn, cond_true]
  have := h n hn'
  unfold frameOf
  rw [this]
  exact ho
end
section
variable {E : Env} {C : FnE} {all rest : List Oper} {l : Kn} {A A1 : AW} {K : Kn → AW → Prop} {d : Tmp} {ty : TypeId} {pos : String} {after : Array Edge}
theorem qG (h : K l A) : WO E C all [] l A K := ⟨fun F hF => ⟨F, A, l, hF, h, 0, fun _ _ => rfl⟩⟩
theorem ops_cons {N : Nat} {o : Oper} {F F1 F2 : Fr} {A2 : AW} (h1 : OneV E N all o F A F1 A1) (h2 : OpsV E N all rest F1 A1 F2 A2) : OpsV E N all (o :: rest) F A F2 A2 := by
  obtain ⟨n1, h1⟩ := h1
  obtain ⟨n2, h2⟩ := h2
  refine ⟨n1 + n2, fun n hn => ?_⟩
  show (match oneA E (fun f args A => bodyOf E f args A (go E n)) N all o F A with
    | .ok F A => opsA E (fun f args A => bodyOf E f args A (go E n)) N all rest F A
    | .fail n => .fail n) = _
  rw [h1 n (by omega)]
  exact h2 n (by omega)
theorem put_some {N : Nat} {F : Fr} {v : AV} (hd : Nat.blt d N = true) : putF N F (some d) v A = .ok (F.set d v) A := by
  unfold putF
  simp only [hd, cond_true]
theorem wo_val {op : Op} {v : AV} (hd : Nat.blt d C.N = true) (hx : ∀ F, Kf C l F → execA E F ⟨some d, op, ty, pos, after, none⟩ A = .val v A1) (h : WO E C all rest (.put d v l) A1 K) :
    WO E C all (⟨some d, op, ty, pos, after, none⟩ :: rest) l A K := ⟨fun F hF => by
  obtain ⟨F2, A2, l2, hF2, hk, ho⟩ := h.run _ (hF.set d v)
  refine ⟨F2, A2, l2, hF2, hk, ops_cons ⟨0, fun n _ => ?_⟩ ho⟩
  unfold oneA wantedA
  simp only [hx F hF]
  exact put_some hd⟩
theorem wo_non {op : Op} {v : AV} (hx : ∀ F, Kf C l F → execA E F ⟨none, op, ty, pos, after, none⟩ A = .val v A1) (h : WO E C all rest l A1 K) :
    WO E C all (⟨none, op, ty, pos, after, none⟩ :: rest) l A K := ⟨fun F hF => by
  obtain ⟨F2, A2, l2, hF2, hk, ho⟩ := h.run F hF
  refine ⟨F2, A2, l2, hF2, hk, ops_cons ⟨0, fun n _ => ?_⟩ ho⟩
  unfold oneA wantedA
  simp only [hx F hF]
  rfl⟩
theorem wo_enter {op : Op} {f : FuncId} {args : List AV} {Q : AV → AW → Prop} (hd : Nat.blt d C.N = true) (hx : ∀ F, Kf C l F → execA E F ⟨some d, op, ty, pos, after, none⟩ A = .enter f args) (hc : CallP E f args A Q)
    (h : ∀ v A1, Q v A1 → WO E C all rest (.put d v l) A1 K) : WO E C all (⟨some d, op, ty, pos, after, none⟩ :: rest) l A K := ⟨fun F hF => by
  obtain ⟨v, A1, q, n0, hc⟩ := hc
  obtain ⟨F2, A2, l2, hF2, hk, ho⟩ := (h v A1 q).run _ (hF.set d v)
  refine ⟨F2, A2, l2, hF2, hk, ops_cons ⟨n0, fun n hn => ?_⟩ ho⟩
  unfold oneA wantedA
  have := hc n hn
  unfold call at this
  simp only [hx F hF, this]
  exact put_some hd⟩
def wantK (all : List Oper) (l : Kn) (j : Nat) (w : Bool) : Option Bool :=
  match nth all j with
  | some oj => (match oj.dst with
    | some d => (match l.find d with
      | some (.bool b) => some (b == w)
      | some (.tuple []) => some false
      | _ => none)
    | none => none)
  | none => none
theorem want_of {F : Fr} (hF : Kf C l F) {dst : Option Tmp} {op : Op} {j : Nat} {w b : Bool} (h : wantK all l j w = some b) : wantedA all F ⟨dst, op, ty, pos, after, some (j, w)⟩ = some b := by
  unfold wantK at h
  unfold wantedA
  simp only
  split at h
  · rename_i oj hoj
    simp only [hoj]
    split at h
    · rename_i d hd
      simp only [hd]
      split at h
      · rename_i b hb
        rw [hF.get _ _ hb]
        exact h
      · rename_i hb
        rw [hF.get _ _ hb]
        exact h
      · cases h
    · cases h
  · cases h
theorem qX {dst : Option Tmp} {op : Op} {j : Nat} {w : Bool} (hw : wantK all l j w = some true) (h : WO E C all (⟨dst, op, ty, pos, after, none⟩ :: rest) l A K) :
    WO E C all (⟨dst, op, ty, pos, after, some (j, w)⟩ :: rest) l A K := ⟨fun F hF => by
  obtain ⟨F2, A2, l2, hF2, hk, n0, ho⟩ := h.run F hF
  refine ⟨F2, A2, l2, hF2, hk, n0, fun n hn => ?_⟩
  have := ho n hn
  simp only [opsA] at this ⊢
  have e : oneA E (fun f args A => bodyOf E f args A (go E n)) C.N all ⟨dst, op, ty, pos, after, some (j, w)⟩ F A = oneA E (fun f args A => bodyOf E f args A (go E n)) C.N all ⟨dst, op, ty, pos, after, none⟩ F A := by
    unfold oneA
    rw [want_of hF hw]
    rfl
  rw [e]
  exact this⟩
theorem xE {op : Op} {j : Nat} {w : Bool} (hd : Nat.blt d C.N = true) (hw : wantK all l j w = some false) (h : WO E C all rest (.put d (.tuple []) l) A K) :
    WO E C all (⟨some d, op, ty, pos, after, some (j, w)⟩ :: rest) l A K := ⟨fun F hF => by
  obtain ⟨F2, A2, l2, hF2, hk, ho⟩ := h.run _ (hF.set d (.tuple []))
  refine ⟨F2, A2, l2, hF2, hk, ops_cons ⟨0, fun n _ => ?_⟩ ho⟩
  unfold oneA
  rw [want_of hF hw]
  exact put_some hd⟩
theorem wo_bool {t : Tmp} {b : Bool} (ht : l.find t = some (.bool b)) (h1 : b = true → WO E C all rest (.put t (.bool true) l) A K) (h2 : b = false → WO E C all rest (.put t (.bool false) l) A K) : WO E C all rest l A K := by
  have key : ∀ F, Kf C l F → Kf C (.put t (.bool b) l) F := fun F hF => ⟨hF.mask, fun j w hj => by
    simp only [Kn.find] at hj
    cases hb : Nat.beq t j <;> rw [hb] at hj
    · exact hF.get j w hj
    · cases hj
      rw [← Nat.eq_of_beq_eq_true hb]
      exact hF.get t _ ht⟩
  cases b
  · exact ⟨fun F hF => (h2 rfl).run F (key F hF)⟩
  · exact ⟨fun F hF => (h1 rfl).run F (key F hF)⟩
theorem wo_A (P : AW → Prop) (hP : P A) (h : ∀ A', P A' → WO E C all rest l A' K) : WO E C all rest l A K := h A hP
end
end Go.AE
