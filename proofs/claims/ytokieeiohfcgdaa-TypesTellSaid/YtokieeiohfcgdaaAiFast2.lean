/-
  THE TWIN, second part: all operations, regions, calls.
-/
import Derived.Test.YtokieeiohfcgdaaAiFast
namespace Go.AE.R
open Go.AE Go.RowKit
set_option linter.unusedVariables false
set_option linter.unusedSimpArgs false
variable [Rho]
noncomputable section

omit [Rho] in
theorem exF_eq (x : AV) (i : Nat) (A : AW) : exF x i A = liftR (match x with
    | .tuple vs => (match AE.nth vs i with
      | some v => .val v A
      | none => .fail 144)
    | _ => .fail 145) := by
  cases x
  case tuple vs =>
    show Option.rec (motive := fun _ => OpE) (.fail 144) (fun v => .val v A) (nth vs i) = _
    rw [nth_eq]
    simp only []
    cases AE.nth vs i <;> rfl
  all_goals rfl
omit [Rho] in
theorem pickF_eq (x : AV) (a b : Operand) (F : Fr) (A : AW) : pickF x a b F A = liftR (match x with
    | .bool true => .val (AE.ev F a) A
    | .bool false => .val (AE.ev F b) A
    | _ => .fail 140) := by
  cases x
  case bool c =>
    show Bool.rec (motive := fun _ => OpE) (.val (ev F b) A) (.val (ev F a) A) c = _
    rw [ev_eq, ev_eq]
    cases c <;> rfl
  all_goals rfl
omit [Rho] in
theorem nilF_eq (x : AV) (A : AW) : nilF x A = liftR (match x with
    | .ptr f s o => .val (.ptr f s o) A
    | .func f a b => .val (.func f a b) A
    | _ => .fail 143) := by cases x <;> rfl
omit [Rho] in
theorem unF_eq (E : Env) (op : UnOp) (x : AV) (A : AW) : unF x E op A = liftR (unA E op x A) := by
  cases x
  case bool b =>
    cases op
    case not => 
      show retB (not b) A = liftR (AE.retB (!b) A)
      rw [retB_eq, not_eq]
    all_goals rfl
  all_goals rfl
omit [Rho] in
theorem valF_eq (x : AV) (E : Env) (args : List AV) (A : AW) : valF x E args A = (match x with
    | .func f first captured => enterA E f (first ++ args ++ captured) A
    | _ => .fail 130) := by
  cases x
  case func f a b =>
    show enterF E f (app a (app args b)) A = enterA E f (a ++ args ++ b) A
    rw [enterF_eq, app_eq, app_eq, List.append_assoc]
  all_goals rfl

def blt (b : Builtin) (tys : List TypeId) (args : List AV) (E : Env) (A : AW) : OpE :=
  Bool.rec (motive := fun _ => OpE) (Bool.rec (motive := fun _ => OpE) (liftR (builtinA E b tys args A)) (apA args E tys A)
    (Builtin.rec (motive := fun _ => Bool) true false false false false false false false false false false false false false false false false false false false false false false false false false b)) (len1 args E tys A) (Builtin.rec (motive := fun _ => Bool) false false false false false false false false true false false false false false false false false false false false false false false false false false b)
omit [Rho] in
theorem blt_eq (b : Builtin) (tys : List TypeId) (args : List AV) (E : Env) (A : AW) : blt b tys args E A = liftR (builtinA E b tys args A) := by
  cases b
  case len => exact len1_eq E tys args A
  case append => exact apA_eq args E tys A
  all_goals rfl

def callF (c : Call) : Env → Fr → AW → OpE :=
  Call.rec (motive := fun _ => Env → Fr → AW → OpE) (fun callee args tys =>
    Callee.rec (motive := fun _ => Array Operand → Array TypeId → Env → Fr → AW → OpE)
      (fun x args tys E F A => valF (ev F x) E (evs F args.toList) A)
      (fun _ _ _ _ _ _ _ => .fail 131)
      (fun b args tys E F A => blt b tys.toList (evs F args.toList) E A) callee args tys) c
omit [Rho] in
theorem callF_eq (E : Env) (F : Fr) (c : Call) (A : AW) : callF c E F A = callA E F c A := by
  cases c with
  | mk callee args tys =>
    cases callee with
    | value x =>
      show valF (ev F x) E (evs F args.toList) A = _
      rw [valF_eq, ev_eq, evs_eq]
      rfl
    | invoke x m => rfl
    | builtin b =>
      show blt b tys.toList (evs F args.toList) E A = _
      rw [blt_eq, evs_eq]
      rfl

def slow (op : Op) (E : Env) (F : Fr) (A : AW) : OpE := execA E F ⟨none, op, 0, "", #[], none⟩ A
omit [Rho] in
theorem slow_eq (o : Oper) (E : Env) (F : Fr) (A : AW) : slow o.op E F A = execA E F o A := by
  unfold slow execA
  cases o with
  | mk dst op type pos after guard =>
    cases op <;> rfl

def optF (F : Fr) (x : Option Operand) : Option AV := Option.rec (motive := fun _ => Option AV) none (fun x => some (ev F x)) x
omit [Rho] in
theorem optF_eq (F : Fr) (x : Option Operand) : optF F x = optA F x := by
  cases x with
  | none => rfl
  | some x => show some (ev F x) = some (AE.ev F x); rw [ev_eq]

def execF (op : Op) : Env → Fr → AW → OpE :=
  Op.rec (motive := fun _ => Env → Fr → AW → OpE)
    (fun x E F A => .val (ev F x) A)
    (fun x E F A => .val (ev F x) A)
    (fun c a b E F A => pickF (ev F c) a b F A)
    (fun t E F A => allocF t E A)
    (fun t x E F A => boxF (cellsOf (ev F x)) t E A)
    (fun t ps E F A => buildF E t (partsF F ps.toList) A)
    (fun t n ps E F A => buildSliceF E t n (partsF F ps.toList) A)
    (fun t m k x E F A => liftR (mapUpdateA E t (ev F m) (ev F k) (ev F x) A))
    (fun t a E F A => loadF (ev F a) E t A)
    (fun t a x E F A => storeF (ev F a) (ev F x) E t A)
    (fun g E F A => slow (.ready g) E F A)
    (fun g E F A => slow (.waits g) E F A)
    (fun x E F A => nilF (ev F x) A)
    (fun op t x y _ E F A => binF (ev F x) E op t (ev F y) A)
    (fun op _ x E F A => unF (ev F x) E op A)
    (fun s d x E F A => convF (ev F x) E s d A)
    (fun d x E F A => slow (.sliceToArrayPointer d x) E F A)
    (fun t x E F A => slow (.makeInterface t x) E F A)
    (fun f a b E F A => slow (.makeFunc f a b) E F A)
    (fun t r E F A => slow (.makeMap t r) E F A)
    (fun t r E F A => slow (.makeChan t r) E F A)
    (fun t l c E F A => liftR (makeSliceA E t (ev F l) (ev F c) A))
    (fun t x a b c E F A => liftR (sliceA E t (ev F x) (optF F a) (optF F b) (optF F c) A))
    (fun s x i E F A => fieldAddrF (ev F x) E s i A)
    (fun s x i E F A => fieldF (ev F x) E s i A)
    (fun t x i E F A => idxAddrF (ev F i) (ev F x) E t A)
    (fun t x i E F A => idxF (ev F i) (ev F x) E t A)
    (fun t x i ok E F A => liftR (lookupA E t (ev F x) (ev F i) ok A))
    (fun t m k x E F A => liftR (mapUpdateA E t (ev F m) (ev F k) (ev F x) A))
    (fun t m k E F A => slow (.mapEntry t m k) E F A)
    (fun t m k x E F A => slow (.entryStore t m k x) E F A)
    (fun t x E F A => slow (.range t x) E F A)
    (fun x s E F A => slow (.next x s) E F A)
    (fun x E F A => slow (.entry x) E F A)
    (fun x a b c E F A => slow (.typeAssert x a b c) E F A)
    (fun x i E F A => exF (ev F x) i A)
    (fun c E F A => callF c E F A)
    (fun c E F A => slow (.go c) E F A)
    (fun c E F A => slow (.defer c) E F A)
    (fun x E F A => slow (.panic x) E F A)
    (fun x y E F A => slow (.send x y) E F A)
    (fun t x ok E F A => slow (.recv t x ok) E F A)
    (fun cs b E F A => slow (.select cs b) E F A) op
omit [Rho] in
theorem execF_eq (o : Oper) (E : Env) (F : Fr) (A : AW) : execF o.op E F A = execA E F o A := by
  rw [← slow_eq]
  cases o.op
  case move x => show OpE.val (ev F x) A = _; rw [ev_eq]; rfl
  case assign x => show OpE.val (ev F x) A = _; rw [ev_eq]; rfl
  case pick c a b => show pickF (ev F c) a b F A = _; rw [ev_eq, pickF_eq]; rfl
  case load t a => show loadF (ev F a) E t A = _; rw [ev_eq, loadF_eq]; rfl
  case store t a x => show storeF (ev F a) (ev F x) E t A = _; rw [ev_eq, ev_eq, storeF_eq]; rfl
  case nilCheck x => show nilF (ev F x) A = _; rw [ev_eq, nilF_eq]; rfl
  case binOp op t x y t' => show binF (ev F x) E op t (ev F y) A = _; rw [ev_eq, ev_eq, binF_eq]; rfl
  case unOp op t x => show unF (ev F x) E op A = _; rw [ev_eq, unF_eq]; rfl
  case convert s d x => show convF (ev F x) E s d A = _; rw [ev_eq, convF_eq]; rfl
  case fieldAddr s x i => show fieldAddrF (ev F x) E s i A = _; rw [ev_eq, fieldAddrF_eq]; rfl
  case indexAddr t x i => show idxAddrF (ev F i) (ev F x) E t A = _; rw [ev_eq, ev_eq, idxAddrF_eq]; rfl
  case index t x i => show idxF (ev F i) (ev F x) E t A = _; rw [ev_eq, ev_eq, idxF_eq]; rfl
  case extract x i => show exF (ev F x) i A = _; rw [ev_eq, exF_eq]; rfl
  case alloc t => show allocF t E A = _; rw [allocF_eq]; rfl
  case box t x => show boxF (cellsOf (ev F x)) t E A = _; rw [ev_eq, boxF_eq]; rfl
  case build t ps => show buildF E t (partsF F ps.toList) A = _; rw [partsF_eq, buildF_eq]; rfl
  case buildSlice t n ps => show buildSliceF E t n (partsF F ps.toList) A = _; rw [partsF_eq, buildSliceF_eq]; rfl
  case insert t m k x => show liftR (mapUpdateA E t (ev F m) (ev F k) (ev F x) A) = _; rw [ev_eq, ev_eq, ev_eq]; rfl
  case mapUpdate t m k x => show liftR (mapUpdateA E t (ev F m) (ev F k) (ev F x) A) = _; rw [ev_eq, ev_eq, ev_eq]; rfl
  case makeSlice t l c => show liftR (makeSliceA E t (ev F l) (ev F c) A) = _; rw [ev_eq, ev_eq]; rfl
  case lookup t x i ok => show liftR (lookupA E t (ev F x) (ev F i) ok A) = _; rw [ev_eq, ev_eq]; rfl
  case field t x i => show fieldF (ev F x) E t i A = _; rw [ev_eq, fieldF_eq]; rfl
  case slice t x a b c => show liftR (sliceA E t (ev F x) (optF F a) (optF F b) (optF F c) A) = _; rw [ev_eq, optF_eq, optF_eq, optF_eq]; rfl
  case call c => show callF c E F A = _; rw [callF_eq]; rfl
  all_goals rfl

/-! ### Regions -/
def eqB (b w : Bool) : Bool := Bool.rec (motive := fun _ => Bool) (not w) w b
def wantV (v : AV) : Bool → Option Bool :=
  AV.rec (motive_1 := fun _ => Bool → Option Bool) (motive_2 := fun _ => PUnit)
    (fun _ => none)
    (fun b => fun w => some (eqB b w))
    (fun z0 z1 => fun _ => none)
    (fun z0 z1 => fun _ => none)
    (fun z0 z1 z2 => fun _ => none)
    (fun z0 => fun _ => none)
    (fun _ => none)
    (fun z0 z1 z2 => fun _ => none)
    (fun _ => none)
    (fun z0 => fun _ => none)
    (fun z0 z1 z2 z3 z4 z5 => fun _ => none)
    (fun _ => none)
    (fun z0 => fun _ => none)
    (fun z0 z1 z2 _ _ => fun _ => none)
    (fun _ => none)
    (fun z0 _ => fun _ => none)
    (fun l _ => fun _ => List.rec (motive := fun _ => Option Bool) (some false) (fun _ _ _ => none) l)
    (fun z0 z1 z2 => fun _ => none)
    (fun z0 z1 z2 => fun _ => none)
    (fun z0 z1 z2 => fun _ => none)
    (fun z0 z1 z2 z3 => fun _ => none)
    (fun z0 z1 => fun _ => none)
    (fun z0 => fun _ => none)
    (fun z0 z1 => fun _ => none)
    (fun z0 z1 => fun _ => none)
    (fun z0 z1 z2 => fun _ => none)
    (fun z0 z1 => fun _ => none)
    (fun z0 z1 z2 => fun _ => none)
    PUnit.unit (fun _ _ _ _ => PUnit.unit) v
def wantedF (all : List Oper) (F : Fr) (o : Oper) : Option Bool :=
  Option.rec (motive := fun _ => Option Bool) (some true) (fun jw => Prod.rec (motive := fun _ => Option Bool) (fun j w =>
    Option.rec (motive := fun _ => Option Bool) none (fun oj => Option.rec (motive := fun _ => Option Bool) none (fun d =>
      Option.rec (motive := fun _ => Option Bool) none (fun v => wantV v w) (get F d)) oj.dst) (nth all j)) jw) o.guard
omit [Rho] in
theorem wantedF_eq (all : List Oper) (F : Fr) (o : Oper) : wantedF all F o = wantedA all F o := by
  unfold wantedF wantedA
  cases o.guard with
  | none => rfl
  | some jw =>
    obtain ⟨j, w⟩ := jw
    simp only [nth_eq]
    cases AE.nth all j with
    | none => rfl
    | some oj =>
      simp only []
      cases oj.dst with
      | none => rfl
      | some d =>
        simp only [get_eq]
        cases F.get d with
        | none => rfl
        | some v =>
          simp only []
          cases v
          case bool b => cases b <;> cases w <;> rfl
          case tuple l => cases l <;> rfl
          all_goals rfl

def putF (N : Nat) (F : Fr) (dst : Option Tmp) (v : AV) (A : AW) : ResF :=
  Option.rec (motive := fun _ => ResF) (.ok F A) (fun d => Bool.rec (motive := fun _ => ResF) (.fail 160) (.ok (set F d v) A) (Nat.blt d N)) dst
omit [Rho] in
theorem putF_eq (N : Nat) (F : Fr) (dst : Option Tmp) (v : AV) (A : AW) : putF N F dst v A = AE.putF N F dst v A := by
  cases dst with
  | none => rfl
  | some d =>
    show Bool.rec (motive := fun _ => ResF) (.fail 160) (.ok (set F d v) A) (Nat.blt d N) = bif Nat.blt d N then .ok (F.set d v) A else .fail 160
    rw [set_eq]
    cases Nat.blt d N <;> rfl

def doneO (o : Out) : Nat → Option Tmp → Fr → ResF :=
  Out.rec (motive := fun _ => Nat → Option Tmp → Fr → ResF) (fun n _ _ _ => .fail n) (fun v A N dst F => putF N F dst v A) o
def doneE (r : OpE) : (FuncId → List AV → AW → Out) → Nat → Option Tmp → Fr → AW → ResF :=
  OpE.rec (motive := fun _ => (FuncId → List AV → AW → Out) → Nat → Option Tmp → Fr → AW → ResF)
    (fun n _ _ _ _ _ => .fail n) (fun v A _ N dst F _ => putF N F dst v A) (fun f args call N dst F A => doneO (call f args A) N dst F) r
def oneF (E : Env) (call : FuncId → List AV → AW → Out) (N : Nat) (all : List Oper) (o : Oper) (F : Fr) (A : AW) : ResF :=
  Option.rec (motive := fun _ => ResF) (.fail 159)
    (fun b => Bool.rec (motive := fun _ => ResF) (putF N F o.dst (.tuple []) A) (doneE (execF o.op E F A) call N o.dst F A) b) (wantedF all F o)
omit [Rho] in
theorem oneF_eq (E : Env) (call : FuncId → List AV → AW → Out) (N : Nat) (all : List Oper) (o : Oper) (F : Fr) (A : AW) : oneF E call N all o F A = oneA E call N all o F A := by
  unfold oneF oneA
  rw [wantedF_eq]
  cases wantedA all F o with
  | none => rfl
  | some b =>
    cases b with
    | false => exact putF_eq _ _ _ _ _
    | true =>
      simp only [execF_eq]
      cases execA E F o A with
      | fail n => rfl
      | val v A' => exact putF_eq _ _ _ _ _
      | enter f args =>
        show doneO (call f args A) N o.dst F = _
        simp only []
        cases call f args A with
        | fail n => rfl
        | val v A' => exact putF_eq _ _ _ _ _

def opsF (E : Env) (call : FuncId → List AV → AW → Out) (N : Nat) (all : List Oper) (l : List Oper) : Fr → AW → ResF :=
  List.rec (motive := fun _ => Fr → AW → ResF) (fun F A => .ok F A)
    (fun o _ ih F A => ResF.rec (motive := fun _ => ResF) (fun n => .fail n) (fun F A => ih F A) (oneF E call N all o F A)) l
omit [Rho] in
theorem opsF_eq (E : Env) (call : FuncId → List AV → AW → Out) (N : Nat) (all : List Oper) : ∀ (l : List Oper) (F : Fr) (A : AW), opsF E call N all l F A = opsA E call N all l F A
  | [], F, A => rfl
  | o :: l, F, A => by
    show ResF.rec (motive := fun _ => ResF) (fun n => .fail n) (fun F A => opsF E call N all l F A) (oneF E call N all o F A) = _
    rw [oneF_eq]
    unfold opsA
    cases oneA E call N all o F A with
    | fail n => rfl
    | ok F A => exact opsF_eq E call N all l F A

def stillF (E : Env) (F : Fr) (A : AW) (b : Nat) (l : List Seen) : Bool :=
  List.rec (motive := fun _ => Bool) true (fun s _ ih => Bool.rec (motive := fun _ => Bool)
    (OpE.rec (motive := fun _ => Bool) (fun _ => false) (fun v B => Bool.rec (motive := fun _ => Bool) false (Bool.rec (motive := fun _ => Bool) false ih (valEq v s.v)) (Nat.beq B.nxt A.nxt)) (fun _ _ => false) (execF s.o.op E F A)) ih (bit b s.i)) l
omit [Rho] in
theorem stillF_eq (E : Env) (F : Fr) (A : AW) (b : Nat) : ∀ (l : List Seen), stillF E F A b l = still E F A b l
  | [] => rfl
  | s :: l => by
    show Bool.rec (motive := fun _ => Bool) (OpE.rec (motive := fun _ => Bool) (fun _ => false) (fun v B => Bool.rec (motive := fun _ => Bool) false (Bool.rec (motive := fun _ => Bool) false (stillF E F A b l) (valEq v s.v)) (Nat.beq B.nxt A.nxt)) (fun _ _ => false) (execF s.o.op E F A)) (stillF E F A b l) (bit b s.i) = (bif bit b s.i then still E F A b l else match execA E F s.o A with
      | .val v B => bif Nat.beq B.nxt A.nxt then (bif valEq v s.v then still E F A b l else false) else false
      | _ => false)
    rw [stillF_eq E F A b l, execF_eq]
    generalize still E F A b l = r
    cases bit b s.i with
    | true => rfl
    | false =>
      simp only [cond_false]
      cases execA E F s.o A with
      | fail n => rfl
      | enter f args => rfl
      | val v B =>
        simp only []
        cases Nat.beq B.nxt A.nxt <;> simp only [cond_true, cond_false]
        cases valEq v s.v <;> rfl

def drawSeen (o : Oper) (i : Nat) (ih : List Seen → Fr → AW → ResF) (seen : List Seen) (F' : Fr) (A' : AW) : ResF :=
  Bool.rec (motive := fun _ => ResF) (ih seen F' A')
    (Option.rec (motive := fun _ => ResF) (.fail 171) (fun d => Option.rec (motive := fun _ => ResF) (.fail 171) (fun v => ih (⟨i, o, v⟩ :: seen) F' A') (get F' d)) o.dst) (reads o.op)
def drawThen (E : Env) (all : List Oper) (o : Oper) (b i : Nat) (ih : List Seen → Fr → AW → ResF) (seen : List Seen) (F : Fr) (A : AW) (F' : Fr) (A' : AW) : ResF :=
  Bool.rec (motive := fun _ => ResF)
    (Bool.rec (motive := fun _ => ResF)
      (Bool.rec (motive := fun _ => ResF) (.fail 173)
        (Option.rec (motive := fun _ => ResF) (ih seen F' A') (fun w => Bool.rec (motive := fun _ => ResF) (ih seen F' A') (drawSeen o i ih seen F' A') w) (wantedF all F o))
        (Nat.beq A'.nxt A.nxt))
      (ih seen F' A') (makes o.op))
    (Bool.rec (motive := fun _ => ResF) (.fail 170) (ih seen F' A') (stillF E F' A' b seen)) (acts o.op)
def drawF (E : Env) (call : FuncId → List AV → AW → Out) (N : Nat) (all : List Oper) (bs : List Nat) (order : List Nat) : List Seen → Fr → AW → ResF :=
  List.rec (motive := fun _ => List Seen → Fr → AW → ResF) (fun _ F A => .ok F A)
    (fun i _ ih seen F A => Option.rec (motive := fun _ => ResF) (.fail 172) (fun o => Option.rec (motive := fun _ => ResF) (.fail 172) (fun b =>
      ResF.rec (motive := fun _ => ResF) (fun n => .fail n) (fun F' A' => drawThen E all o b i ih seen F A F' A') (oneF E call N all o F A)) (nth bs i)) (nth all i)) order
omit [Rho] in
theorem drawF_eq (E : Env) (call : FuncId → List AV → AW → Out) (N : Nat) (all : List Oper) (bs : List Nat) : ∀ (order : List Nat) (seen : List Seen) (F : Fr) (A : AW), drawF E call N all bs order seen F A = drawA E call N all bs order seen F A
  | [], seen, F, A => rfl
  | i :: rest, seen, F, A => by
    show Option.rec (motive := fun _ => ResF) (.fail 172) (fun o => Option.rec (motive := fun _ => ResF) (.fail 172) (fun b =>
      ResF.rec (motive := fun _ => ResF) (fun n => .fail n) (fun F' A' => drawThen E all o b i (drawF E call N all bs rest) seen F A F' A') (oneF E call N all o F A)) (nth bs i)) (nth all i) = _
    have ihf : drawF E call N all bs rest = drawA E call N all bs rest := by
      funext seen F A
      exact drawF_eq E call N all bs rest seen F A
    rw [ihf]
    unfold drawA
    rw [nth_eq, nth_eq]
    cases AE.nth all i with
    | none => rfl
    | some o =>
      cases AE.nth bs i with
      | none => rfl
      | some b =>
        simp only [oneF_eq]
        cases oneA E call N all o F A with
        | fail n => rfl
        | ok F' A' =>
          simp only [drawThen, drawSeen, stillF_eq, wantedF_eq, get_eq]
          cases acts o.op <;> simp only [cond_true, cond_false]
          · cases makes o.op <;> simp only [cond_true, cond_false]
            cases Nat.beq A'.nxt A.nxt <;> simp only [cond_true, cond_false]
            cases wantedA all F o with
            | none => rfl
            | some w =>
              cases w with
              | false => rfl
              | true =>
                simp only []
                cases reads o.op <;> simp only [cond_true, cond_false]
                cases o.dst with
                | none => rfl
                | some d =>
                  simp only []
                  cases F'.get d <;> rfl
          · cases still E F' A' b seen <;> rfl

/-! ### Calls -/
def argsF (l : List AV) : Nat → Fr → Fr :=
  List.rec (motive := fun _ => Nat → Fr → Fr) (fun _ F => F) (fun v _ ih i F => ih (Nat.succ i) (set F i v)) l
omit [Rho] in
theorem argsF_eq : ∀ (l : List AV) (i : Nat) (F : Fr), argsF l i F = argsIn l i F
  | [], i, F => rfl
  | v :: l, i, F => by
    show argsF l (Nat.succ i) (set F i v) = argsIn l (Nat.succ i) (F.set i v)
    rw [set_eq, argsF_eq l]

def resOne (E : Env) (F : Fr) (A : AW) (r : ResultVar) : Option AV :=
  ResultVar.rec (motive := fun _ => Option AV) (fun t => some (orU (get F t))) (fun a t => AE.resultOne E F A (.cell a t)) r
omit [Rho] in
theorem resOne_eq (E : Env) (F : Fr) (A : AW) (r : ResultVar) : resOne E F A r = AE.resultOne E F A r := by
  cases r with
  | tmp t =>
    show some (orU (get F t)) = some (match F.get t with
      | some v => v
      | none => .undef)
    rw [get_eq]
    cases F.get t <;> rfl
  | cell a t => rfl
def resF (E : Env) (F : Fr) (A : AW) (l : List ResultVar) : Option (List AV) :=
  List.rec (motive := fun _ => Option (List AV)) (some []) (fun r _ ih => Option.rec (motive := fun _ => Option (List AV)) none (fun v => consO v ih) (resOne E F A r)) l
omit [Rho] in
theorem resF_eq (E : Env) (F : Fr) (A : AW) : ∀ (l : List ResultVar), resF E F A l = AE.resultsOf E F A l
  | [] => rfl
  | r :: l => by
    show Option.rec (motive := fun _ => Option (List AV)) none (fun v => consO v (resF E F A l)) (resOne E F A r) = (match AE.resultOne E F A r, AE.resultsOf E F A l with
      | some v, some vs => some (v :: vs)
      | _, _ => none)
    rw [resOne_eq, resF_eq E F A l]
    cases AE.resultOne E F A r with
    | none => rfl
    | some v => cases AE.resultsOf E F A l <;> rfl

def outL (l : List AV) (A : AW) : Out :=
  List.rec (motive := fun _ => Out) (.val (.tuple []) A) (fun v r _ => List.rec (motive := fun _ => Out) (.val v A) (fun w r _ => .val (.tuple (v :: w :: r)) A) r) l
def outF (E : Env) (fn : Func) (r : Res) : Out :=
  Res.rec (motive := fun _ => Out) (fun n => .fail n) (fun F A => Option.rec (motive := fun _ => Out) (.fail 180) (fun l => outL l A) (resF E F A fn.results.toList)) r
omit [Rho] in
theorem outF_eq (E : Env) (fn : Func) (r : Res) : outF E fn r = AE.outOf E fn r := by
  cases r with
  | fail n => rfl
  | ret F A =>
    show Option.rec (motive := fun _ => Out) (.fail 180) (fun l => outL l A) (resF E F A fn.results.toList) = (match AE.resultsOf E F A fn.results.toList with
      | some [v] => .val v A
      | some vs => .val (.tuple vs) A
      | none => .fail 180)
    rw [resF_eq]
    cases AE.resultsOf E F A fn.results.toList with
    | none => rfl
    | some l =>
      match l with
      | [] => rfl
      | [v] => rfl
      | v :: w :: r => rfl

def bodyF (E : Env) (f : FuncId) (args : List AV) (A : AW) (go : FnE → List Item → Fr → AW → Res) : Out :=
  Option.rec (motive := fun _ => Out) (.fail 183) (fun e => Option.rec (motive := fun _ => Out) (.fail 182)
    (fun c => Bool.rec (motive := fun _ => Out) (.fail 181) (outF E e.fn (go e [.code c] (argsF args 0 ⟨e.mask, [], .nil⟩) A)) (Nat.ble (len args) e.N)) e.fn.body) (tget E.fns f)
omit [Rho] in
theorem bodyF_eq (E : Env) (f : FuncId) (args : List AV) (A : AW) (go : FnE → List Item → Fr → AW → Res) : bodyF E f args A go = AE.bodyOf E f args A go := by
  unfold bodyF AE.bodyOf
  simp only [tget_eq]
  cases E.fns.get f with
  | none => rfl
  | some e =>
    simp only []
    cases e.fn.body with
    | none => rfl
    | some c =>
      simp only [len_eq, outF_eq, argsF_eq]
      cases Nat.ble (AE.len args) e.N <;> rfl

def drawOf (l : List (Nat × (List Nat × List Nat))) (id : Nat) : Option (List Nat × List Nat) :=
  List.rec (motive := fun _ => Option (List Nat × List Nat)) none (fun p _ ih => Prod.rec (motive := fun _ => Option (List Nat × List Nat)) (fun i x => Bool.rec (motive := fun _ => Option (List Nat × List Nat)) ih (some x) (Nat.beq i id)) p) l
omit [Rho] in
theorem drawOf_eq : ∀ (l : List (Nat × (List Nat × List Nat))) (id : Nat), drawOf l id = AE.drawOf l id
  | [], id => rfl
  | (i, x) :: l, id => by
    show Bool.rec (motive := fun _ => Option (List Nat × List Nat)) (drawOf l id) (some x) (Nat.beq i id) = bif Nat.beq i id then some x else AE.drawOf l id
    rw [drawOf_eq l]
    cases Nat.beq i id <;> rfl

def regF (E : Env) (C : FnE) (call : FuncId → List AV → AW → Out) (id : Nat) (ops : List Oper) (draw : Bool) (F : Fr) (A : AW) : ResF :=
  Bool.rec (motive := fun _ => ResF) (opsF E call C.N ops ops F A)
    (Option.rec (motive := fun _ => ResF) (.fail 196) (fun p => Prod.rec (motive := fun _ => ResF) (fun order bs => drawF E call C.N ops bs order [] F A) p) (drawOf C.draws id)) draw
omit [Rho] in
theorem regF_eq (E : Env) (C : FnE) (call : FuncId → List AV → AW → Out) (id : Nat) (ops : List Oper) (draw : Bool) (F : Fr) (A : AW) : regF E C call id ops draw F A = AE.regA E C call id ops draw F A := by
  cases draw with
  | false => exact opsF_eq E call C.N ops ops F A
  | true =>
    show Option.rec (motive := fun _ => ResF) (.fail 196) (fun p => Prod.rec (motive := fun _ => ResF) (fun order bs => drawF E call C.N ops bs order [] F A) p) (drawOf C.draws id) = _
    rw [drawOf_eq]
    unfold AE.regA
    cases AE.drawOf C.draws id with
    | none => rfl
    | some p =>
      obtain ⟨order, bs⟩ := p
      exact drawF_eq E call C.N ops bs order [] F A

def condF (x : AV) : (FnE → List Item → Fr → AW → Res) → Code → Code → List Item → FnE → Fr → AW → Res :=
  AV.rec (motive_1 := fun _ => (FnE → List Item → Fr → AW → Res) → Code → Code → List Item → FnE → Fr → AW → Res) (motive_2 := fun _ => PUnit)
    (fun _ _ _ _ _ _ _ => .fail 191)
    (fun b => fun ih p q k C F A => Bool.rec (motive := fun _ => Res) (ih C (.code q :: k) F A) (ih C (.code p :: k) F A) b)
    (fun z0 z1 => fun _ _ _ _ _ _ _ => .fail 191)
    (fun z0 z1 => fun _ _ _ _ _ _ _ => .fail 191)
    (fun z0 z1 z2 => fun _ _ _ _ _ _ _ => .fail 191)
    (fun z0 => fun _ _ _ _ _ _ _ => .fail 191)
    (fun _ _ _ _ _ _ _ => .fail 191)
    (fun z0 z1 z2 => fun _ _ _ _ _ _ _ => .fail 191)
    (fun _ _ _ _ _ _ _ => .fail 191)
    (fun z0 => fun _ _ _ _ _ _ _ => .fail 191)
    (fun z0 z1 z2 z3 z4 z5 => fun _ _ _ _ _ _ _ => .fail 191)
    (fun _ _ _ _ _ _ _ => .fail 191)
    (fun z0 => fun _ _ _ _ _ _ _ => .fail 191)
    (fun z0 z1 z2 _ _ => fun _ _ _ _ _ _ _ => .fail 191)
    (fun _ _ _ _ _ _ _ => .fail 191)
    (fun z0 _ => fun _ _ _ _ _ _ _ => .fail 191)
    (fun z0 _ => fun _ _ _ _ _ _ _ => .fail 191)
    (fun z0 z1 z2 => fun _ _ _ _ _ _ _ => .fail 191)
    (fun z0 z1 z2 => fun _ _ _ _ _ _ _ => .fail 191)
    (fun z0 z1 z2 => fun _ _ _ _ _ _ _ => .fail 191)
    (fun z0 z1 z2 z3 => fun _ _ _ _ _ _ _ => .fail 191)
    (fun z0 z1 => fun _ _ _ _ _ _ _ => .fail 191)
    (fun z0 => fun _ _ _ _ _ _ _ => .fail 191)
    (fun z0 z1 => fun _ _ _ _ _ _ _ => .fail 191)
    (fun z0 z1 => fun _ _ _ _ _ _ _ => .fail 191)
    (fun z0 z1 z2 => fun _ _ _ _ _ _ _ => .fail 191)
    (fun z0 z1 => fun _ _ _ _ _ _ _ => .fail 191)
    (fun z0 z1 z2 => fun _ _ _ _ _ _ _ => .fail 191)
    PUnit.unit (fun _ _ _ _ => PUnit.unit) x

def codeF (c : Code) : Env → (FnE → List Item → Fr → AW → Res) → List Item → FnE → Fr → AW → Res :=
  Code.rec (motive := fun _ => Env → (FnE → List Item → Fr → AW → Res) → List Item → FnE → Fr → AW → Res)
    (fun E ih k C F A => ih C k F A)
    (fun id ops draw E ih k C F A => ResF.rec (motive := fun _ => Res) (fun m => .fail m) (fun F A => ih C k (clear F) A) (regF E C (fun f args A => bodyF E f args A ih) id ops.toList draw F A))
    (fun a b _ _ E ih k C F A => ih C (.code a :: .code b :: k) F A)
    (fun c a b _ _ E ih k C F A => condF (ev F c) ih a b k C F A)
    (fun id c _ E ih k C F A => ih C (.code c :: .inBlock id :: k) F A)
    (fun c _ E ih k C F A => ih C (.code c :: .inLoop c :: k) F A)
    (fun _ _ _ _ _ _ E ih k C F A => .fail 194)
    (fun id E ih k C F A => Option.rec (motive := fun _ => Res) (.fail 192) (fun k' => ih C k' F A) (exitTo id k))
    (fun c _ E ih k C F A => ih C (.code c :: .inScope c :: k) F A)
    (fun _ E ih k C F A => ih C k F A)
    (fun l E ih k C F A => Option.rec (motive := fun _ => Res) (.fail 193) (fun k' => ih C k' F A) (gotoIn l k))
    (fun E ih k C F A => .ret F A)
    (fun _ E ih k C F A => .fail 194) c

def itemF (i : Item) : Env → (FnE → List Item → Fr → AW → Res) → List Item → FnE → Fr → AW → Res :=
  Item.rec (motive := fun _ => Env → (FnE → List Item → Fr → AW → Res) → List Item → FnE → Fr → AW → Res)
    (fun c E ih k C F A => codeF c E ih k C F A)
    (fun _ E ih k C F A => ih C k F A)
    (fun c E ih k C F A => ih C (.code c :: .inLoop c :: k) F A)
    (fun _ E ih k C F A => ih C k F A)
    (fun _ _ _ _ _ _ _ _ => .fail 195)
    (fun _ _ _ _ _ _ _ => .fail 195)
    (fun _ _ _ _ _ _ _ => .fail 195)
    (fun _ _ _ _ _ _ => .fail 195)
    (fun _ _ _ _ _ _ _ _ _ _ => .fail 195)
    (fun _ _ _ _ _ _ _ _ => .fail 195) i

def goF (E : Env) (n : Nat) : FnE → List Item → Fr → AW → Res :=
  Nat.rec (motive := fun _ => FnE → List Item → Fr → AW → Res) (fun _ _ _ _ => .fail 190)
    (fun _ ih C todo F A => List.rec (motive := fun _ => Res) (.ret F A) (fun i k _ => itemF i E ih k C F A) todo) n
omit [Rho] in
theorem goF_eq (E : Env) : ∀ (n : Nat), goF E n = AE.go E n
  | 0 => rfl
  | n + 1 => by
    funext C todo F A
    show List.rec (motive := fun _ => Res) (.ret F A) (fun i k _ => itemF i E (goF E n) k C F A) todo = _
    rw [goF_eq E n]
    cases todo with
    | nil => rfl
    | cons i k =>
      cases i
      case code c =>
        cases c
        case region id ops draw =>
          show ResF.rec (motive := fun _ => Res) (fun m => .fail m) (fun F A => AE.go E n C k (clear F) A) (regF E C (fun f args A => bodyF E f args A (AE.go E n)) id ops.toList draw F A) = _
          have hb : (fun f args A => bodyF E f args A (AE.go E n)) = (fun f args A => AE.bodyOf E f args A (AE.go E n)) := by
            funext f args A
            exact bodyF_eq E f args A _
          rw [hb, regF_eq]
          show _ = (match AE.regA E C (fun f args A => AE.bodyOf E f args A (AE.go E n)) id ops.toList draw F A with
            | .ok F A => AE.go E n C k F.clear A
            | .fail m => .fail m)
          cases AE.regA E C (fun f args A => AE.bodyOf E f args A (AE.go E n)) id ops.toList draw F A with
          | fail m => rfl
          | ok F A =>
            show AE.go E n C k (clear F) A = AE.go E n C k F.clear A
            rw [clear_eq]
        case cond c a b =>
          show condF (ev F c) (AE.go E n) a b k C F A = (match AE.ev F c with
            | .bool true => AE.go E n C (.code a :: k) F A
            | .bool false => AE.go E n C (.code b :: k) F A
            | _ => .fail 191)
          rw [ev_eq]
          cases AE.ev F c
          case bool b => cases b <;> rfl
          all_goals rfl
        case exit id =>
          show Option.rec (motive := fun _ => Res) (.fail 192) (fun k' => AE.go E n C k' F A) (exitTo id k) = (match exitTo id k with
            | some k' => AE.go E n C k' F A
            | none => .fail 192)
          cases exitTo id k <;> rfl
        case goto id =>
          show Option.rec (motive := fun _ => Res) (.fail 193) (fun k' => AE.go E n C k' F A) (gotoIn id k) = (match gotoIn id k with
            | some k' => AE.go E n C k' F A
            | none => .fail 193)
          cases gotoIn id k <;> rfl
        all_goals rfl
      all_goals rfl

def run (E : Env) (n : Nat) (f : FuncId) (args : List AV) (A : AW) : Out := bodyF E f args A (goF E n)
omit [Rho] in
theorem run_eq (E : Env) (n : Nat) (f : FuncId) (args : List AV) (A : AW) : run E n f args A = AE.call E n f args A := by
  unfold run AE.call
  rw [bodyF_eq, goF_eq]

/-- **THE TOP**, by the twin. -/
theorem top {E : Env} (hE : EnvOk E) {n : Nat} {f : FuncId} {args : List AV} {cargs : Array Value} (h : yes (run E n f args ⟨.nil, 0⟩) = true) (ha : LRel (fun _ _ => none) args cargs.toList) (w : World) :
    Calls E.P f cargs w fun e w' => e = .returned (.bool true) ∧ Below w.heap.size w w' :=
  AE.top hE (by rw [run_eq] at h; exact h) ha w
end
end Go.AE.R
