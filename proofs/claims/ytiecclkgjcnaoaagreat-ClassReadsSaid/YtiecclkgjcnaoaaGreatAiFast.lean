/-
  THE EVALUATOR'S TWIN FOR THE KERNEL: direct recursors, closed arms; equal to the evaluator.
-/
import Derived.Test.YtiecclkgjcnaoaaGreatAiOrc
namespace Go.AE.R
open Go.AE
set_option linter.unusedVariables false
set_option linter.unusedSimpArgs false
variable [Rho]
noncomputable section
def tget {α : Type} (t : Tr α) : Nat → Option α :=
  Tr.rec (motive := fun _ => Nat → Option α) (fun _ => none)
    (fun _ v _ ihl ihr k => Nat.rec (motive := fun _ => Option α) v
      (fun k _ => Bool.rec (motive := fun _ => Option α) (ihr (Nat.div k 2)) (ihl (Nat.div k 2)) (Nat.beq (Nat.mod k 2) 0)) k) t
def tsetAt {α : Type} (x : α) (f : Nat) : Tr α → Nat → Tr α :=
  Nat.rec (motive := fun _ => Tr α → Nat → Tr α) (fun t _ => t)
    (fun _ ih t k => Nat.rec (motive := fun _ => Tr α)
      (Tr.rec (motive := fun _ => Tr α) (.node .nil (some x) .nil) (fun l _ r _ _ => .node l (some x) r) t)
      (fun k _ => Tr.rec (motive := fun _ => Tr α)
        (Bool.rec (motive := fun _ => Tr α) (.node .nil none (ih .nil (Nat.div k 2))) (.node (ih .nil (Nat.div k 2)) none .nil) (Nat.beq (Nat.mod k 2) 0))
        (fun l v r _ _ => Bool.rec (motive := fun _ => Tr α) (.node l v (ih r (Nat.div k 2))) (.node (ih l (Nat.div k 2)) v r) (Nat.beq (Nat.mod k 2) 0)) t) k) f
def tset {α : Type} (t : Tr α) (k : Nat) (x : α) : Tr α := tsetAt x (Nat.succ k) t k
def nth {α : Type} (l : List α) : Nat → Option α :=
  List.rec (motive := fun _ => Nat → Option α) (fun _ => none)
    (fun x _ ih n => Nat.rec (motive := fun _ => Option α) (some x) (fun n _ => ih n) n) l
def dropN {α : Type} (n : Nat) : List α → List α :=
  Nat.rec (motive := fun _ => List α → List α) (fun l => l)
    (fun _ ih l => List.rec (motive := fun _ => List α) [] (fun _ xs _ => ih xs) l) n
def consO {α : Type} (x : α) (o : Option (List α)) : Option (List α) :=
  Option.rec (motive := fun _ => Option (List α)) none (fun l => some (x :: l)) o
def takeN {α : Type} (n : Nat) : List α → Option (List α) :=
  Nat.rec (motive := fun _ => List α → Option (List α)) (fun _ => some [])
    (fun _ ih l => List.rec (motive := fun _ => Option (List α)) none (fun x xs _ => consO x (ih xs)) l) n
def over {α : Type} (xs : List α) : List α → Option (List α) :=
  List.rec (motive := fun _ => List α → Option (List α)) (fun l => some l)
    (fun x _ ih l => List.rec (motive := fun _ => Option (List α)) none (fun _ l _ => consO x (ih l)) l) xs
def putN {α : Type} (n : Nat) (xs : List α) : List α → Option (List α) :=
  Nat.rec (motive := fun _ => List α → Option (List α)) (fun l => over xs l)
    (fun _ ih l => List.rec (motive := fun _ => Option (List α)) none (fun y l _ => consO y (ih l)) l) n
def len {α : Type} (l : List α) : Nat := List.rec (motive := fun _ => Nat) 0 (fun _ _ ih => Nat.succ ih) l
def app {α : Type} (l r : List α) : List α := List.rec (motive := fun _ => List α) r (fun x _ ih => x :: ih) l
def find (l : List (Nat × AV)) : Nat → Option AV :=
  List.rec (motive := fun _ => Nat → Option AV) (fun _ => none)
    (fun p _ ih t => Prod.rec (motive := fun _ => Option AV) (fun i v => Bool.rec (motive := fun _ => Option AV) (ih t) (some v) (Nat.beq i t)) p) l
def get (F : Fr) (t : Nat) : Option AV :=
  Fr.rec (motive := fun _ => Option AV) (fun mask loc var => Bool.rec (motive := fun _ => Option AV) (find loc t) (tget var t) (bit mask t)) F
def fieldOff (E : Env) (s : TypeId) (i : Nat) : Option Nat :=
  match E.tys.get s with
  | some d => (match d.desc with
    | .struct fields => (match AE.nth fields.toList i with
      | some fl => (match E.tys.get fl.type with
        | some df => bif Nat.ble 1 df.size then some fl.offset else none
        | none => none)
      | none => none)
    | _ => none)
  | none => none
def fieldAddrF (x : AV) : Env → TypeId → Nat → AW → OpE :=
  AV.rec (motive_1 := fun _ => Env → TypeId → Nat → AW → OpE) (motive_2 := fun _ => PUnit)
    (fun E s i A => liftR (fieldAddrA E s (AV.undef) i A))
    (fun z0 => fun E s i A => liftR (fieldAddrA E s (AV.bool z0) i A))
    (fun z0 z1 => fun E s i A => liftR (fieldAddrA E s (AV.int z0 z1) i A))
    (fun z0 z1 => fun E s i A => liftR (fieldAddrA E s (AV.float z0 z1) i A))
    (fun z0 z1 z2 => fun E s i A => liftR (fieldAddrA E s (AV.cplx z0 z1 z2) i A))
    (fun z0 => fun E s i A => liftR (fieldAddrA E s (AV.str z0) i A))
    (fun E s i A => liftR (fieldAddrA E s (AV.nilp) i A))
    (fun f t o => fun E s i A => Option.rec (motive := fun _ => OpE) (liftR (fieldAddrA E s (.ptr f t o) i A)) (fun off => .val (.ptr f t (Nat.add o off)) A) (fieldOff E s i))
    (fun E s i A => liftR (fieldAddrA E s (AV.nils) i A))
    (fun z0 => fun E s i A => liftR (fieldAddrA E s (AV.emp z0) i A))
    (fun z0 z1 z2 z3 z4 z5 => fun E s i A => liftR (fieldAddrA E s (AV.slice z0 z1 z2 z3 z4 z5) i A))
    (fun E s i A => liftR (fieldAddrA E s (AV.nilm) i A))
    (fun z0 => fun E s i A => liftR (fieldAddrA E s (AV.map z0) i A))
    (fun z0 z1 z2 _ _ => fun E s i A => liftR (fieldAddrA E s (AV.func z0 z1 z2) i A))
    (fun E s i A => liftR (fieldAddrA E s (AV.nilFunc) i A))
    (fun z0 _ => fun E s i A => liftR (fieldAddrA E s (AV.agg z0) i A))
    (fun z0 _ => fun E s i A => liftR (fieldAddrA E s (AV.tuple z0) i A))
    (fun z0 z1 z2 => fun E s i A => liftR (fieldAddrA E s (AV.rest z0 z1 z2) i A))
    (fun z0 z1 z2 => fun E s i A => liftR (fieldAddrA E s (AV.rng z0 z1 z2) i A))
    (fun z0 z1 z2 => fun E s i A => liftR (fieldAddrA E s (AV.among z0 z1 z2) i A))
    (fun z0 z1 z2 z3 => fun E s i A => liftR (fieldAddrA E s (AV.sym z0 z1 z2 z3) i A))
    (fun z0 z1 => fun E s i A => liftR (fieldAddrA E s (AV.sstr z0 z1) i A))
    (fun z0 => fun E s i A => liftR (fieldAddrA E s (AV.neg z0) i A))
    (fun z0 z1 => fun E s i A => liftR (fieldAddrA E s (AV.bits z0 z1) i A))
    (fun z0 z1 => fun E s i A => liftR (fieldAddrA E s (AV.nbits z0 z1) i A))
    (fun z0 z1 z2 => fun E s i A => liftR (fieldAddrA E s (AV.tm z0 z1 z2) i A))
    (fun z0 z1 => fun E s i A => liftR (fieldAddrA E s (AV.ustr z0 z1) i A))
    (fun z0 z1 z2 => fun E s i A => liftR (fieldAddrA E s (AV.least z0 z1 z2) i A))
    PUnit.unit (fun _ _ _ _ => PUnit.unit) x
omit [Rho] in
theorem fieldAddrF_eq (E : Env) (s : TypeId) (x : AV) (i : Nat) (A : AW) : fieldAddrF x E s i A = liftR (fieldAddrA E s x i A) := by
  cases x
  case ptr f t o =>
    show Option.rec (motive := fun _ => OpE) (liftR (fieldAddrA E s (.ptr f t o) i A)) (fun off => .val (.ptr f t (Nat.add o off)) A) (fieldOff E s i) = _
    cases h : fieldOff E s i with
    | none => rfl
    | some off =>
      unfold fieldOff at h
      unfold fieldAddrA
      split at h
      · rename_i d hd
        split at h
        · rename_i fields hf
          split at h
          · rename_i fl hfl
            split at h
            · rename_i df hdf
              cases hb : Nat.ble 1 df.size <;> rw [hb] at h <;> simp only [cond_true, cond_false] at h <;> cases h
              simp only [hd, hf, hfl, hdf, hb, cond_true, liftR]
            · cases h
          · cases h
        · cases h
      · cases h
  all_goals rfl
def elemOf (E : Env) (t : TypeId) : Option Nat :=
  match E.tys.get t with
  | some d => (match d.desc with
    | .slice e => (match E.tys.get e with
      | some de => some de.size
      | none => none)
    | _ => none)
  | none => none
def idxAddr2 (x : AV) : Env → TypeId → IntKind → Nat → AW → OpE :=
  AV.rec (motive_1 := fun _ => Env → TypeId → IntKind → Nat → AW → OpE) (motive_2 := fun _ => PUnit)
    (fun E t k i A => liftR (indexAddrA E t (AV.undef) (.int k (.ofNat i)) A))
    (fun z0 => fun E t k i A => liftR (indexAddrA E t (AV.bool z0) (.int k (.ofNat i)) A))
    (fun z0 z1 => fun E t k i A => liftR (indexAddrA E t (AV.int z0 z1) (.int k (.ofNat i)) A))
    (fun z0 z1 => fun E t k i A => liftR (indexAddrA E t (AV.float z0 z1) (.int k (.ofNat i)) A))
    (fun z0 z1 z2 => fun E t k i A => liftR (indexAddrA E t (AV.cplx z0 z1 z2) (.int k (.ofNat i)) A))
    (fun z0 => fun E t k i A => liftR (indexAddrA E t (AV.str z0) (.int k (.ofNat i)) A))
    (fun E t k i A => liftR (indexAddrA E t (AV.nilp) (.int k (.ofNat i)) A))
    (fun z0 z1 z2 => fun E t k i A => liftR (indexAddrA E t (AV.ptr z0 z1 z2) (.int k (.ofNat i)) A))
    (fun E t k i A => liftR (indexAddrA E t (AV.nils) (.int k (.ofNat i)) A))
    (fun z0 => fun E t k i A => liftR (indexAddrA E t (AV.emp z0) (.int k (.ofNat i)) A))
    (fun f s o n c e => fun E t k i A => Option.rec (motive := fun _ => OpE) (liftR (indexAddrA E t (.slice f s o n c e) (.int k (.ofNat i)) A)) (fun sz => Bool.rec (motive := fun _ => OpE) (.fail 70) (.val (.ptr f s (Nat.add o (Nat.mul i sz))) A) (Nat.blt i n)) (elemOf E t))
    (fun E t k i A => liftR (indexAddrA E t (AV.nilm) (.int k (.ofNat i)) A))
    (fun z0 => fun E t k i A => liftR (indexAddrA E t (AV.map z0) (.int k (.ofNat i)) A))
    (fun z0 z1 z2 _ _ => fun E t k i A => liftR (indexAddrA E t (AV.func z0 z1 z2) (.int k (.ofNat i)) A))
    (fun E t k i A => liftR (indexAddrA E t (AV.nilFunc) (.int k (.ofNat i)) A))
    (fun z0 _ => fun E t k i A => liftR (indexAddrA E t (AV.agg z0) (.int k (.ofNat i)) A))
    (fun z0 _ => fun E t k i A => liftR (indexAddrA E t (AV.tuple z0) (.int k (.ofNat i)) A))
    (fun z0 z1 z2 => fun E t k i A => liftR (indexAddrA E t (AV.rest z0 z1 z2) (.int k (.ofNat i)) A))
    (fun z0 z1 z2 => fun E t k i A => liftR (indexAddrA E t (AV.rng z0 z1 z2) (.int k (.ofNat i)) A))
    (fun z0 z1 z2 => fun E t k i A => liftR (indexAddrA E t (AV.among z0 z1 z2) (.int k (.ofNat i)) A))
    (fun z0 z1 z2 z3 => fun E t k i A => liftR (indexAddrA E t (AV.sym z0 z1 z2 z3) (.int k (.ofNat i)) A))
    (fun z0 z1 => fun E t k i A => liftR (indexAddrA E t (AV.sstr z0 z1) (.int k (.ofNat i)) A))
    (fun z0 => fun E t k i A => liftR (indexAddrA E t (AV.neg z0) (.int k (.ofNat i)) A))
    (fun z0 z1 => fun E t k i A => liftR (indexAddrA E t (AV.bits z0 z1) (.int k (.ofNat i)) A))
    (fun z0 z1 => fun E t k i A => liftR (indexAddrA E t (AV.nbits z0 z1) (.int k (.ofNat i)) A))
    (fun z0 z1 z2 => fun E t k i A => liftR (indexAddrA E t (AV.tm z0 z1 z2) (.int k (.ofNat i)) A))
    (fun z0 z1 => fun E t k i A => liftR (indexAddrA E t (AV.ustr z0 z1) (.int k (.ofNat i)) A))
    (fun z0 z1 z2 => fun E t k i A => liftR (indexAddrA E t (AV.least z0 z1 z2) (.int k (.ofNat i)) A))
    PUnit.unit (fun _ _ _ _ => PUnit.unit) x
def idxAddrF (i : AV) : AV → Env → TypeId → AW → OpE :=
  AV.rec (motive_1 := fun _ => AV → Env → TypeId → AW → OpE) (motive_2 := fun _ => PUnit)
    (fun _ _ _ _ => .fail 75)
    (fun z0 => fun _ _ _ _ => .fail 75)
    (fun k n => fun x E t A => Int.rec (motive := fun _ => OpE) (fun i => idxAddr2 x E t k i A) (fun _ => .fail 75) n)
    (fun z0 z1 => fun _ _ _ _ => .fail 75)
    (fun z0 z1 z2 => fun _ _ _ _ => .fail 75)
    (fun z0 => fun _ _ _ _ => .fail 75)
    (fun _ _ _ _ => .fail 75)
    (fun z0 z1 z2 => fun _ _ _ _ => .fail 75)
    (fun _ _ _ _ => .fail 75)
    (fun z0 => fun _ _ _ _ => .fail 75)
    (fun z0 z1 z2 z3 z4 z5 => fun _ _ _ _ => .fail 75)
    (fun _ _ _ _ => .fail 75)
    (fun z0 => fun _ _ _ _ => .fail 75)
    (fun z0 z1 z2 _ _ => fun _ _ _ _ => .fail 75)
    (fun _ _ _ _ => .fail 75)
    (fun z0 _ => fun _ _ _ _ => .fail 75)
    (fun z0 _ => fun _ _ _ _ => .fail 75)
    (fun z0 z1 z2 => fun _ _ _ _ => .fail 75)
    (fun z0 z1 z2 => fun _ _ _ _ => .fail 75)
    (fun z0 z1 z2 => fun _ _ _ _ => .fail 75)
    (fun z0 z1 z2 z3 => fun _ _ _ _ => .fail 75)
    (fun z0 z1 => fun _ _ _ _ => .fail 75)
    (fun z0 => fun _ _ _ _ => .fail 75)
    (fun z0 z1 => fun _ _ _ _ => .fail 75)
    (fun z0 z1 => fun _ _ _ _ => .fail 75)
    (fun z0 z1 z2 => fun _ _ _ _ => .fail 75)
    (fun z0 z1 => fun _ _ _ _ => .fail 75)
    (fun z0 z1 z2 => fun _ _ _ _ => .fail 75)
    PUnit.unit (fun _ _ _ _ => PUnit.unit) i
omit [Rho] in
theorem idxAddr2_eq (E : Env) (t : TypeId) (x : AV) (k : IntKind) (i : Nat) (A : AW) : idxAddr2 x E t k i A = liftR (indexAddrA E t x (.int k (.ofNat i)) A) := by
  cases x
  case slice f s o n c e =>
    show Option.rec (motive := fun _ => OpE) (liftR (indexAddrA E t (.slice f s o n c e) (.int k (.ofNat i)) A)) _ (elemOf E t) = _
    cases h : elemOf E t with
    | none => rfl
    | some sz =>
      unfold elemOf at h
      unfold indexAddrA
      split at h
      · rename_i d hd
        split at h
        · rename_i e hf
          split at h
          · rename_i de hde
            cases h
            simp only [hd, hf, hde]
            cases Nat.blt i n <;> rfl
          · cases h
        · cases h
      · cases h
  all_goals rfl
omit [Rho] in
theorem idxAddrF_eq (E : Env) (t : TypeId) (x i : AV) (A : AW) : idxAddrF i x E t A = liftR (indexAddrA E t x i A) := by
  cases i
  case int k n =>
    cases n with
    | ofNat n => exact idxAddr2_eq E t x k n A
    | negSucc n => rfl
  all_goals rfl
def hasB (E : Env) (f : FuncId) : Bool :=
  match E.fns.get f with
  | some e => (match e.fn.body with
    | some _ => true
    | none => false)
  | none => false
def enterF (E : Env) (f : FuncId) (args : List AV) (A : AW) : OpE :=
  Option.rec (motive := fun _ => OpE)
    (Bool.rec (motive := fun _ => OpE) (enterA E f args A) (.enter f args) (hasB E f))
    (fun p => Prod.rec (motive := fun _ => OpE) (fun v l => .val (shift2 A.nxt v) (addFams A.nxt l A)) p) (E.orc f args)
omit [Rho] in
theorem enterF_eq (E : Env) (f : FuncId) (args : List AV) (A : AW) : enterF E f args A = enterA E f args A := by
  unfold enterF
  cases h : E.orc f args with
  | some p => simp only [enterA, h]
  | none =>
    show Bool.rec (motive := fun _ => OpE) (enterA E f args A) (.enter f args) (hasB E f) = _
    cases hb : hasB E f with
    | false => rfl
    | true =>
      unfold hasB at hb
      simp only [enterA, h]
      split at hb
      · rename_i e he
        split at hb
        · rename_i c hc
          simp only [he, hc]
        · cases hb
      · cases hb
def lenKind (E : Env) (t : TypeId) : Nat :=
  match E.tys.get t with
  | some d => (match d.desc with
    | .string => 1
    | .slice _ => 2
    | _ => 0)
  | none => 0
def lenF (x : AV) : Env → TypeId → AW → OpE :=
  AV.rec (motive_1 := fun _ => Env → TypeId → AW → OpE) (motive_2 := fun _ => PUnit)
    (fun E t A => liftR (lenA E t (AV.undef) A))
    (fun z0 => fun E t A => liftR (lenA E t (AV.bool z0) A))
    (fun z0 z1 => fun E t A => liftR (lenA E t (AV.int z0 z1) A))
    (fun z0 z1 => fun E t A => liftR (lenA E t (AV.float z0 z1) A))
    (fun z0 z1 z2 => fun E t A => liftR (lenA E t (AV.cplx z0 z1 z2) A))
    (fun s => fun E t A => Bool.rec (motive := fun _ => OpE) (liftR (lenA E t (.str s) A)) (.val (.int .i64 (.ofNat (len s))) A) (Nat.beq (lenKind E t) 1))
    (fun E t A => liftR (lenA E t (AV.nilp) A))
    (fun z0 z1 z2 => fun E t A => liftR (lenA E t (AV.ptr z0 z1 z2) A))
    (fun E t A => liftR (lenA E t (AV.nils) A))
    (fun z0 => fun E t A => liftR (lenA E t (AV.emp z0) A))
    (fun f s o n c e => fun E t A => Bool.rec (motive := fun _ => OpE) (liftR (lenA E t (.slice f s o n c e) A)) (.val (.int .i64 (.ofNat n)) A) (Nat.beq (lenKind E t) 2))
    (fun E t A => liftR (lenA E t (AV.nilm) A))
    (fun z0 => fun E t A => liftR (lenA E t (AV.map z0) A))
    (fun z0 z1 z2 _ _ => fun E t A => liftR (lenA E t (AV.func z0 z1 z2) A))
    (fun E t A => liftR (lenA E t (AV.nilFunc) A))
    (fun z0 _ => fun E t A => liftR (lenA E t (AV.agg z0) A))
    (fun z0 _ => fun E t A => liftR (lenA E t (AV.tuple z0) A))
    (fun z0 z1 z2 => fun E t A => liftR (lenA E t (AV.rest z0 z1 z2) A))
    (fun z0 z1 z2 => fun E t A => liftR (lenA E t (AV.rng z0 z1 z2) A))
    (fun z0 z1 z2 => fun E t A => liftR (lenA E t (AV.among z0 z1 z2) A))
    (fun z0 z1 z2 z3 => fun E t A => liftR (lenA E t (AV.sym z0 z1 z2 z3) A))
    (fun z0 z1 => fun E t A => liftR (lenA E t (AV.sstr z0 z1) A))
    (fun z0 => fun E t A => liftR (lenA E t (AV.neg z0) A))
    (fun z0 z1 => fun E t A => liftR (lenA E t (AV.bits z0 z1) A))
    (fun z0 z1 => fun E t A => liftR (lenA E t (AV.nbits z0 z1) A))
    (fun z0 z1 z2 => fun E t A => liftR (lenA E t (AV.tm z0 z1 z2) A))
    (fun z0 z1 => fun E t A => liftR (lenA E t (AV.ustr z0 z1) A))
    (fun z0 z1 z2 => fun E t A => liftR (lenA E t (AV.least z0 z1 z2) A))
    PUnit.unit (fun _ _ _ _ => PUnit.unit) x
def len1 (args : List AV) : Env → List TypeId → AW → OpE :=
  List.rec (motive := fun _ => Env → List TypeId → AW → OpE) (fun _ _ _ => .fail 120)
    (fun x l _ E ts A => List.rec (motive := fun _ => OpE) (.fail 120) (fun t _ _ => lenF x E t A) ts) args
def apInf (E : Env) (ts : List TypeId) : Option (Nat × Nat) :=
  match ts with
  | [t, t'] => (match E.tys.get t' with
    | some d' => (match d'.desc with
      | .slice _ => (match E.tys.get t with
        | some d => (match d.desc with
          | .slice e => (match E.tys.get e with
            | some de => (match de.zero with
              | some _ => bif Nat.ble 1 de.size then some (de.size, de.bytes) else none
              | none => none)
            | none => none)
          | _ => none)
        | none => none)
      | _ => none)
    | none => none)
  | _ => none
def rowC (f u o n c es bytes m : Nat) (ex : Bool) (xs : List AV) (A : AW) (fam : AFam) : OpE :=
  AFam.rec (motive := fun _ => OpE) (fun cur ro es' cs => Bool.rec (motive := fun _ => OpE) (.fail 107)
    (Bool.rec (motive := fun _ => OpE)
      (Bool.rec (motive := fun _ => OpE) (.fail 105)
        (Bool.rec (motive := fun _ => OpE)
          (Bool.rec (motive := fun _ => OpE)
            (Option.rec (motive := fun _ => OpE) (.fail 104) (fun old => .val (.slice f (Nat.succ u) o (Nat.add n m) (Nat.add n m) false) ⟨tset A.heap f (.cells (Nat.succ u) false es (app old xs)), A.nxt⟩) (takeN (Nat.add o (Nat.mul n es)) cs))
            (.fail 102) ro)
          (Option.rec (motive := fun _ => OpE) (.fail 104) (fun old => .val (.slice A.nxt 0 0 (Nat.add n m) (Nat.add n m) false) ⟨tset A.heap A.nxt (.cells 0 false es (app old xs)), Nat.succ A.nxt⟩) (takeN (Nat.mul n es) (dropN o cs)))
          ex) (roomA (Nat.add n m) bytes))
      (Bool.rec (motive := fun _ => OpE)
        (Option.rec (motive := fun _ => OpE) (.fail 103) (fun cs => .val (.slice f u o (Nat.add n m) c ex) ⟨tset A.heap f (.cells cur ro es cs), A.nxt⟩) (putN (Nat.add o (Nat.mul n es)) xs cs))
        (.fail 102) ro) (Nat.ble (Nat.add n m) c)) (Nat.beq cur u && Nat.beq es' es)) (fun _ => .fail 108) fam
def rowF (f u o n c es bytes m : Nat) (ex : Bool) (xs : List AV) (A : AW) : OpE :=
  Option.rec (motive := fun _ => OpE) (.fail 108) (fun fam => rowC f u o n c es bytes m ex xs A fam) (tget A.heap f)
def cellsC (s o n : Nat) (fam : AFam) : Option (List AV) :=
  AFam.rec (motive := fun _ => Option (List AV)) (fun cur _ _ cs => Bool.rec (motive := fun _ => Option (List AV)) none (takeN n (dropN o cs)) (Nat.beq cur s)) (fun _ => none) fam
def cellsF (A : AW) (f s o n : Nat) : Option (List AV) :=
  Option.rec (motive := fun _ => Option (List AV)) none (fun fam => cellsC s o n fam) (tget A.heap f)
def apS (s : AV) : Env → List TypeId → AV → Nat → Nat → Nat → List AV → AW → OpE :=
  AV.rec (motive_1 := fun _ => Env → List TypeId → AV → Nat → Nat → Nat → List AV → AW → OpE) (motive_2 := fun _ => PUnit)
    (fun E ts x size bytes m xs A => liftR (builtinA E .append ts [(AV.undef), x] A))
    (fun z0 => fun E ts x size bytes m xs A => liftR (builtinA E .append ts [(AV.bool z0), x] A))
    (fun z0 z1 => fun E ts x size bytes m xs A => liftR (builtinA E .append ts [(AV.int z0 z1), x] A))
    (fun z0 z1 => fun E ts x size bytes m xs A => liftR (builtinA E .append ts [(AV.float z0 z1), x] A))
    (fun z0 z1 z2 => fun E ts x size bytes m xs A => liftR (builtinA E .append ts [(AV.cplx z0 z1 z2), x] A))
    (fun z0 => fun E ts x size bytes m xs A => liftR (builtinA E .append ts [(AV.str z0), x] A))
    (fun E ts x size bytes m xs A => liftR (builtinA E .append ts [(AV.nilp), x] A))
    (fun z0 z1 z2 => fun E ts x size bytes m xs A => liftR (builtinA E .append ts [(AV.ptr z0 z1 z2), x] A))
    (fun E ts x size bytes m xs A => liftR (builtinA E .append ts [(AV.nils), x] A))
    (fun z0 => fun E ts x size bytes m xs A => liftR (builtinA E .append ts [(AV.emp z0), x] A))
    (fun f u o n c ex => fun E ts x size bytes m xs A => rowF f u o n c size bytes m ex xs A)
    (fun E ts x size bytes m xs A => liftR (builtinA E .append ts [(AV.nilm), x] A))
    (fun z0 => fun E ts x size bytes m xs A => liftR (builtinA E .append ts [(AV.map z0), x] A))
    (fun z0 z1 z2 _ _ => fun E ts x size bytes m xs A => liftR (builtinA E .append ts [(AV.func z0 z1 z2), x] A))
    (fun E ts x size bytes m xs A => liftR (builtinA E .append ts [(AV.nilFunc), x] A))
    (fun z0 _ => fun E ts x size bytes m xs A => liftR (builtinA E .append ts [(AV.agg z0), x] A))
    (fun z0 _ => fun E ts x size bytes m xs A => liftR (builtinA E .append ts [(AV.tuple z0), x] A))
    (fun z0 z1 z2 => fun E ts x size bytes m xs A => liftR (builtinA E .append ts [(AV.rest z0 z1 z2), x] A))
    (fun z0 z1 z2 => fun E ts x size bytes m xs A => liftR (builtinA E .append ts [(AV.rng z0 z1 z2), x] A))
    (fun z0 z1 z2 => fun E ts x size bytes m xs A => liftR (builtinA E .append ts [(AV.among z0 z1 z2), x] A))
    (fun z0 z1 z2 z3 => fun E ts x size bytes m xs A => liftR (builtinA E .append ts [(AV.sym z0 z1 z2 z3), x] A))
    (fun z0 z1 => fun E ts x size bytes m xs A => liftR (builtinA E .append ts [(AV.sstr z0 z1), x] A))
    (fun z0 => fun E ts x size bytes m xs A => liftR (builtinA E .append ts [(AV.neg z0), x] A))
    (fun z0 z1 => fun E ts x size bytes m xs A => liftR (builtinA E .append ts [(AV.bits z0 z1), x] A))
    (fun z0 z1 => fun E ts x size bytes m xs A => liftR (builtinA E .append ts [(AV.nbits z0 z1), x] A))
    (fun z0 z1 z2 => fun E ts x size bytes m xs A => liftR (builtinA E .append ts [(AV.tm z0 z1 z2), x] A))
    (fun z0 z1 => fun E ts x size bytes m xs A => liftR (builtinA E .append ts [(AV.ustr z0 z1), x] A))
    (fun z0 z1 z2 => fun E ts x size bytes m xs A => liftR (builtinA E .append ts [(AV.least z0 z1 z2), x] A))
    PUnit.unit (fun _ _ _ _ => PUnit.unit) s
def apX (x : AV) : Env → List TypeId → AV → Nat → Nat → AW → OpE :=
  AV.rec (motive_1 := fun _ => Env → List TypeId → AV → Nat → Nat → AW → OpE) (motive_2 := fun _ => PUnit)
    (fun E ts sv size bytes A => liftR (builtinA E .append ts [sv, (AV.undef)] A))
    (fun z0 => fun E ts sv size bytes A => liftR (builtinA E .append ts [sv, (AV.bool z0)] A))
    (fun z0 z1 => fun E ts sv size bytes A => liftR (builtinA E .append ts [sv, (AV.int z0 z1)] A))
    (fun z0 z1 => fun E ts sv size bytes A => liftR (builtinA E .append ts [sv, (AV.float z0 z1)] A))
    (fun z0 z1 z2 => fun E ts sv size bytes A => liftR (builtinA E .append ts [sv, (AV.cplx z0 z1 z2)] A))
    (fun z0 => fun E ts sv size bytes A => liftR (builtinA E .append ts [sv, (AV.str z0)] A))
    (fun E ts sv size bytes A => liftR (builtinA E .append ts [sv, (AV.nilp)] A))
    (fun z0 z1 z2 => fun E ts sv size bytes A => liftR (builtinA E .append ts [sv, (AV.ptr z0 z1 z2)] A))
    (fun E ts sv size bytes A => liftR (builtinA E .append ts [sv, (AV.nils)] A))
    (fun z0 => fun E ts sv size bytes A => liftR (builtinA E .append ts [sv, (AV.emp z0)] A))
    (fun f s o n c e => fun E ts sv size bytes A => Bool.rec (motive := fun _ => OpE) (Option.rec (motive := fun _ => OpE) (liftR (builtinA E .append ts [sv, .slice f s o n c e] A)) (fun xs => apS sv E ts (.slice f s o n c e) size bytes n xs A) (cellsF A f s o (Nat.mul n size))) (liftR (builtinA E .append ts [sv, .slice f s o n c e] A)) (Nat.beq n 0))
    (fun E ts sv size bytes A => liftR (builtinA E .append ts [sv, (AV.nilm)] A))
    (fun z0 => fun E ts sv size bytes A => liftR (builtinA E .append ts [sv, (AV.map z0)] A))
    (fun z0 z1 z2 _ _ => fun E ts sv size bytes A => liftR (builtinA E .append ts [sv, (AV.func z0 z1 z2)] A))
    (fun E ts sv size bytes A => liftR (builtinA E .append ts [sv, (AV.nilFunc)] A))
    (fun z0 _ => fun E ts sv size bytes A => liftR (builtinA E .append ts [sv, (AV.agg z0)] A))
    (fun z0 _ => fun E ts sv size bytes A => liftR (builtinA E .append ts [sv, (AV.tuple z0)] A))
    (fun z0 z1 z2 => fun E ts sv size bytes A => liftR (builtinA E .append ts [sv, (AV.rest z0 z1 z2)] A))
    (fun z0 z1 z2 => fun E ts sv size bytes A => liftR (builtinA E .append ts [sv, (AV.rng z0 z1 z2)] A))
    (fun z0 z1 z2 => fun E ts sv size bytes A => liftR (builtinA E .append ts [sv, (AV.among z0 z1 z2)] A))
    (fun z0 z1 z2 z3 => fun E ts sv size bytes A => liftR (builtinA E .append ts [sv, (AV.sym z0 z1 z2 z3)] A))
    (fun z0 z1 => fun E ts sv size bytes A => liftR (builtinA E .append ts [sv, (AV.sstr z0 z1)] A))
    (fun z0 => fun E ts sv size bytes A => liftR (builtinA E .append ts [sv, (AV.neg z0)] A))
    (fun z0 z1 => fun E ts sv size bytes A => liftR (builtinA E .append ts [sv, (AV.bits z0 z1)] A))
    (fun z0 z1 => fun E ts sv size bytes A => liftR (builtinA E .append ts [sv, (AV.nbits z0 z1)] A))
    (fun z0 z1 z2 => fun E ts sv size bytes A => liftR (builtinA E .append ts [sv, (AV.tm z0 z1 z2)] A))
    (fun z0 z1 => fun E ts sv size bytes A => liftR (builtinA E .append ts [sv, (AV.ustr z0 z1)] A))
    (fun z0 z1 z2 => fun E ts sv size bytes A => liftR (builtinA E .append ts [sv, (AV.least z0 z1 z2)] A))
    PUnit.unit (fun _ _ _ _ => PUnit.unit) x
def apA (args : List AV) : Env → List TypeId → AW → OpE :=
  match args with
  | [sv, x] => fun E ts A => Option.rec (motive := fun _ => OpE) (liftR (builtinA E .append ts [sv, x] A)) (fun p => Prod.rec (motive := fun _ => OpE) (fun size bytes => apX x E ts sv size bytes A) p) (apInf E ts)
  | args => fun E ts A => liftR (builtinA E .append ts args A)
end
end Go.AE.R
