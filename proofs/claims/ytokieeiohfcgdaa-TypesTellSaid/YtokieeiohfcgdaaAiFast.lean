/-
  THE EVALUATOR'S TWIN FOR THE KERNEL: direct recursors, closed arms; equal to the evaluator.
-/
import Derived.Test.YtokieeiohfcgdaaAiOrc
namespace Go.AE.R
open Go.AE
set_option linter.unusedVariables false
set_option linter.unusedSimpArgs false
variable [Rho]
noncomputable section

omit [Rho] in
theorem ite_eq {α : Type} (b : Bool) (x y : α) : Bool.rec (motive := fun _ => α) y x b = bif b then x else y := by cases b <;> rfl

/-! ### Tries and lists -/
def tget {α : Type} (t : Tr α) : Nat → Option α :=
  Tr.rec (motive := fun _ => Nat → Option α) (fun _ => none)
    (fun _ v _ ihl ihr k => Nat.rec (motive := fun _ => Option α) v
      (fun k _ => Bool.rec (motive := fun _ => Option α) (ihr (Nat.div k 2)) (ihl (Nat.div k 2)) (Nat.beq (Nat.mod k 2) 0)) k) t
omit [Rho] in
theorem tget_eq {α : Type} : ∀ (t : Tr α) (k : Nat), tget t k = t.get k
  | .nil, _ => rfl
  | .node l v r, 0 => rfl
  | .node l v r, k + 1 => by
    show Bool.rec (motive := fun _ => Option α) (tget r (Nat.div k 2)) (tget l (Nat.div k 2)) (Nat.beq (Nat.mod k 2) 0) = bif Nat.beq (Nat.mod k 2) 0 then l.get (Nat.div k 2) else r.get (Nat.div k 2)
    rw [tget_eq l, tget_eq r]
    cases Nat.beq (Nat.mod k 2) 0 <;> rfl

def tsetAt {α : Type} (x : α) (f : Nat) : Tr α → Nat → Tr α :=
  Nat.rec (motive := fun _ => Tr α → Nat → Tr α) (fun t _ => t)
    (fun _ ih t k => Nat.rec (motive := fun _ => Tr α)
      (Tr.rec (motive := fun _ => Tr α) (.node .nil (some x) .nil) (fun l _ r _ _ => .node l (some x) r) t)
      (fun k _ => Tr.rec (motive := fun _ => Tr α)
        (Bool.rec (motive := fun _ => Tr α) (.node .nil none (ih .nil (Nat.div k 2))) (.node (ih .nil (Nat.div k 2)) none .nil) (Nat.beq (Nat.mod k 2) 0))
        (fun l v r _ _ => Bool.rec (motive := fun _ => Tr α) (.node l v (ih r (Nat.div k 2))) (.node (ih l (Nat.div k 2)) v r) (Nat.beq (Nat.mod k 2) 0)) t) k) f
omit [Rho] in
theorem tsetAt_eq {α : Type} (x : α) : ∀ (f : Nat) (t : Tr α) (k : Nat), tsetAt x f t k = Tr.setAt x f t k
  | 0, t, k => by cases t <;> rfl
  | f + 1, .nil, 0 => rfl
  | f + 1, .node l v r, 0 => rfl
  | f + 1, .nil, k + 1 => by
    show Bool.rec (motive := fun _ => Tr α) (.node .nil none (tsetAt x f .nil (Nat.div k 2))) (.node (tsetAt x f .nil (Nat.div k 2)) none .nil) (Nat.beq (Nat.mod k 2) 0) = bif Nat.beq (Nat.mod k 2) 0 then .node (Tr.setAt x f .nil (Nat.div k 2)) none .nil else .node .nil none (Tr.setAt x f .nil (Nat.div k 2))
    rw [tsetAt_eq x f]
    cases Nat.beq (Nat.mod k 2) 0 <;> rfl
  | f + 1, .node l v r, k + 1 => by
    show Bool.rec (motive := fun _ => Tr α) (.node l v (tsetAt x f r (Nat.div k 2))) (.node (tsetAt x f l (Nat.div k 2)) v r) (Nat.beq (Nat.mod k 2) 0) = bif Nat.beq (Nat.mod k 2) 0 then .node (Tr.setAt x f l (Nat.div k 2)) v r else .node l v (Tr.setAt x f r (Nat.div k 2))
    rw [tsetAt_eq x f, tsetAt_eq x f]
    cases Nat.beq (Nat.mod k 2) 0 <;> rfl
def tset {α : Type} (t : Tr α) (k : Nat) (x : α) : Tr α := tsetAt x (Nat.succ k) t k
omit [Rho] in
theorem tset_eq {α : Type} (t : Tr α) (k : Nat) (x : α) : tset t k x = t.set k x := tsetAt_eq x _ t k

def nth {α : Type} (l : List α) : Nat → Option α :=
  List.rec (motive := fun _ => Nat → Option α) (fun _ => none)
    (fun x _ ih n => Nat.rec (motive := fun _ => Option α) (some x) (fun n _ => ih n) n) l
omit [Rho] in
theorem nth_eq {α : Type} : ∀ (l : List α) (n : Nat), nth l n = AE.nth l n
  | [], n => by cases n <;> rfl
  | x :: l, 0 => rfl
  | x :: l, n + 1 => nth_eq l n

def dropN {α : Type} (n : Nat) : List α → List α :=
  Nat.rec (motive := fun _ => List α → List α) (fun l => l)
    (fun _ ih l => List.rec (motive := fun _ => List α) [] (fun _ xs _ => ih xs) l) n
omit [Rho] in
theorem dropN_eq {α : Type} : ∀ (n : Nat) (l : List α), dropN n l = AE.dropN n l
  | 0, l => by cases l <;> rfl
  | n + 1, [] => rfl
  | n + 1, x :: l => dropN_eq n l

def consO {α : Type} (x : α) (o : Option (List α)) : Option (List α) :=
  Option.rec (motive := fun _ => Option (List α)) none (fun l => some (x :: l)) o

def takeN {α : Type} (n : Nat) : List α → Option (List α) :=
  Nat.rec (motive := fun _ => List α → Option (List α)) (fun _ => some [])
    (fun _ ih l => List.rec (motive := fun _ => Option (List α)) none (fun x xs _ => consO x (ih xs)) l) n
omit [Rho] in
theorem takeN_eq {α : Type} : ∀ (n : Nat) (l : List α), takeN n l = AE.takeN n l
  | 0, l => by cases l <;> rfl
  | n + 1, [] => rfl
  | n + 1, x :: l => by
    show consO x (takeN n l) = match AE.takeN n l with
      | some ys => some (x :: ys)
      | none => none
    rw [takeN_eq n l]
    cases AE.takeN n l <;> rfl

def over {α : Type} (xs : List α) : List α → Option (List α) :=
  List.rec (motive := fun _ => List α → Option (List α)) (fun l => some l)
    (fun x _ ih l => List.rec (motive := fun _ => Option (List α)) none (fun _ l _ => consO x (ih l)) l) xs
omit [Rho] in
theorem over_eq {α : Type} : ∀ (xs l : List α), over xs l = AE.over xs l
  | [], l => by cases l <;> rfl
  | x :: xs, [] => rfl
  | x :: xs, y :: l => by
    show consO x (over xs l) = match AE.over xs l with
      | some r => some (x :: r)
      | none => none
    rw [over_eq xs l]
    cases AE.over xs l <;> rfl

def putN {α : Type} (n : Nat) (xs : List α) : List α → Option (List α) :=
  Nat.rec (motive := fun _ => List α → Option (List α)) (fun l => over xs l)
    (fun _ ih l => List.rec (motive := fun _ => Option (List α)) none (fun y l _ => consO y (ih l)) l) n
omit [Rho] in
theorem putN_eq {α : Type} : ∀ (n : Nat) (xs l : List α), putN n xs l = AE.putN n xs l
  | 0, xs, l => by
    show over xs l = AE.over xs l
    exact over_eq xs l
  | n + 1, xs, [] => rfl
  | n + 1, xs, y :: l => by
    show consO y (putN n xs l) = match AE.putN n xs l with
      | some r => some (y :: r)
      | none => none
    rw [putN_eq n xs l]
    cases AE.putN n xs l <;> rfl

def len {α : Type} (l : List α) : Nat := List.rec (motive := fun _ => Nat) 0 (fun _ _ ih => Nat.succ ih) l
omit [Rho] in
theorem len_eq {α : Type} : ∀ (l : List α), len l = AE.len l
  | [] => rfl
  | x :: l => congrArg Nat.succ (len_eq l)

def app {α : Type} (l r : List α) : List α := List.rec (motive := fun _ => List α) r (fun x _ ih => x :: ih) l
omit [Rho] in
theorem app_eq {α : Type} : ∀ (l r : List α), app l r = l ++ r
  | [], r => rfl
  | x :: l, r => congrArg (x :: ·) (app_eq l r)

/-! ### Frames -/
def find (l : List (Nat × AV)) : Nat → Option AV :=
  List.rec (motive := fun _ => Nat → Option AV) (fun _ => none)
    (fun p _ ih t => Prod.rec (motive := fun _ => Option AV) (fun i v => Bool.rec (motive := fun _ => Option AV) (ih t) (some v) (Nat.beq i t)) p) l
omit [Rho] in
theorem find_eq : ∀ (l : List (Nat × AV)) (t : Nat), find l t = Fr.find l t
  | [], t => rfl
  | (i, v) :: l, t => by
    show Bool.rec (motive := fun _ => Option AV) (find l t) (some v) (Nat.beq i t) = bif Nat.beq i t then some v else Fr.find l t
    rw [find_eq l t]
    cases Nat.beq i t <;> rfl

def get (F : Fr) (t : Nat) : Option AV :=
  Fr.rec (motive := fun _ => Option AV) (fun mask loc var => Bool.rec (motive := fun _ => Option AV) (find loc t) (tget var t) (bit mask t)) F
omit [Rho] in
theorem get_eq (F : Fr) (t : Nat) : get F t = F.get t := by
  cases F with
  | mk mask loc var =>
    show Bool.rec (motive := fun _ => Option AV) (find loc t) (tget var t) (bit mask t) = bif bit mask t then var.get t else Fr.find loc t
    rw [find_eq, tget_eq]
    cases bit mask t <;> rfl

def set (F : Fr) (t : Nat) (v : AV) : Fr :=
  Fr.rec (motive := fun _ => Fr) (fun mask loc var => Bool.rec (motive := fun _ => Fr) ⟨mask, (t, v) :: loc, var⟩ ⟨mask, loc, tset var t v⟩ (bit mask t)) F
omit [Rho] in
theorem set_eq (F : Fr) (t : Nat) (v : AV) : set F t v = F.set t v := by
  cases F with
  | mk mask loc var =>
    show Bool.rec (motive := fun _ => Fr) ⟨mask, (t, v) :: loc, var⟩ ⟨mask, loc, tset var t v⟩ (bit mask t) = bif bit mask t then ⟨mask, loc, var.set t v⟩ else ⟨mask, (t, v) :: loc, var⟩
    rw [tset_eq]
    cases bit mask t <;> rfl

def clear (F : Fr) : Fr := Fr.rec (motive := fun _ => Fr) (fun mask _ var => ⟨mask, [], var⟩) F
omit [Rho] in
theorem clear_eq (F : Fr) : clear F = F.clear := by cases F; rfl

def findU (l : List (Nat × AV)) : Nat → AV :=
  List.rec (motive := fun _ => Nat → AV) (fun _ => .undef)
    (fun p _ ih t => Prod.rec (motive := fun _ => AV) (fun i v => Bool.rec (motive := fun _ => AV) (ih t) v (Nat.beq i t)) p) l
def orU (o : Option AV) : AV := Option.rec (motive := fun _ => AV) .undef (fun v => v) o
omit [Rho] in
theorem findU_eq : ∀ (l : List (Nat × AV)) (t : Nat), findU l t = orU (find l t)
  | [], t => rfl
  | (i, v) :: l, t => by
    show Bool.rec (motive := fun _ => AV) (findU l t) v (Nat.beq i t) = orU (Bool.rec (motive := fun _ => Option AV) (find l t) (some v) (Nat.beq i t))
    rw [findU_eq l t]
    cases Nat.beq i t <;> rfl
def evT (F : Fr) (t : Nat) : AV :=
  Fr.rec (motive := fun _ => AV) (fun mask loc var => Bool.rec (motive := fun _ => AV) (findU loc t) (orU (tget var t)) (bit mask t)) F
omit [Rho] in
theorem evT_eq (F : Fr) (t : Nat) : evT F t = orU (get F t) := by
  cases F with
  | mk mask loc var =>
    show Bool.rec (motive := fun _ => AV) (findU loc t) (orU (tget var t)) (bit mask t) = orU (Bool.rec (motive := fun _ => Option AV) (find loc t) (tget var t) (bit mask t))
    rw [findU_eq]
    cases bit mask t <;> rfl
def ev (F : Fr) (x : Operand) : AV :=
  Operand.rec (motive := fun _ => Fr → AV) (fun t F => evT F t) (fun v _ => ofConst v) (fun _ _ => .undef) (fun f _ => .func f [] []) x F
omit [Rho] in
theorem ev_eq (F : Fr) (x : Operand) : ev F x = AE.ev F x := by
  cases x with
  | tmp t =>
    show evT F t = match F.get t with
      | some v => v
      | none => .undef
    rw [evT_eq, get_eq]
    cases F.get t <;> rfl
  | const v => rfl
  | global g => rfl
  | func f => rfl

def evs (F : Fr) (l : List Operand) : List AV := List.rec (motive := fun _ => List AV) [] (fun x _ ih => ev F x :: ih) l
omit [Rho] in
theorem evs_eq (F : Fr) : ∀ (l : List Operand), evs F l = AE.evs F l
  | [] => rfl
  | x :: l => by
    show ev F x :: evs F l = AE.ev F x :: AE.evs F l
    rw [ev_eq, evs_eq]

/-! ### Whole numbers -/
def kno (k : IntKind) : Nat := IntKind.rec (motive := fun _ => Nat) 0 1 2 3 4 5 6 7 k
def kindEq (a b : IntKind) : Bool := Nat.beq (kno a) (kno b)
omit [Rho] in
theorem kindEq_eq (a b : IntKind) : kindEq a b = AE.kindEq a b := by cases a <;> cases b <;> rfl

def iadd (x : Int) : Int → Int :=
  Int.rec (motive := fun _ => Int → Int)
    (fun a y => Int.rec (motive := fun _ => Nat → Int) (fun b a => .ofNat (Nat.add a b)) (fun b a => AE.iadd (.ofNat a) (.negSucc b)) y a)
    (fun a y => AE.iadd (.negSucc a) y) x
omit [Rho] in
theorem iadd_eq (x y : Int) : iadd x y = AE.iadd x y := by cases x <;> cases y <;> rfl
def isub (x : Int) : Int → Int :=
  Int.rec (motive := fun _ => Int → Int)
    (fun a y => Int.rec (motive := fun _ => Nat → Int) (fun b a => Bool.rec (motive := fun _ => Int) (.negSucc (Nat.sub (Nat.sub b a) 1)) (.ofNat (Nat.sub a b)) (Nat.ble b a)) (fun b a => AE.isub (.ofNat a) (.negSucc b)) y a)
    (fun a y => AE.isub (.negSucc a) y) x
omit [Rho] in
theorem isub_eq (x y : Int) : isub x y = AE.isub x y := by
  cases x <;> cases y
  · rename_i a b
    show Bool.rec (motive := fun _ => Int) (.negSucc (Nat.sub (Nat.sub b a) 1)) (.ofNat (Nat.sub a b)) (Nat.ble b a) = bif Nat.ble b a then Int.ofNat (Nat.sub a b) else .negSucc (Nat.sub (Nat.sub b a) 1)
    cases Nat.ble b a <;> rfl
  all_goals rfl
def ilt (x : Int) : Int → Bool :=
  Int.rec (motive := fun _ => Int → Bool)
    (fun a y => Int.rec (motive := fun _ => Nat → Bool) (fun b a => Nat.blt a b) (fun _ _ => false) y a)
    (fun a y => Int.rec (motive := fun _ => Nat → Bool) (fun _ _ => true) (fun b a => Nat.blt b a) y a) x
omit [Rho] in
theorem ilt_eq (x y : Int) : ilt x y = AE.ilt x y := by cases x <;> cases y <;> rfl
def ieq (x : Int) : Int → Bool :=
  Int.rec (motive := fun _ => Int → Bool)
    (fun a y => Int.rec (motive := fun _ => Nat → Bool) (fun b a => Nat.beq a b) (fun _ _ => false) y a)
    (fun a y => Int.rec (motive := fun _ => Nat → Bool) (fun _ _ => false) (fun b a => Nat.beq a b) y a) x
omit [Rho] in
theorem ieq_eq (x y : Int) : ieq x y = AE.ieq x y := by cases x <;> cases y <;> rfl

def w64 (n : Int) : Int :=
  Int.rec (motive := fun _ => Int)
    (fun m => Bool.rec (motive := fun _ => Int) (IntKind.wrap .i64 (.ofNat m)) (.ofNat m) (Nat.blt m 9223372036854775808))
    (fun m => Bool.rec (motive := fun _ => Int) (IntKind.wrap .i64 (.negSucc m)) (.negSucc m) (Nat.blt m 9223372036854775808)) n
def wrapI (k : IntKind) : Int → Int :=
  IntKind.rec (motive := fun _ => Int → Int) (fun n => AE.wrapI .i8 n) (fun n => AE.wrapI .i16 n) (fun n => AE.wrapI .i32 n) (fun n => w64 n)
    (fun n => AE.wrapI .u8 n) (fun n => AE.wrapI .u16 n) (fun n => AE.wrapI .u32 n) (fun n => AE.wrapI .u64 n) k
omit [Rho] in
theorem w64_eq (n : Int) : w64 n = AE.wrapI .i64 n := by
  cases n with
  | ofNat m => exact ite_eq _ _ _
  | negSucc m => exact ite_eq _ _ _
omit [Rho] in
theorem wrapI_eq (k : IntKind) (n : Int) : wrapI k n = AE.wrapI k n := by
  cases k
  case i64 => exact w64_eq n
  all_goals rfl

/-- forced, and given on -/
def retI (k : IntKind) (n : Int) (A : AW) : OpE :=
  Int.rec (motive := fun _ => OpE)
    (fun m => Bool.rec (motive := fun _ => OpE) (.fail 1) (.val (.int k (.ofNat m)) A) (Nat.ble 0 m))
    (fun m => Bool.rec (motive := fun _ => OpE) (.fail 1) (.val (.int k (.negSucc m)) A) (Nat.ble 0 m)) n
omit [Rho] in
theorem retI_eq (k : IntKind) (n : Int) (A : AW) : retI k n A = liftR (AE.retI k n A) := by
  cases n <;> rename_i m
  · show Bool.rec (motive := fun _ => OpE) (.fail 1) (.val (.int k (.ofNat m)) A) (Nat.ble 0 m) = liftR (bif Nat.ble 0 m then .val (.int k (.ofNat m)) A else .fail 1)
    cases Nat.ble 0 m <;> rfl
  · show Bool.rec (motive := fun _ => OpE) (.fail 1) (.val (.int k (.negSucc m)) A) (Nat.ble 0 m) = liftR (bif Nat.ble 0 m then .val (.int k (.negSucc m)) A else .fail 1)
    cases Nat.ble 0 m <;> rfl
def retB (b : Bool) (A : AW) : OpE := Bool.rec (motive := fun _ => OpE) (.val (.bool false) A) (.val (.bool true) A) b
omit [Rho] in
theorem retB_eq (b : Bool) (A : AW) : retB b A = liftR (AE.retB b A) := by cases b <;> rfl
def not (b : Bool) : Bool := Bool.rec (motive := fun _ => Bool) true false b
omit [Rho] in
theorem not_eq (b : Bool) : not b = !b := by cases b <;> rfl

/-- One kind, by the sign. -/
def opI (op : BinOp) : Env → IntKind → Int → IntKind → Int → AW → OpE :=
  BinOp.rec (motive := fun _ => Env → IntKind → Int → IntKind → Int → AW → OpE)
    (fun E k a k' b A => retI k (wrapI k (iadd a b)) A)
    (fun E k a k' b A => retI k (wrapI k (isub a b)) A)
    (fun E k a k' b A => liftR (intOp E .mul k a k' b A))
    (fun E k a k' b A => liftR (intOp E .quo k a k' b A))
    (fun E k a k' b A => liftR (intOp E .rem k a k' b A))
    (fun E k a k' b A => liftR (intOp E .and k a k' b A))
    (fun E k a k' b A => liftR (intOp E .or k a k' b A))
    (fun E k a k' b A => liftR (intOp E .xor k a k' b A))
    (fun E k a k' b A => liftR (intOp E .shl k a k' b A))
    (fun E k a k' b A => liftR (intOp E .shr k a k' b A))
    (fun E k a k' b A => liftR (intOp E .andNot k a k' b A))
    (fun E k a k' b A => retB (ieq a b) A)
    (fun E k a k' b A => retB (not (ieq a b)) A)
    (fun E k a k' b A => retB (ilt a b) A)
    (fun E k a k' b A => retB (not (ilt b a)) A)
    (fun E k a k' b A => retB (ilt b a) A)
    (fun E k a k' b A => retB (not (ilt a b)) A) op
def intF (E : Env) (op : BinOp) (k : IntKind) (a : Int) (k' : IntKind) (b : Int) (A : AW) : OpE :=
  Bool.rec (motive := fun _ => OpE) (liftR (intOp E op k a k' b A)) (opI op E k a k' b A) (kindEq k k')
omit [Rho] in
theorem intF_eq (E : Env) (op : BinOp) (k : IntKind) (a : Int) (k' : IntKind) (b : Int) (A : AW) : intF E op k a k' b A = liftR (intOp E op k a k' b A) := by
  unfold intF
  rw [kindEq_eq]
  cases h : AE.kindEq k k'
  · rfl
  · show opI op E k a k' b A = _
    cases op
    all_goals first
      | rfl
      | (simp only [opI, intOp, h, cond_true, retI_eq, retB_eq, wrapI_eq, iadd_eq, isub_eq, ieq_eq, ilt_eq, not_eq])

/-! ### Selecting by the kind of a value -/
def bin2 (y : AV) : Env → BinOp → TypeId → IntKind → Int → AW → OpE :=
  AV.rec (motive_1 := fun _ => Env → BinOp → TypeId → IntKind → Int → AW → OpE) (motive_2 := fun _ => PUnit)
    (fun E op t k a A => liftR (binA E op t (.int k a) (AV.undef) A))
    (fun z0 => fun E op t k a A => liftR (binA E op t (.int k a) (AV.bool z0) A))
    (fun k' b => fun E op t k a A => intF E op k a k' b A)
    (fun z0 z1 => fun E op t k a A => liftR (binA E op t (.int k a) (AV.float z0 z1) A))
    (fun z0 z1 z2 => fun E op t k a A => liftR (binA E op t (.int k a) (AV.cplx z0 z1 z2) A))
    (fun z0 => fun E op t k a A => liftR (binA E op t (.int k a) (AV.str z0) A))
    (fun E op t k a A => liftR (binA E op t (.int k a) (AV.nilp) A))
    (fun z0 z1 z2 => fun E op t k a A => liftR (binA E op t (.int k a) (AV.ptr z0 z1 z2) A))
    (fun E op t k a A => liftR (binA E op t (.int k a) (AV.nils) A))
    (fun z0 => fun E op t k a A => liftR (binA E op t (.int k a) (AV.emp z0) A))
    (fun z0 z1 z2 z3 z4 z5 => fun E op t k a A => liftR (binA E op t (.int k a) (AV.slice z0 z1 z2 z3 z4 z5) A))
    (fun E op t k a A => liftR (binA E op t (.int k a) (AV.nilm) A))
    (fun z0 => fun E op t k a A => liftR (binA E op t (.int k a) (AV.map z0) A))
    (fun z0 z1 z2 _ _ => fun E op t k a A => liftR (binA E op t (.int k a) (AV.func z0 z1 z2) A))
    (fun E op t k a A => liftR (binA E op t (.int k a) (AV.nilFunc) A))
    (fun z0 _ => fun E op t k a A => liftR (binA E op t (.int k a) (AV.agg z0) A))
    (fun z0 _ => fun E op t k a A => liftR (binA E op t (.int k a) (AV.tuple z0) A))
    (fun z0 z1 z2 => fun E op t k a A => liftR (binA E op t (.int k a) (AV.rest z0 z1 z2) A))
    (fun z0 z1 z2 => fun E op t k a A => liftR (binA E op t (.int k a) (AV.rng z0 z1 z2) A))
    (fun z0 z1 z2 => fun E op t k a A => liftR (binA E op t (.int k a) (AV.among z0 z1 z2) A))
    (fun z0 z1 z2 z3 => fun E op t k a A => liftR (binA E op t (.int k a) (AV.sym z0 z1 z2 z3) A))
    (fun z0 z1 => fun E op t k a A => liftR (binA E op t (.int k a) (AV.sstr z0 z1) A))
    (fun z0 => fun E op t k a A => liftR (binA E op t (.int k a) (AV.neg z0) A))
    (fun z0 z1 => fun E op t k a A => liftR (binA E op t (.int k a) (AV.bits z0 z1) A))
    (fun z0 z1 => fun E op t k a A => liftR (binA E op t (.int k a) (AV.nbits z0 z1) A))
    (fun z0 z1 z2 => fun E op t k a A => liftR (binA E op t (.int k a) (AV.tm z0 z1 z2) A))
    (fun z0 z1 => fun E op t k a A => liftR (binA E op t (.int k a) (AV.ustr z0 z1) A))
    (fun z0 z1 z2 => fun E op t k a A => liftR (binA E op t (.int k a) (AV.least z0 z1 z2) A))
    PUnit.unit (fun _ _ _ _ => PUnit.unit) y
def nilB {α : Type} (l : List α) : Bool := List.rec (motive := fun _ => Bool) true (fun _ _ _ => false) l
def strEqF (a : List Nat) : List Nat → Bool :=
  List.rec (motive := fun _ => List Nat → Bool) (fun l => nilB l)
    (fun x _ ih l => List.rec (motive := fun _ => Bool) false (fun y ys _ => Bool.rec (motive := fun _ => Bool) false (ih ys) (Nat.beq x y)) l) a
omit [Rho] in
theorem strEqF_eq : ∀ (a b : List Nat), strEqF a b = strEq a b
  | [], b => by cases b <;> rfl
  | x :: a, [] => rfl
  | x :: a, y :: b => by
    show Bool.rec (motive := fun _ => Bool) false (strEqF a b) (Nat.beq x y) = bif Nat.beq x y then strEq a b else false
    rw [strEqF_eq a b]
    exact ite_eq _ _ _
def strF (op : BinOp) : List Nat → List Nat → AW → OpE :=
  BinOp.rec (motive := fun _ => List Nat → List Nat → AW → OpE)
    (fun a b A => liftR (strOp .add a b A)) (fun a b A => liftR (strOp .sub a b A)) (fun a b A => liftR (strOp .mul a b A)) (fun a b A => liftR (strOp .quo a b A)) (fun a b A => liftR (strOp .rem a b A))
    (fun a b A => liftR (strOp .and a b A)) (fun a b A => liftR (strOp .or a b A)) (fun a b A => liftR (strOp .xor a b A)) (fun a b A => liftR (strOp .shl a b A)) (fun a b A => liftR (strOp .shr a b A)) (fun a b A => liftR (strOp .andNot a b A))
    (fun a b A => retB (strEqF a b) A) (fun a b A => retB (not (strEqF a b)) A)
    (fun a b A => liftR (strOp .lss a b A)) (fun a b A => liftR (strOp .leq a b A)) (fun a b A => liftR (strOp .gtr a b A)) (fun a b A => liftR (strOp .geq a b A)) op
omit [Rho] in
theorem strF_eq (op : BinOp) (a b : List Nat) (A : AW) : strF op a b A = liftR (strOp op a b A) := by
  cases op
  case eql => show retB (strEqF a b) A = _; rw [strEqF_eq, retB_eq]; rfl
  case neq => show retB (not (strEqF a b)) A = _; rw [strEqF_eq, retB_eq, not_eq]; rfl
  all_goals rfl
def bin3 (y : AV) : Env → BinOp → TypeId → List Nat → AW → OpE :=
  AV.rec (motive_1 := fun _ => Env → BinOp → TypeId → List Nat → AW → OpE) (motive_2 := fun _ => PUnit)
    (fun E op t a A => liftR (binA E op t (.str a) (AV.undef) A))
    (fun z0 => fun E op t a A => liftR (binA E op t (.str a) (AV.bool z0) A))
    (fun z0 z1 => fun E op t a A => liftR (binA E op t (.str a) (AV.int z0 z1) A))
    (fun z0 z1 => fun E op t a A => liftR (binA E op t (.str a) (AV.float z0 z1) A))
    (fun z0 z1 z2 => fun E op t a A => liftR (binA E op t (.str a) (AV.cplx z0 z1 z2) A))
    (fun b => fun E op t a A => strF op a b A)
    (fun E op t a A => liftR (binA E op t (.str a) (AV.nilp) A))
    (fun z0 z1 z2 => fun E op t a A => liftR (binA E op t (.str a) (AV.ptr z0 z1 z2) A))
    (fun E op t a A => liftR (binA E op t (.str a) (AV.nils) A))
    (fun z0 => fun E op t a A => liftR (binA E op t (.str a) (AV.emp z0) A))
    (fun z0 z1 z2 z3 z4 z5 => fun E op t a A => liftR (binA E op t (.str a) (AV.slice z0 z1 z2 z3 z4 z5) A))
    (fun E op t a A => liftR (binA E op t (.str a) (AV.nilm) A))
    (fun z0 => fun E op t a A => liftR (binA E op t (.str a) (AV.map z0) A))
    (fun z0 z1 z2 _ _ => fun E op t a A => liftR (binA E op t (.str a) (AV.func z0 z1 z2) A))
    (fun E op t a A => liftR (binA E op t (.str a) (AV.nilFunc) A))
    (fun z0 _ => fun E op t a A => liftR (binA E op t (.str a) (AV.agg z0) A))
    (fun z0 _ => fun E op t a A => liftR (binA E op t (.str a) (AV.tuple z0) A))
    (fun z0 z1 z2 => fun E op t a A => liftR (binA E op t (.str a) (AV.rest z0 z1 z2) A))
    (fun z0 z1 z2 => fun E op t a A => liftR (binA E op t (.str a) (AV.rng z0 z1 z2) A))
    (fun z0 z1 z2 => fun E op t a A => liftR (binA E op t (.str a) (AV.among z0 z1 z2) A))
    (fun z0 z1 z2 z3 => fun E op t a A => liftR (binA E op t (.str a) (AV.sym z0 z1 z2 z3) A))
    (fun z0 z1 => fun E op t a A => liftR (binA E op t (.str a) (AV.sstr z0 z1) A))
    (fun z0 => fun E op t a A => liftR (binA E op t (.str a) (AV.neg z0) A))
    (fun z0 z1 => fun E op t a A => liftR (binA E op t (.str a) (AV.bits z0 z1) A))
    (fun z0 z1 => fun E op t a A => liftR (binA E op t (.str a) (AV.nbits z0 z1) A))
    (fun z0 z1 z2 => fun E op t a A => liftR (binA E op t (.str a) (AV.tm z0 z1 z2) A))
    (fun z0 z1 => fun E op t a A => liftR (binA E op t (.str a) (AV.ustr z0 z1) A))
    (fun z0 z1 z2 => fun E op t a A => liftR (binA E op t (.str a) (AV.least z0 z1 z2) A))
    PUnit.unit (fun _ _ _ _ => PUnit.unit) y
omit [Rho] in
theorem bin3_eq (E : Env) (op : BinOp) (t : TypeId) (a : List Nat) (y : AV) (A : AW) : bin3 y E op t a A = liftR (binA E op t (.str a) y A) := by
  cases y
  case str b => exact strF_eq op a b A
  all_goals rfl
def binF (x : AV) : Env → BinOp → TypeId → AV → AW → OpE :=
  AV.rec (motive_1 := fun _ => Env → BinOp → TypeId → AV → AW → OpE) (motive_2 := fun _ => PUnit)
    (fun E op t y A => liftR (binA E op t (AV.undef) y A))
    (fun z0 => fun E op t y A => liftR (binA E op t (AV.bool z0) y A))
    (fun k a => fun E op t y A => bin2 y E op t k a A)
    (fun z0 z1 => fun E op t y A => liftR (binA E op t (AV.float z0 z1) y A))
    (fun z0 z1 z2 => fun E op t y A => liftR (binA E op t (AV.cplx z0 z1 z2) y A))
    (fun z0 => fun E op t y A => bin3 y E op t z0 A)
    (fun E op t y A => liftR (binA E op t (AV.nilp) y A))
    (fun z0 z1 z2 => fun E op t y A => liftR (binA E op t (AV.ptr z0 z1 z2) y A))
    (fun E op t y A => liftR (binA E op t (AV.nils) y A))
    (fun z0 => fun E op t y A => liftR (binA E op t (AV.emp z0) y A))
    (fun z0 z1 z2 z3 z4 z5 => fun E op t y A => liftR (binA E op t (AV.slice z0 z1 z2 z3 z4 z5) y A))
    (fun E op t y A => liftR (binA E op t (AV.nilm) y A))
    (fun z0 => fun E op t y A => liftR (binA E op t (AV.map z0) y A))
    (fun z0 z1 z2 _ _ => fun E op t y A => liftR (binA E op t (AV.func z0 z1 z2) y A))
    (fun E op t y A => liftR (binA E op t (AV.nilFunc) y A))
    (fun z0 _ => fun E op t y A => liftR (binA E op t (AV.agg z0) y A))
    (fun z0 _ => fun E op t y A => liftR (binA E op t (AV.tuple z0) y A))
    (fun z0 z1 z2 => fun E op t y A => liftR (binA E op t (AV.rest z0 z1 z2) y A))
    (fun z0 z1 z2 => fun E op t y A => liftR (binA E op t (AV.rng z0 z1 z2) y A))
    (fun z0 z1 z2 => fun E op t y A => liftR (binA E op t (AV.among z0 z1 z2) y A))
    (fun z0 z1 z2 z3 => fun E op t y A => liftR (binA E op t (AV.sym z0 z1 z2 z3) y A))
    (fun z0 z1 => fun E op t y A => liftR (binA E op t (AV.sstr z0 z1) y A))
    (fun z0 => fun E op t y A => liftR (binA E op t (AV.neg z0) y A))
    (fun z0 z1 => fun E op t y A => liftR (binA E op t (AV.bits z0 z1) y A))
    (fun z0 z1 => fun E op t y A => liftR (binA E op t (AV.nbits z0 z1) y A))
    (fun z0 z1 z2 => fun E op t y A => liftR (binA E op t (AV.tm z0 z1 z2) y A))
    (fun z0 z1 => fun E op t y A => liftR (binA E op t (AV.ustr z0 z1) y A))
    (fun z0 z1 z2 => fun E op t y A => liftR (binA E op t (AV.least z0 z1 z2) y A))
    PUnit.unit (fun _ _ _ _ => PUnit.unit) x
omit [Rho] in
theorem bin2_eq (E : Env) (op : BinOp) (t : TypeId) (k : IntKind) (a : Int) (y : AV) (A : AW) : bin2 y E op t k a A = liftR (binA E op t (.int k a) y A) := by
  cases y
  case int k' b => exact intF_eq E op k a k' b A
  all_goals rfl
omit [Rho] in
theorem binF_eq (E : Env) (op : BinOp) (t : TypeId) (x y : AV) (A : AW) : binF x E op t y A = liftR (binA E op t x y A) := by
  cases x
  case int k a => exact bin2_eq E op t k a y A
  case str a => exact bin3_eq E op t a y A
  all_goals rfl

/-! ### Operations: by the table, or the slow way -/
def celO (x : AV) : Option (List AV) :=
  AV.rec (motive_1 := fun _ => Option (List AV)) (motive_2 := fun _ => PUnit)
    (none)
    (fun z0 => some [(AV.bool z0)])
    (fun z0 z1 => some [(AV.int z0 z1)])
    (fun z0 z1 => some [(AV.float z0 z1)])
    (fun z0 z1 z2 => some [(AV.cplx z0 z1 z2)])
    (fun z0 => some [(AV.str z0)])
    (some [(AV.nilp)])
    (fun z0 z1 z2 => some [(AV.ptr z0 z1 z2)])
    (some [(AV.nils)])
    (fun z0 => some [(AV.emp z0)])
    (fun z0 z1 z2 z3 z4 z5 => some [(AV.slice z0 z1 z2 z3 z4 z5)])
    (some [(AV.nilm)])
    (fun z0 => some [(AV.map z0)])
    (fun z0 z1 z2 _ _ => some [(AV.func z0 z1 z2)])
    (some [(AV.nilFunc)])
    (fun cs _ => some cs)
    (fun cs _ => none)
    (fun z0 z1 z2 => some [(AV.rest z0 z1 z2)])
    (fun z0 z1 z2 => some [(AV.rng z0 z1 z2)])
    (fun z0 z1 z2 => some [(AV.among z0 z1 z2)])
    (fun z0 z1 z2 z3 => some [(AV.sym z0 z1 z2 z3)])
    (fun z0 z1 => some [(AV.sstr z0 z1)])
    (fun z0 => some [(AV.neg z0)])
    (fun z0 z1 => some [(AV.bits z0 z1)])
    (fun z0 z1 => some [(AV.nbits z0 z1)])
    (fun z0 z1 z2 => some [(AV.tm z0 z1 z2)])
    (fun z0 z1 => some [(AV.ustr z0 z1)])
    (fun z0 z1 z2 => some [(AV.least z0 z1 z2)])
    PUnit.unit (fun _ _ _ _ => PUnit.unit) x
omit [Rho] in
theorem celO_eq (x : AV) : celO x = cellsOf x := by cases x <;> rfl

def loadC (A : AW) (s o : Nat) (fam : AFam) : OpE :=
  AFam.rec (motive := fun _ => OpE) (fun cur _ _ cs => Bool.rec (motive := fun _ => OpE) (.fail 12)
    (Option.rec (motive := fun _ => OpE) (.fail 11) (fun v => .val v A) (nth cs o)) (Nat.beq cur s)) (fun _ => .fail 11) fam
def readC (A : AW) (s o n : Nat) (fam : AFam) : OpE :=
  AFam.rec (motive := fun _ => OpE) (fun cur _ _ cs => Bool.rec (motive := fun _ => OpE) (.fail 10)
    (Option.rec (motive := fun _ => OpE) (.fail 10) (fun cs => .val (.agg cs) A) (takeN n (dropN o cs))) (Nat.beq cur s)) (fun _ => .fail 10) fam
def loadP (f s o : Nat) (A : AW) (d : Option ATy) : OpE :=
  Option.rec (motive := fun _ => OpE) (.fail 11) (fun d => Bool.rec (motive := fun _ => OpE)
    (Option.rec (motive := fun _ => OpE) (.fail 11) (fun fam => loadC A s o fam) (tget A.heap f))
    (Option.rec (motive := fun _ => OpE) (.fail 10) (fun fam => readC A s o d.size fam) (tget A.heap f)) d.agg) d
def loadF (x : AV) : Env → TypeId → AW → OpE :=
  AV.rec (motive_1 := fun _ => Env → TypeId → AW → OpE) (motive_2 := fun _ => PUnit)
    (fun _ _ _ => .fail 13)
    (fun z0 => fun _ _ _ => .fail 13)
    (fun z0 z1 => fun _ _ _ => .fail 13)
    (fun z0 z1 => fun _ _ _ => .fail 13)
    (fun z0 z1 z2 => fun _ _ _ => .fail 13)
    (fun z0 => fun _ _ _ => .fail 13)
    (fun _ _ _ => .fail 13)
    (fun f s o => fun E t A => loadP f s o A (tget E.tys t))
    (fun _ _ _ => .fail 13)
    (fun z0 => fun _ _ _ => .fail 13)
    (fun z0 z1 z2 z3 z4 z5 => fun _ _ _ => .fail 13)
    (fun _ _ _ => .fail 13)
    (fun z0 => fun _ _ _ => .fail 13)
    (fun z0 z1 z2 _ _ => fun _ _ _ => .fail 13)
    (fun _ _ _ => .fail 13)
    (fun z0 _ => fun _ _ _ => .fail 13)
    (fun z0 _ => fun _ _ _ => .fail 13)
    (fun z0 z1 z2 => fun _ _ _ => .fail 13)
    (fun z0 z1 z2 => fun _ _ _ => .fail 13)
    (fun z0 z1 z2 => fun _ _ _ => .fail 13)
    (fun z0 z1 z2 z3 => fun _ _ _ => .fail 13)
    (fun z0 z1 => fun _ _ _ => .fail 13)
    (fun z0 => fun _ _ _ => .fail 13)
    (fun z0 z1 => fun _ _ _ => .fail 13)
    (fun z0 z1 => fun _ _ _ => .fail 13)
    (fun z0 z1 z2 => fun _ _ _ => .fail 13)
    (fun z0 z1 => fun _ _ _ => .fail 13)
    (fun z0 z1 z2 => fun _ _ _ => .fail 13)
    PUnit.unit (fun _ _ _ _ => PUnit.unit) x
omit [Rho] in
theorem loadF_eq (E : Env) (t : TypeId) (x : AV) (A : AW) : loadF x E t A = liftR (loadA E t x A) := by
  cases x
  case ptr f s o =>
    show loadP f s o A (tget E.tys t) = liftR (loadA E t (.ptr f s o) A)
    unfold loadA loadP
    simp only [tget_eq]
    cases E.tys.get t with
    | none => rfl
    | some d =>
      simp only [tget_eq, readCells]
      cases d.agg <;> simp only [cond_true, cond_false]
      · cases A.heap.get f with
        | none => rfl
        | some fam =>
          cases fam with
          | map es => rfl
          | cells cur ro es cs =>
            simp only [loadC, nth_eq]
            cases Nat.beq cur s <;> simp only [cond_true, cond_false]
            · rfl
            · cases AE.nth cs o <;> rfl
      · cases A.heap.get f with
        | none => rfl
        | some fam =>
          cases fam with
          | map es => rfl
          | cells cur ro es cs =>
            simp only [readC, dropN_eq, takeN_eq]
            cases Nat.beq cur s <;> simp only [cond_true, cond_false]
            · rfl
            · cases AE.takeN d.size (AE.dropN o cs) <;> rfl
  all_goals rfl

def storeC (A : AW) (f s o : Nat) (xs : List AV) (fam : AFam) : OpE :=
  AFam.rec (motive := fun _ => OpE) (fun cur ro es cs => Bool.rec (motive := fun _ => OpE)
    (Bool.rec (motive := fun _ => OpE) (.fail 15)
      (Option.rec (motive := fun _ => OpE) (.fail 15) (fun cs => .val .undef ⟨tset A.heap f (.cells cur ro es cs), A.nxt⟩) (putN o xs cs)) (Nat.beq cur s))
    (.fail 15) ro) (fun _ => .fail 15) fam
def storeP (f s o : Nat) (A : AW) (d : Option ATy) (xs : Option (List AV)) : OpE :=
  Option.rec (motive := fun _ => OpE) (.fail 17) (fun d => Option.rec (motive := fun _ => OpE) (.fail 17) (fun xs =>
    Bool.rec (motive := fun _ => OpE) (.fail 16) (Bool.rec (motive := fun _ => OpE)
      (Option.rec (motive := fun _ => OpE) (.fail 15) (fun fam => storeC A f s o xs fam) (tget A.heap f))
      (.fail 19) (isNil xs)) (Nat.beq (len xs) d.size)) xs) d
def storeF (a : AV) : AV → Env → TypeId → AW → OpE :=
  AV.rec (motive_1 := fun _ => AV → Env → TypeId → AW → OpE) (motive_2 := fun _ => PUnit)
    (fun _ _ _ _ => .fail 18)
    (fun z0 => fun _ _ _ _ => .fail 18)
    (fun z0 z1 => fun _ _ _ _ => .fail 18)
    (fun z0 z1 => fun _ _ _ _ => .fail 18)
    (fun z0 z1 z2 => fun _ _ _ _ => .fail 18)
    (fun z0 => fun _ _ _ _ => .fail 18)
    (fun _ _ _ _ => .fail 18)
    (fun f s o => fun x E t A => storeP f s o A (tget E.tys t) (celO x))
    (fun _ _ _ _ => .fail 18)
    (fun z0 => fun _ _ _ _ => .fail 18)
    (fun z0 z1 z2 z3 z4 z5 => fun _ _ _ _ => .fail 18)
    (fun _ _ _ _ => .fail 18)
    (fun z0 => fun _ _ _ _ => .fail 18)
    (fun z0 z1 z2 _ _ => fun _ _ _ _ => .fail 18)
    (fun _ _ _ _ => .fail 18)
    (fun z0 _ => fun _ _ _ _ => .fail 18)
    (fun z0 _ => fun _ _ _ _ => .fail 18)
    (fun z0 z1 z2 => fun _ _ _ _ => .fail 18)
    (fun z0 z1 z2 => fun _ _ _ _ => .fail 18)
    (fun z0 z1 z2 => fun _ _ _ _ => .fail 18)
    (fun z0 z1 z2 z3 => fun _ _ _ _ => .fail 18)
    (fun z0 z1 => fun _ _ _ _ => .fail 18)
    (fun z0 => fun _ _ _ _ => .fail 18)
    (fun z0 z1 => fun _ _ _ _ => .fail 18)
    (fun z0 z1 => fun _ _ _ _ => .fail 18)
    (fun z0 z1 z2 => fun _ _ _ _ => .fail 18)
    (fun z0 z1 => fun _ _ _ _ => .fail 18)
    (fun z0 z1 z2 => fun _ _ _ _ => .fail 18)
    PUnit.unit (fun _ _ _ _ => PUnit.unit) a
omit [Rho] in
theorem storeF_eq (E : Env) (t : TypeId) (a x : AV) (A : AW) : storeF a x E t A = liftR (storeA E t a x A) := by
  cases a
  case ptr f s o =>
    show storeP f s o A (tget E.tys t) (celO x) = liftR (storeA E t (.ptr f s o) x A)
    rw [celO_eq]
    unfold storeA storeP
    simp only [tget_eq]
    cases E.tys.get t with
    | none => rfl
    | some d =>
      cases cellsOf x with
      | none => rfl
      | some xs =>
        simp only [tget_eq, len_eq, storeCellsA]
        cases Nat.beq (AE.len xs) d.size <;> simp only [cond_true, cond_false]
        · rfl
        · cases isNil xs <;> simp only [cond_true, cond_false]
          · cases A.heap.get f with
            | none => rfl
            | some fam =>
              cases fam with
              | map es => rfl
              | cells cur ro es cs =>
                simp only [storeC, putN_eq, tset_eq]
                cases ro <;> simp only [cond_true, cond_false]
                · cases Nat.beq cur s <;> simp only [cond_true, cond_false]
                  · rfl
                  · cases AE.putN o xs cs <;> rfl
                · rfl
          · rfl
  all_goals rfl

/-- Where a field lies. -/
def fieldOff (E : Env) (s : TypeId) (i : Nat) : Option Nat :=
  match E.tys.get s with
  | some d => (match d.desc with
    | .struct fields => (match AE.nth fields.toList i with
      | some fl => (match E.tys.get fl.type with
        | some df => bif Nat.ble 1 df.size then some fl.offset else none
        | none => none)
      | none => none)
    | _ => none)
  | none => none
def fieldAddrF (x : AV) : Env → TypeId → Nat → AW → OpE :=
  AV.rec (motive_1 := fun _ => Env → TypeId → Nat → AW → OpE) (motive_2 := fun _ => PUnit)
    (fun E s i A => liftR (fieldAddrA E s (AV.undef) i A))
    (fun z0 => fun E s i A => liftR (fieldAddrA E s (AV.bool z0) i A))
    (fun z0 z1 => fun E s i A => liftR (fieldAddrA E s (AV.int z0 z1) i A))
    (fun z0 z1 => fun E s i A => liftR (fieldAddrA E s (AV.float z0 z1) i A))
    (fun z0 z1 z2 => fun E s i A => liftR (fieldAddrA E s (AV.cplx z0 z1 z2) i A))
    (fun z0 => fun E s i A => liftR (fieldAddrA E s (AV.str z0) i A))
    (fun E s i A => liftR (fieldAddrA E s (AV.nilp) i A))
    (fun f t o => fun E s i A => Option.rec (motive := fun _ => OpE) (liftR (fieldAddrA E s (.ptr f t o) i A)) (fun off => .val (.ptr f t (Nat.add o off)) A) (fieldOff E s i))
    (fun E s i A => liftR (fieldAddrA E s (AV.nils) i A))
    (fun z0 => fun E s i A => liftR (fieldAddrA E s (AV.emp z0) i A))
    (fun z0 z1 z2 z3 z4 z5 => fun E s i A => liftR (fieldAddrA E s (AV.slice z0 z1 z2 z3 z4 z5) i A))
    (fun E s i A => liftR (fieldAddrA E s (AV.nilm) i A))
    (fun z0 => fun E s i A => liftR (fieldAddrA E s (AV.map z0) i A))
    (fun z0 z1 z2 _ _ => fun E s i A => liftR (fieldAddrA E s (AV.func z0 z1 z2) i A))
    (fun E s i A => liftR (fieldAddrA E s (AV.nilFunc) i A))
    (fun z0 _ => fun E s i A => liftR (fieldAddrA E s (AV.agg z0) i A))
    (fun z0 _ => fun E s i A => liftR (fieldAddrA E s (AV.tuple z0) i A))
    (fun z0 z1 z2 => fun E s i A => liftR (fieldAddrA E s (AV.rest z0 z1 z2) i A))
    (fun z0 z1 z2 => fun E s i A => liftR (fieldAddrA E s (AV.rng z0 z1 z2) i A))
    (fun z0 z1 z2 => fun E s i A => liftR (fieldAddrA E s (AV.among z0 z1 z2) i A))
    (fun z0 z1 z2 z3 => fun E s i A => liftR (fieldAddrA E s (AV.sym z0 z1 z2 z3) i A))
    (fun z0 z1 => fun E s i A => liftR (fieldAddrA E s (AV.sstr z0 z1) i A))
    (fun z0 => fun E s i A => liftR (fieldAddrA E s (AV.neg z0) i A))
    (fun z0 z1 => fun E s i A => liftR (fieldAddrA E s (AV.bits z0 z1) i A))
    (fun z0 z1 => fun E s i A => liftR (fieldAddrA E s (AV.nbits z0 z1) i A))
    (fun z0 z1 z2 => fun E s i A => liftR (fieldAddrA E s (AV.tm z0 z1 z2) i A))
    (fun z0 z1 => fun E s i A => liftR (fieldAddrA E s (AV.ustr z0 z1) i A))
    (fun z0 z1 z2 => fun E s i A => liftR (fieldAddrA E s (AV.least z0 z1 z2) i A))
    PUnit.unit (fun _ _ _ _ => PUnit.unit) x
omit [Rho] in
theorem fieldAddrF_eq (E : Env) (s : TypeId) (x : AV) (i : Nat) (A : AW) : fieldAddrF x E s i A = liftR (fieldAddrA E s x i A) := by
  cases x
  case ptr f t o =>
    show Option.rec (motive := fun _ => OpE) (liftR (fieldAddrA E s (.ptr f t o) i A)) (fun off => .val (.ptr f t (Nat.add o off)) A) (fieldOff E s i) = _
    cases h : fieldOff E s i with
    | none => rfl
    | some off =>
      unfold fieldOff at h
      unfold fieldAddrA
      split at h
      · rename_i d hd
        split at h
        · rename_i fields hf
          split at h
          · rename_i fl hfl
            split at h
            · rename_i df hdf
              cases hb : Nat.ble 1 df.size <;> rw [hb] at h <;> simp only [cond_true, cond_false] at h <;> cases h
              simp only [hd, hf, hfl, hdf, hb, cond_true, liftR]
            · cases h
          · cases h
        · cases h
      · cases h
  all_goals rfl

/-- The size of a slice's elements. -/
def elemOf (E : Env) (t : TypeId) : Option Nat :=
  match E.tys.get t with
  | some d => (match d.desc with
    | .slice e => (match E.tys.get e with
      | some de => some de.size
      | none => none)
    | _ => none)
  | none => none
def idxAddr2 (x : AV) : Env → TypeId → IntKind → Nat → AW → OpE :=
  AV.rec (motive_1 := fun _ => Env → TypeId → IntKind → Nat → AW → OpE) (motive_2 := fun _ => PUnit)
    (fun E t k i A => liftR (indexAddrA E t (AV.undef) (.int k (.ofNat i)) A))
    (fun z0 => fun E t k i A => liftR (indexAddrA E t (AV.bool z0) (.int k (.ofNat i)) A))
    (fun z0 z1 => fun E t k i A => liftR (indexAddrA E t (AV.int z0 z1) (.int k (.ofNat i)) A))
    (fun z0 z1 => fun E t k i A => liftR (indexAddrA E t (AV.float z0 z1) (.int k (.ofNat i)) A))
    (fun z0 z1 z2 => fun E t k i A => liftR (indexAddrA E t (AV.cplx z0 z1 z2) (.int k (.ofNat i)) A))
    (fun z0 => fun E t k i A => liftR (indexAddrA E t (AV.str z0) (.int k (.ofNat i)) A))
    (fun E t k i A => liftR (indexAddrA E t (AV.nilp) (.int k (.ofNat i)) A))
    (fun z0 z1 z2 => fun E t k i A => liftR (indexAddrA E t (AV.ptr z0 z1 z2) (.int k (.ofNat i)) A))
    (fun E t k i A => liftR (indexAddrA E t (AV.nils) (.int k (.ofNat i)) A))
    (fun z0 => fun E t k i A => liftR (indexAddrA E t (AV.emp z0) (.int k (.ofNat i)) A))
    (fun f s o n c e => fun E t k i A => Option.rec (motive := fun _ => OpE) (liftR (indexAddrA E t (.slice f s o n c e) (.int k (.ofNat i)) A)) (fun sz => Bool.rec (motive := fun _ => OpE) (.fail 70) (.val (.ptr f s (Nat.add o (Nat.mul i sz))) A) (Nat.blt i n)) (elemOf E t))
    (fun E t k i A => liftR (indexAddrA E t (AV.nilm) (.int k (.ofNat i)) A))
    (fun z0 => fun E t k i A => liftR (indexAddrA E t (AV.map z0) (.int k (.ofNat i)) A))
    (fun z0 z1 z2 _ _ => fun E t k i A => liftR (indexAddrA E t (AV.func z0 z1 z2) (.int k (.ofNat i)) A))
    (fun E t k i A => liftR (indexAddrA E t (AV.nilFunc) (.int k (.ofNat i)) A))
    (fun z0 _ => fun E t k i A => liftR (indexAddrA E t (AV.agg z0) (.int k (.ofNat i)) A))
    (fun z0 _ => fun E t k i A => liftR (indexAddrA E t (AV.tuple z0) (.int k (.ofNat i)) A))
    (fun z0 z1 z2 => fun E t k i A => liftR (indexAddrA E t (AV.rest z0 z1 z2) (.int k (.ofNat i)) A))
    (fun z0 z1 z2 => fun E t k i A => liftR (indexAddrA E t (AV.rng z0 z1 z2) (.int k (.ofNat i)) A))
    (fun z0 z1 z2 => fun E t k i A => liftR (indexAddrA E t (AV.among z0 z1 z2) (.int k (.ofNat i)) A))
    (fun z0 z1 z2 z3 => fun E t k i A => liftR (indexAddrA E t (AV.sym z0 z1 z2 z3) (.int k (.ofNat i)) A))
    (fun z0 z1 => fun E t k i A => liftR (indexAddrA E t (AV.sstr z0 z1) (.int k (.ofNat i)) A))
    (fun z0 => fun E t k i A => liftR (indexAddrA E t (AV.neg z0) (.int k (.ofNat i)) A))
    (fun z0 z1 => fun E t k i A => liftR (indexAddrA E t (AV.bits z0 z1) (.int k (.ofNat i)) A))
    (fun z0 z1 => fun E t k i A => liftR (indexAddrA E t (AV.nbits z0 z1) (.int k (.ofNat i)) A))
    (fun z0 z1 z2 => fun E t k i A => liftR (indexAddrA E t (AV.tm z0 z1 z2) (.int k (.ofNat i)) A))
    (fun z0 z1 => fun E t k i A => liftR (indexAddrA E t (AV.ustr z0 z1) (.int k (.ofNat i)) A))
    (fun z0 z1 z2 => fun E t k i A => liftR (indexAddrA E t (AV.least z0 z1 z2) (.int k (.ofNat i)) A))
    PUnit.unit (fun _ _ _ _ => PUnit.unit) x
def idxAddrF (i : AV) : AV → Env → TypeId → AW → OpE :=
  AV.rec (motive_1 := fun _ => AV → Env → TypeId → AW → OpE) (motive_2 := fun _ => PUnit)
    (fun _ _ _ _ => .fail 75)
    (fun z0 => fun _ _ _ _ => .fail 75)
    (fun k n => fun x E t A => Int.rec (motive := fun _ => OpE) (fun i => idxAddr2 x E t k i A) (fun _ => .fail 75) n)
    (fun z0 z1 => fun _ _ _ _ => .fail 75)
    (fun z0 z1 z2 => fun _ _ _ _ => .fail 75)
    (fun z0 => fun _ _ _ _ => .fail 75)
    (fun _ _ _ _ => .fail 75)
    (fun z0 z1 z2 => fun _ _ _ _ => .fail 75)
    (fun _ _ _ _ => .fail 75)
    (fun z0 => fun _ _ _ _ => .fail 75)
    (fun z0 z1 z2 z3 z4 z5 => fun _ _ _ _ => .fail 75)
    (fun _ _ _ _ => .fail 75)
    (fun z0 => fun _ _ _ _ => .fail 75)
    (fun z0 z1 z2 _ _ => fun _ _ _ _ => .fail 75)
    (fun _ _ _ _ => .fail 75)
    (fun z0 _ => fun _ _ _ _ => .fail 75)
    (fun z0 _ => fun _ _ _ _ => .fail 75)
    (fun z0 z1 z2 => fun _ _ _ _ => .fail 75)
    (fun z0 z1 z2 => fun _ _ _ _ => .fail 75)
    (fun z0 z1 z2 => fun _ _ _ _ => .fail 75)
    (fun z0 z1 z2 z3 => fun _ _ _ _ => .fail 75)
    (fun z0 z1 => fun _ _ _ _ => .fail 75)
    (fun z0 => fun _ _ _ _ => .fail 75)
    (fun z0 z1 => fun _ _ _ _ => .fail 75)
    (fun z0 z1 => fun _ _ _ _ => .fail 75)
    (fun z0 z1 z2 => fun _ _ _ _ => .fail 75)
    (fun z0 z1 => fun _ _ _ _ => .fail 75)
    (fun z0 z1 z2 => fun _ _ _ _ => .fail 75)
    PUnit.unit (fun _ _ _ _ => PUnit.unit) i
omit [Rho] in
theorem idxAddr2_eq (E : Env) (t : TypeId) (x : AV) (k : IntKind) (i : Nat) (A : AW) : idxAddr2 x E t k i A = liftR (indexAddrA E t x (.int k (.ofNat i)) A) := by
  cases x
  case slice f s o n c e =>
    show Option.rec (motive := fun _ => OpE) (liftR (indexAddrA E t (.slice f s o n c e) (.int k (.ofNat i)) A)) _ (elemOf E t) = _
    cases h : elemOf E t with
    | none => rfl
    | some sz =>
      unfold elemOf at h
      unfold indexAddrA
      split at h
      · rename_i d hd
        split at h
        · rename_i e hf
          split at h
          · rename_i de hde
            cases h
            simp only [hd, hf, hde]
            cases Nat.blt i n <;> rfl
          · cases h
        · cases h
      · cases h
  all_goals rfl
omit [Rho] in
theorem idxAddrF_eq (E : Env) (t : TypeId) (x i : AV) (A : AW) : idxAddrF i x E t A = liftR (indexAddrA E t x i A) := by
  cases i
  case int k n =>
    cases n with
    | ofNat n => exact idxAddr2_eq E t x k n A
    | negSucc n => rfl
  all_goals rfl

def isStr (E : Env) (t : TypeId) : Bool :=
  match E.tys.get t with
  | some d => (match d.desc with
    | .string => true
    | _ => false)
  | none => false
def idx2 (x : AV) : Env → TypeId → IntKind → Nat → AW → OpE :=
  AV.rec (motive_1 := fun _ => Env → TypeId → IntKind → Nat → AW → OpE) (motive_2 := fun _ => PUnit)
    (fun E t k i A => liftR (indexA E t (AV.undef) (.int k (.ofNat i)) A))
    (fun z0 => fun E t k i A => liftR (indexA E t (AV.bool z0) (.int k (.ofNat i)) A))
    (fun z0 z1 => fun E t k i A => liftR (indexA E t (AV.int z0 z1) (.int k (.ofNat i)) A))
    (fun z0 z1 => fun E t k i A => liftR (indexA E t (AV.float z0 z1) (.int k (.ofNat i)) A))
    (fun z0 z1 z2 => fun E t k i A => liftR (indexA E t (AV.cplx z0 z1 z2) (.int k (.ofNat i)) A))
    (fun s => fun E t k i A => Bool.rec (motive := fun _ => OpE) (liftR (indexA E t (.str s) (.int k (.ofNat i)) A)) (Option.rec (motive := fun _ => OpE) (.fail 76) (fun b => .val (.int .u8 (.ofNat b)) A) (nth s i)) (isStr E t))
    (fun E t k i A => liftR (indexA E t (AV.nilp) (.int k (.ofNat i)) A))
    (fun z0 z1 z2 => fun E t k i A => liftR (indexA E t (AV.ptr z0 z1 z2) (.int k (.ofNat i)) A))
    (fun E t k i A => liftR (indexA E t (AV.nils) (.int k (.ofNat i)) A))
    (fun z0 => fun E t k i A => liftR (indexA E t (AV.emp z0) (.int k (.ofNat i)) A))
    (fun z0 z1 z2 z3 z4 z5 => fun E t k i A => liftR (indexA E t (AV.slice z0 z1 z2 z3 z4 z5) (.int k (.ofNat i)) A))
    (fun E t k i A => liftR (indexA E t (AV.nilm) (.int k (.ofNat i)) A))
    (fun z0 => fun E t k i A => liftR (indexA E t (AV.map z0) (.int k (.ofNat i)) A))
    (fun z0 z1 z2 _ _ => fun E t k i A => liftR (indexA E t (AV.func z0 z1 z2) (.int k (.ofNat i)) A))
    (fun E t k i A => liftR (indexA E t (AV.nilFunc) (.int k (.ofNat i)) A))
    (fun z0 _ => fun E t k i A => liftR (indexA E t (AV.agg z0) (.int k (.ofNat i)) A))
    (fun z0 _ => fun E t k i A => liftR (indexA E t (AV.tuple z0) (.int k (.ofNat i)) A))
    (fun z0 z1 z2 => fun E t k i A => liftR (indexA E t (AV.rest z0 z1 z2) (.int k (.ofNat i)) A))
    (fun z0 z1 z2 => fun E t k i A => liftR (indexA E t (AV.rng z0 z1 z2) (.int k (.ofNat i)) A))
    (fun z0 z1 z2 => fun E t k i A => liftR (indexA E t (AV.among z0 z1 z2) (.int k (.ofNat i)) A))
    (fun z0 z1 z2 z3 => fun E t k i A => liftR (indexA E t (AV.sym z0 z1 z2 z3) (.int k (.ofNat i)) A))
    (fun z0 z1 => fun E t k i A => liftR (indexA E t (AV.sstr z0 z1) (.int k (.ofNat i)) A))
    (fun z0 => fun E t k i A => liftR (indexA E t (AV.neg z0) (.int k (.ofNat i)) A))
    (fun z0 z1 => fun E t k i A => liftR (indexA E t (AV.bits z0 z1) (.int k (.ofNat i)) A))
    (fun z0 z1 => fun E t k i A => liftR (indexA E t (AV.nbits z0 z1) (.int k (.ofNat i)) A))
    (fun z0 z1 z2 => fun E t k i A => liftR (indexA E t (AV.tm z0 z1 z2) (.int k (.ofNat i)) A))
    (fun z0 z1 => fun E t k i A => liftR (indexA E t (AV.ustr z0 z1) (.int k (.ofNat i)) A))
    (fun z0 z1 z2 => fun E t k i A => liftR (indexA E t (AV.least z0 z1 z2) (.int k (.ofNat i)) A))
    PUnit.unit (fun _ _ _ _ => PUnit.unit) x
def idxF (i : AV) : AV → Env → TypeId → AW → OpE :=
  AV.rec (motive_1 := fun _ => AV → Env → TypeId → AW → OpE) (motive_2 := fun _ => PUnit)
    (fun _ _ _ _ => .fail 81)
    (fun z0 => fun _ _ _ _ => .fail 81)
    (fun k n => fun x E t A => Int.rec (motive := fun _ => OpE) (fun i => idx2 x E t k i A) (fun _ => .fail 81) n)
    (fun z0 z1 => fun _ _ _ _ => .fail 81)
    (fun z0 z1 z2 => fun _ _ _ _ => .fail 81)
    (fun z0 => fun _ _ _ _ => .fail 81)
    (fun _ _ _ _ => .fail 81)
    (fun z0 z1 z2 => fun _ _ _ _ => .fail 81)
    (fun _ _ _ _ => .fail 81)
    (fun z0 => fun _ _ _ _ => .fail 81)
    (fun z0 z1 z2 z3 z4 z5 => fun _ _ _ _ => .fail 81)
    (fun _ _ _ _ => .fail 81)
    (fun z0 => fun _ _ _ _ => .fail 81)
    (fun z0 z1 z2 _ _ => fun _ _ _ _ => .fail 81)
    (fun _ _ _ _ => .fail 81)
    (fun z0 _ => fun _ _ _ _ => .fail 81)
    (fun z0 _ => fun _ _ _ _ => .fail 81)
    (fun z0 z1 z2 => fun _ _ _ _ => .fail 81)
    (fun z0 z1 z2 => fun _ _ _ _ => .fail 81)
    (fun z0 z1 z2 => fun _ _ _ _ => .fail 81)
    (fun z0 z1 z2 z3 => fun _ _ _ _ => .fail 81)
    (fun z0 z1 => fun _ _ _ _ => .fail 81)
    (fun z0 => fun _ _ _ _ => .fail 81)
    (fun z0 z1 => fun _ _ _ _ => .fail 81)
    (fun z0 z1 => fun _ _ _ _ => .fail 81)
    (fun z0 z1 z2 => fun _ _ _ _ => .fail 81)
    (fun z0 z1 => fun _ _ _ _ => .fail 81)
    (fun z0 z1 z2 => fun _ _ _ _ => .fail 81)
    PUnit.unit (fun _ _ _ _ => PUnit.unit) i
omit [Rho] in
theorem idx2_eq (E : Env) (t : TypeId) (x : AV) (k : IntKind) (i : Nat) (A : AW) : idx2 x E t k i A = liftR (indexA E t x (.int k (.ofNat i)) A) := by
  cases x
  case str s =>
    show Bool.rec (motive := fun _ => OpE) (liftR (indexA E t (.str s) (.int k (.ofNat i)) A)) _ (isStr E t) = _
    cases h : isStr E t with
    | false => rfl
    | true =>
      unfold isStr at h
      unfold indexA
      split at h
      · rename_i d hd
        split at h
        · rename_i hf
          simp only [hd, hf, nth_eq]
          cases AE.nth s i <;> rfl
        · cases h
      · cases h
  all_goals rfl
omit [Rho] in
theorem idxF_eq (E : Env) (t : TypeId) (x i : AV) (A : AW) : idxF i x E t A = liftR (indexA E t x i A) := by
  cases i
  case int k n =>
    cases n with
    | ofNat n => exact idx2_eq E t x k n A
    | negSucc n => rfl
  all_goals rfl

def convInt (E : Env) (s d : TypeId) : Option IntKind :=
  match E.tys.get s, E.tys.get d with
  | some _, some dd => (match dd.desc with
    | .int k => some k
    | _ => none)
  | _, _ => none
def convF (x : AV) : Env → TypeId → TypeId → AW → OpE :=
  AV.rec (motive_1 := fun _ => Env → TypeId → TypeId → AW → OpE) (motive_2 := fun _ => PUnit)
    (fun E s d A => liftR (convertA E s d (AV.undef) A))
    (fun z0 => fun E s d A => liftR (convertA E s d (AV.bool z0) A))
    (fun k0 n => fun E s d A => Option.rec (motive := fun _ => OpE) (liftR (convertA E s d (.int k0 n) A)) (fun k => retI k (wrapI k n) A) (convInt E s d))
    (fun z0 z1 => fun E s d A => liftR (convertA E s d (AV.float z0 z1) A))
    (fun z0 z1 z2 => fun E s d A => liftR (convertA E s d (AV.cplx z0 z1 z2) A))
    (fun z0 => fun E s d A => liftR (convertA E s d (AV.str z0) A))
    (fun E s d A => liftR (convertA E s d (AV.nilp) A))
    (fun z0 z1 z2 => fun E s d A => liftR (convertA E s d (AV.ptr z0 z1 z2) A))
    (fun E s d A => liftR (convertA E s d (AV.nils) A))
    (fun z0 => fun E s d A => liftR (convertA E s d (AV.emp z0) A))
    (fun z0 z1 z2 z3 z4 z5 => fun E s d A => liftR (convertA E s d (AV.slice z0 z1 z2 z3 z4 z5) A))
    (fun E s d A => liftR (convertA E s d (AV.nilm) A))
    (fun z0 => fun E s d A => liftR (convertA E s d (AV.map z0) A))
    (fun z0 z1 z2 _ _ => fun E s d A => liftR (convertA E s d (AV.func z0 z1 z2) A))
    (fun E s d A => liftR (convertA E s d (AV.nilFunc) A))
    (fun z0 _ => fun E s d A => liftR (convertA E s d (AV.agg z0) A))
    (fun z0 _ => fun E s d A => liftR (convertA E s d (AV.tuple z0) A))
    (fun z0 z1 z2 => fun E s d A => liftR (convertA E s d (AV.rest z0 z1 z2) A))
    (fun z0 z1 z2 => fun E s d A => liftR (convertA E s d (AV.rng z0 z1 z2) A))
    (fun z0 z1 z2 => fun E s d A => liftR (convertA E s d (AV.among z0 z1 z2) A))
    (fun z0 z1 z2 z3 => fun E s d A => liftR (convertA E s d (AV.sym z0 z1 z2 z3) A))
    (fun z0 z1 => fun E s d A => liftR (convertA E s d (AV.sstr z0 z1) A))
    (fun z0 => fun E s d A => liftR (convertA E s d (AV.neg z0) A))
    (fun z0 z1 => fun E s d A => liftR (convertA E s d (AV.bits z0 z1) A))
    (fun z0 z1 => fun E s d A => liftR (convertA E s d (AV.nbits z0 z1) A))
    (fun z0 z1 z2 => fun E s d A => liftR (convertA E s d (AV.tm z0 z1 z2) A))
    (fun z0 z1 => fun E s d A => liftR (convertA E s d (AV.ustr z0 z1) A))
    (fun z0 z1 z2 => fun E s d A => liftR (convertA E s d (AV.least z0 z1 z2) A))
    PUnit.unit (fun _ _ _ _ => PUnit.unit) x
omit [Rho] in
theorem convF_eq (E : Env) (s d : TypeId) (x : AV) (A : AW) : convF x E s d A = liftR (convertA E s d x A) := by
  cases x
  case int k0 n =>
    show Option.rec (motive := fun _ => OpE) (liftR (convertA E s d (.int k0 n) A)) (fun k => retI k (wrapI k n) A) (convInt E s d) = _
    cases h : convInt E s d with
    | none => rfl
    | some k =>
      unfold convInt at h
      unfold convertA
      split at h
      · rename_i ds dd h1 h2
        split at h
        · rename_i k' hk
          cases h
          simp only [h1, h2, hk, retI_eq, wrapI_eq]
        · cases h
      · cases h
  all_goals rfl

def exF (x : AV) : Nat → AW → OpE :=
  AV.rec (motive_1 := fun _ => Nat → AW → OpE) (motive_2 := fun _ => PUnit)
    (fun _ _ => .fail 145)
    (fun z0 => fun _ _ => .fail 145)
    (fun z0 z1 => fun _ _ => .fail 145)
    (fun z0 z1 => fun _ _ => .fail 145)
    (fun z0 z1 z2 => fun _ _ => .fail 145)
    (fun z0 => fun _ _ => .fail 145)
    (fun _ _ => .fail 145)
    (fun z0 z1 z2 => fun _ _ => .fail 145)
    (fun _ _ => .fail 145)
    (fun z0 => fun _ _ => .fail 145)
    (fun z0 z1 z2 z3 z4 z5 => fun _ _ => .fail 145)
    (fun _ _ => .fail 145)
    (fun z0 => fun _ _ => .fail 145)
    (fun z0 z1 z2 _ _ => fun _ _ => .fail 145)
    (fun _ _ => .fail 145)
    (fun z0 _ => fun _ _ => .fail 145)
    (fun vs _ => fun i A => Option.rec (motive := fun _ => OpE) (.fail 144) (fun v => .val v A) (nth vs i))
    (fun z0 z1 z2 => fun _ _ => .fail 145)
    (fun z0 z1 z2 => fun _ _ => .fail 145)
    (fun z0 z1 z2 => fun _ _ => .fail 145)
    (fun z0 z1 z2 z3 => fun _ _ => .fail 145)
    (fun z0 z1 => fun _ _ => .fail 145)
    (fun z0 => fun _ _ => .fail 145)
    (fun z0 z1 => fun _ _ => .fail 145)
    (fun z0 z1 => fun _ _ => .fail 145)
    (fun z0 z1 z2 => fun _ _ => .fail 145)
    (fun z0 z1 => fun _ _ => .fail 145)
    (fun z0 z1 z2 => fun _ _ => .fail 145)
    PUnit.unit (fun _ _ _ _ => PUnit.unit) x
def pickF (x : AV) : Operand → Operand → Fr → AW → OpE :=
  AV.rec (motive_1 := fun _ => Operand → Operand → Fr → AW → OpE) (motive_2 := fun _ => PUnit)
    (fun _ _ _ _ => .fail 140)
    (fun c => fun a b F A => Bool.rec (motive := fun _ => OpE) (.val (ev F b) A) (.val (ev F a) A) c)
    (fun z0 z1 => fun _ _ _ _ => .fail 140)
    (fun z0 z1 => fun _ _ _ _ => .fail 140)
    (fun z0 z1 z2 => fun _ _ _ _ => .fail 140)
    (fun z0 => fun _ _ _ _ => .fail 140)
    (fun _ _ _ _ => .fail 140)
    (fun z0 z1 z2 => fun _ _ _ _ => .fail 140)
    (fun _ _ _ _ => .fail 140)
    (fun z0 => fun _ _ _ _ => .fail 140)
    (fun z0 z1 z2 z3 z4 z5 => fun _ _ _ _ => .fail 140)
    (fun _ _ _ _ => .fail 140)
    (fun z0 => fun _ _ _ _ => .fail 140)
    (fun z0 z1 z2 _ _ => fun _ _ _ _ => .fail 140)
    (fun _ _ _ _ => .fail 140)
    (fun z0 _ => fun _ _ _ _ => .fail 140)
    (fun z0 _ => fun _ _ _ _ => .fail 140)
    (fun z0 z1 z2 => fun _ _ _ _ => .fail 140)
    (fun z0 z1 z2 => fun _ _ _ _ => .fail 140)
    (fun z0 z1 z2 => fun _ _ _ _ => .fail 140)
    (fun z0 z1 z2 z3 => fun _ _ _ _ => .fail 140)
    (fun z0 z1 => fun _ _ _ _ => .fail 140)
    (fun z0 => fun _ _ _ _ => .fail 140)
    (fun z0 z1 => fun _ _ _ _ => .fail 140)
    (fun z0 z1 => fun _ _ _ _ => .fail 140)
    (fun z0 z1 z2 => fun _ _ _ _ => .fail 140)
    (fun z0 z1 => fun _ _ _ _ => .fail 140)
    (fun z0 z1 z2 => fun _ _ _ _ => .fail 140)
    PUnit.unit (fun _ _ _ _ => PUnit.unit) x
def nilF (x : AV) : AW → OpE :=
  AV.rec (motive_1 := fun _ => AW → OpE) (motive_2 := fun _ => PUnit)
    (fun _ => .fail 143)
    (fun z0 => fun _ => .fail 143)
    (fun z0 z1 => fun _ => .fail 143)
    (fun z0 z1 => fun _ => .fail 143)
    (fun z0 z1 z2 => fun _ => .fail 143)
    (fun z0 => fun _ => .fail 143)
    (fun _ => .fail 143)
    (fun f s o => fun A => .val (.ptr f s o) A)
    (fun _ => .fail 143)
    (fun z0 => fun _ => .fail 143)
    (fun z0 z1 z2 z3 z4 z5 => fun _ => .fail 143)
    (fun _ => .fail 143)
    (fun z0 => fun _ => .fail 143)
    (fun f a b _ _ => fun A => .val (.func f a b) A)
    (fun _ => .fail 143)
    (fun z0 _ => fun _ => .fail 143)
    (fun z0 _ => fun _ => .fail 143)
    (fun z0 z1 z2 => fun _ => .fail 143)
    (fun z0 z1 z2 => fun _ => .fail 143)
    (fun z0 z1 z2 => fun _ => .fail 143)
    (fun z0 z1 z2 z3 => fun _ => .fail 143)
    (fun z0 z1 => fun _ => .fail 143)
    (fun z0 => fun _ => .fail 143)
    (fun z0 z1 => fun _ => .fail 143)
    (fun z0 z1 => fun _ => .fail 143)
    (fun z0 z1 z2 => fun _ => .fail 143)
    (fun z0 z1 => fun _ => .fail 143)
    (fun z0 z1 z2 => fun _ => .fail 143)
    PUnit.unit (fun _ _ _ _ => PUnit.unit) x
def unF (x : AV) : Env → UnOp → AW → OpE :=
  AV.rec (motive_1 := fun _ => Env → UnOp → AW → OpE) (motive_2 := fun _ => PUnit)
    (fun E op A => liftR (unA E op (AV.undef) A))
    (fun b => fun E op A => UnOp.rec (motive := fun _ => OpE) (liftR (unA E .neg (.bool b) A)) (liftR (unA E .xor (.bool b) A)) (retB (not b) A) (liftR (unA E .plus (.bool b) A)) op)
    (fun z0 z1 => fun E op A => liftR (unA E op (AV.int z0 z1) A))
    (fun z0 z1 => fun E op A => liftR (unA E op (AV.float z0 z1) A))
    (fun z0 z1 z2 => fun E op A => liftR (unA E op (AV.cplx z0 z1 z2) A))
    (fun z0 => fun E op A => liftR (unA E op (AV.str z0) A))
    (fun E op A => liftR (unA E op (AV.nilp) A))
    (fun z0 z1 z2 => fun E op A => liftR (unA E op (AV.ptr z0 z1 z2) A))
    (fun E op A => liftR (unA E op (AV.nils) A))
    (fun z0 => fun E op A => liftR (unA E op (AV.emp z0) A))
    (fun z0 z1 z2 z3 z4 z5 => fun E op A => liftR (unA E op (AV.slice z0 z1 z2 z3 z4 z5) A))
    (fun E op A => liftR (unA E op (AV.nilm) A))
    (fun z0 => fun E op A => liftR (unA E op (AV.map z0) A))
    (fun z0 z1 z2 _ _ => fun E op A => liftR (unA E op (AV.func z0 z1 z2) A))
    (fun E op A => liftR (unA E op (AV.nilFunc) A))
    (fun z0 _ => fun E op A => liftR (unA E op (AV.agg z0) A))
    (fun z0 _ => fun E op A => liftR (unA E op (AV.tuple z0) A))
    (fun z0 z1 z2 => fun E op A => liftR (unA E op (AV.rest z0 z1 z2) A))
    (fun z0 z1 z2 => fun E op A => liftR (unA E op (AV.rng z0 z1 z2) A))
    (fun z0 z1 z2 => fun E op A => liftR (unA E op (AV.among z0 z1 z2) A))
    (fun z0 z1 z2 z3 => fun E op A => liftR (unA E op (AV.sym z0 z1 z2 z3) A))
    (fun z0 z1 => fun E op A => liftR (unA E op (AV.sstr z0 z1) A))
    (fun z0 => fun E op A => liftR (unA E op (AV.neg z0) A))
    (fun z0 z1 => fun E op A => liftR (unA E op (AV.bits z0 z1) A))
    (fun z0 z1 => fun E op A => liftR (unA E op (AV.nbits z0 z1) A))
    (fun z0 z1 z2 => fun E op A => liftR (unA E op (AV.tm z0 z1 z2) A))
    (fun z0 z1 => fun E op A => liftR (unA E op (AV.ustr z0 z1) A))
    (fun z0 z1 z2 => fun E op A => liftR (unA E op (AV.least z0 z1 z2) A))
    PUnit.unit (fun _ _ _ _ => PUnit.unit) x

/-! ### Calls -/
def hasB (E : Env) (f : FuncId) : Bool :=
  match E.fns.get f with
  | some e => (match e.fn.body with
    | some _ => true
    | none => false)
  | none => false
def enterF (E : Env) (f : FuncId) (args : List AV) (A : AW) : OpE :=
  Option.rec (motive := fun _ => OpE)
    (Bool.rec (motive := fun _ => OpE) (enterA E f args A) (.enter f args) (hasB E f))
    (fun p => Prod.rec (motive := fun _ => OpE) (fun v l => .val (shift2 A.nxt v) (addFams A.nxt l A)) p) (E.orc f args)
omit [Rho] in
theorem enterF_eq (E : Env) (f : FuncId) (args : List AV) (A : AW) : enterF E f args A = enterA E f args A := by
  unfold enterF
  cases h : E.orc f args with
  | some p => simp only [enterA, h]
  | none =>
    show Bool.rec (motive := fun _ => OpE) (enterA E f args A) (.enter f args) (hasB E f) = _
    cases hb : hasB E f with
    | false => rfl
    | true =>
      unfold hasB at hb
      simp only [enterA, h]
      split at hb
      · rename_i e he
        split at hb
        · rename_i c hc
          simp only [he, hc]
        · cases hb
      · cases hb

def valF (x : AV) : Env → List AV → AW → OpE :=
  AV.rec (motive_1 := fun _ => Env → List AV → AW → OpE) (motive_2 := fun _ => PUnit)
    (fun _ _ _ => .fail 130)
    (fun z0 => fun _ _ _ => .fail 130)
    (fun z0 z1 => fun _ _ _ => .fail 130)
    (fun z0 z1 => fun _ _ _ => .fail 130)
    (fun z0 z1 z2 => fun _ _ _ => .fail 130)
    (fun z0 => fun _ _ _ => .fail 130)
    (fun _ _ _ => .fail 130)
    (fun z0 z1 z2 => fun _ _ _ => .fail 130)
    (fun _ _ _ => .fail 130)
    (fun z0 => fun _ _ _ => .fail 130)
    (fun z0 z1 z2 z3 z4 z5 => fun _ _ _ => .fail 130)
    (fun _ _ _ => .fail 130)
    (fun z0 => fun _ _ _ => .fail 130)
    (fun f first captured _ _ => fun E args A => enterF E f (app first (app args captured)) A)
    (fun _ _ _ => .fail 130)
    (fun z0 _ => fun _ _ _ => .fail 130)
    (fun z0 _ => fun _ _ _ => .fail 130)
    (fun z0 z1 z2 => fun _ _ _ => .fail 130)
    (fun z0 z1 z2 => fun _ _ _ => .fail 130)
    (fun z0 z1 z2 => fun _ _ _ => .fail 130)
    (fun z0 z1 z2 z3 => fun _ _ _ => .fail 130)
    (fun z0 z1 => fun _ _ _ => .fail 130)
    (fun z0 => fun _ _ _ => .fail 130)
    (fun z0 z1 => fun _ _ _ => .fail 130)
    (fun z0 z1 => fun _ _ _ => .fail 130)
    (fun z0 z1 z2 => fun _ _ _ => .fail 130)
    (fun z0 z1 => fun _ _ _ => .fail 130)
    (fun z0 z1 z2 => fun _ _ _ => .fail 130)
    PUnit.unit (fun _ _ _ _ => PUnit.unit) x

/-- The first of a row. -/
def lenKind (E : Env) (t : TypeId) : Nat :=
  match E.tys.get t with
  | some d => (match d.desc with
    | .string => 1
    | .slice _ => 2
    | _ => 0)
  | none => 0
def lenF (x : AV) : Env → TypeId → AW → OpE :=
  AV.rec (motive_1 := fun _ => Env → TypeId → AW → OpE) (motive_2 := fun _ => PUnit)
    (fun E t A => liftR (lenA E t (AV.undef) A))
    (fun z0 => fun E t A => liftR (lenA E t (AV.bool z0) A))
    (fun z0 z1 => fun E t A => liftR (lenA E t (AV.int z0 z1) A))
    (fun z0 z1 => fun E t A => liftR (lenA E t (AV.float z0 z1) A))
    (fun z0 z1 z2 => fun E t A => liftR (lenA E t (AV.cplx z0 z1 z2) A))
    (fun s => fun E t A => Bool.rec (motive := fun _ => OpE) (liftR (lenA E t (.str s) A)) (.val (.int .i64 (.ofNat (len s))) A) (Nat.beq (lenKind E t) 1))
    (fun E t A => liftR (lenA E t (AV.nilp) A))
    (fun z0 z1 z2 => fun E t A => liftR (lenA E t (AV.ptr z0 z1 z2) A))
    (fun E t A => liftR (lenA E t (AV.nils) A))
    (fun z0 => fun E t A => liftR (lenA E t (AV.emp z0) A))
    (fun f s o n c e => fun E t A => Bool.rec (motive := fun _ => OpE) (liftR (lenA E t (.slice f s o n c e) A)) (.val (.int .i64 (.ofNat n)) A) (Nat.beq (lenKind E t) 2))
    (fun E t A => liftR (lenA E t (AV.nilm) A))
    (fun z0 => fun E t A => liftR (lenA E t (AV.map z0) A))
    (fun z0 z1 z2 _ _ => fun E t A => liftR (lenA E t (AV.func z0 z1 z2) A))
    (fun E t A => liftR (lenA E t (AV.nilFunc) A))
    (fun z0 _ => fun E t A => liftR (lenA E t (AV.agg z0) A))
    (fun z0 _ => fun E t A => liftR (lenA E t (AV.tuple z0) A))
    (fun z0 z1 z2 => fun E t A => liftR (lenA E t (AV.rest z0 z1 z2) A))
    (fun z0 z1 z2 => fun E t A => liftR (lenA E t (AV.rng z0 z1 z2) A))
    (fun z0 z1 z2 => fun E t A => liftR (lenA E t (AV.among z0 z1 z2) A))
    (fun z0 z1 z2 z3 => fun E t A => liftR (lenA E t (AV.sym z0 z1 z2 z3) A))
    (fun z0 z1 => fun E t A => liftR (lenA E t (AV.sstr z0 z1) A))
    (fun z0 => fun E t A => liftR (lenA E t (AV.neg z0) A))
    (fun z0 z1 => fun E t A => liftR (lenA E t (AV.bits z0 z1) A))
    (fun z0 z1 => fun E t A => liftR (lenA E t (AV.nbits z0 z1) A))
    (fun z0 z1 z2 => fun E t A => liftR (lenA E t (AV.tm z0 z1 z2) A))
    (fun z0 z1 => fun E t A => liftR (lenA E t (AV.ustr z0 z1) A))
    (fun z0 z1 z2 => fun E t A => liftR (lenA E t (AV.least z0 z1 z2) A))
    PUnit.unit (fun _ _ _ _ => PUnit.unit) x
omit [Rho] in
theorem lenKind_1 {E : Env} {t : TypeId} (h : Nat.beq (lenKind E t) 1 = true) : ∃ d, E.tys.get t = some d ∧ d.desc = .string := by
  unfold lenKind at h
  split at h
  · rename_i d hd
    split at h
    · rename_i hs; exact ⟨d, hd, hs⟩
    · cases h
    · cases h
  · cases h
omit [Rho] in
theorem lenKind_2 {E : Env} {t : TypeId} (h : Nat.beq (lenKind E t) 2 = true) : ∃ d e, E.tys.get t = some d ∧ d.desc = .slice e := by
  unfold lenKind at h
  split at h
  · rename_i d hd
    split at h
    · cases h
    · rename_i e hs; exact ⟨d, e, hd, hs⟩
    · cases h
  · cases h
omit [Rho] in
theorem lenF_eq (E : Env) (t : TypeId) (x : AV) (A : AW) : lenF x E t A = liftR (lenA E t x A) := by
  cases x
  case str s =>
    show Bool.rec (motive := fun _ => OpE) (liftR (lenA E t (.str s) A)) (.val (.int .i64 (.ofNat (len s))) A) (Nat.beq (lenKind E t) 1) = _
    cases h : Nat.beq (lenKind E t) 1 with
    | false => rfl
    | true =>
      obtain ⟨d, hd, hs⟩ := lenKind_1 h
      simp only [lenA, hd, hs, len_eq, liftR]
  case slice f s o n c e =>
    show Bool.rec (motive := fun _ => OpE) (liftR (lenA E t (.slice f s o n c e) A)) (.val (.int .i64 (.ofNat n)) A) (Nat.beq (lenKind E t) 2) = _
    cases h : Nat.beq (lenKind E t) 2 with
    | false => rfl
    | true =>
      obtain ⟨d, e', hd, hs⟩ := lenKind_2 h
      simp only [lenA, hd, hs, liftR]
  all_goals rfl

/-- 'len' of the first argument; else the slow way. -/
def len1 (args : List AV) : Env → List TypeId → AW → OpE :=
  List.rec (motive := fun _ => Env → List TypeId → AW → OpE) (fun _ _ _ => .fail 120)
    (fun x l _ E ts A => List.rec (motive := fun _ => OpE) (.fail 120) (fun t _ _ => lenF x E t A) ts) args
omit [Rho] in
theorem len1_eq (E : Env) (ts : List TypeId) (args : List AV) (A : AW) : len1 args E ts A = liftR (builtinA E .len ts args A) := by
  cases args with
  | nil => cases ts <;> rfl
  | cons x l =>
    cases ts with
    | nil => rfl
    | cons t ts => exact lenF_eq E t x A

/-! ### Memory that is made; values that are put together -/
def allocZ (E : Env) (t : TypeId) : Option (Nat × List AV) :=
  match E.tys.get t with
  | some d => (match d.zero with
    | some z => some (esOf E d, z)
    | none => none)
  | none => none
def allocF (t : TypeId) (E : Env) (A : AW) : OpE :=
  Option.rec (motive := fun _ => OpE) (.fail 141) (fun p => Prod.rec (motive := fun _ => OpE) (fun es z => .val (.ptr A.nxt 0 0) ⟨tset A.heap A.nxt (.cells 0 false es z), Nat.succ A.nxt⟩) p) (allocZ E t)
omit [Rho] in
theorem allocF_eq (t : TypeId) (E : Env) (A : AW) : allocF t E A = liftR (match E.tys.get t with
    | some d => (match d.zero with
      | some z => .val (.ptr A.nxt 0 0) (newFam A (esOf E d) z)
      | none => .fail 141)
    | none => .fail 141) := by
  unfold allocF allocZ
  cases E.tys.get t with
  | none => rfl
  | some d =>
    simp only []
    cases d.zero with
    | none => rfl
    | some z =>
      simp only [tset_eq]
      rfl
def boxF (x : Option (List AV)) (t : TypeId) (E : Env) (A : AW) : OpE :=
  Option.rec (motive := fun _ => OpE) (.fail 142) (fun d => Option.rec (motive := fun _ => OpE) (.fail 142) (fun cs => .val (.ptr A.nxt 0 0) ⟨tset A.heap A.nxt (.cells 0 false (esOf E d) cs), Nat.succ A.nxt⟩) x) (tget E.tys t)
omit [Rho] in
theorem boxF_eq (x : AV) (t : TypeId) (E : Env) (A : AW) : boxF (cellsOf x) t E A = liftR (match E.tys.get t, cellsOf x with
    | some d, some cs => .val (.ptr A.nxt 0 0) (newFam A (esOf E d) cs)
    | _, _ => .fail 142) := by
  unfold boxF
  simp only [tget_eq]
  cases E.tys.get t with
  | none => rfl
  | some d =>
    simp only []
    cases cellsOf x with
    | none => rfl
    | some cs =>
      simp only [tset_eq]
      rfl

def fieldInf (E : Env) (t : TypeId) (i : Nat) : Option (Bool × Nat × Nat) :=
  match E.tys.get t with
  | some d => (match d.desc with
    | .struct fields => (match AE.nth fields.toList i with
      | some fl => (match E.tys.get fl.type with
        | some df => some (df.agg, fl.offset, df.size)
        | none => none)
      | none => none)
    | _ => none)
  | none => none
def partF (agg : Bool) (off size : Nat) (cs : List AV) (A : AW) : OpE :=
  Bool.rec (motive := fun _ => OpE) (Option.rec (motive := fun _ => OpE) (.fail 65) (fun v => .val v A) (nth cs off))
    (Option.rec (motive := fun _ => OpE) (.fail 64) (fun r => .val (.agg r) A) (takeN size (dropN off cs))) agg
def fieldF (x : AV) : Env → TypeId → Nat → AW → OpE :=
  AV.rec (motive_1 := fun _ => Env → TypeId → Nat → AW → OpE) (motive_2 := fun _ => PUnit)
    (fun E t i A => liftR (fieldA E t (AV.undef) i A))
    (fun z0 => fun E t i A => liftR (fieldA E t (AV.bool z0) i A))
    (fun z0 z1 => fun E t i A => liftR (fieldA E t (AV.int z0 z1) i A))
    (fun z0 z1 => fun E t i A => liftR (fieldA E t (AV.float z0 z1) i A))
    (fun z0 z1 z2 => fun E t i A => liftR (fieldA E t (AV.cplx z0 z1 z2) i A))
    (fun z0 => fun E t i A => liftR (fieldA E t (AV.str z0) i A))
    (fun E t i A => liftR (fieldA E t (AV.nilp) i A))
    (fun z0 z1 z2 => fun E t i A => liftR (fieldA E t (AV.ptr z0 z1 z2) i A))
    (fun E t i A => liftR (fieldA E t (AV.nils) i A))
    (fun z0 => fun E t i A => liftR (fieldA E t (AV.emp z0) i A))
    (fun z0 z1 z2 z3 z4 z5 => fun E t i A => liftR (fieldA E t (AV.slice z0 z1 z2 z3 z4 z5) i A))
    (fun E t i A => liftR (fieldA E t (AV.nilm) i A))
    (fun z0 => fun E t i A => liftR (fieldA E t (AV.map z0) i A))
    (fun z0 z1 z2 _ _ => fun E t i A => liftR (fieldA E t (AV.func z0 z1 z2) i A))
    (fun E t i A => liftR (fieldA E t (AV.nilFunc) i A))
    (fun cs _ => fun E t i A => Option.rec (motive := fun _ => OpE) (liftR (fieldA E t (.agg cs) i A)) (fun p => Prod.rec (motive := fun _ => OpE) (fun agg q => Prod.rec (motive := fun _ => OpE) (fun off size => partF agg off size cs A) q) p) (fieldInf E t i))
    (fun z0 _ => fun E t i A => liftR (fieldA E t (AV.tuple z0) i A))
    (fun z0 z1 z2 => fun E t i A => liftR (fieldA E t (AV.rest z0 z1 z2) i A))
    (fun z0 z1 z2 => fun E t i A => liftR (fieldA E t (AV.rng z0 z1 z2) i A))
    (fun z0 z1 z2 => fun E t i A => liftR (fieldA E t (AV.among z0 z1 z2) i A))
    (fun z0 z1 z2 z3 => fun E t i A => liftR (fieldA E t (AV.sym z0 z1 z2 z3) i A))
    (fun z0 z1 => fun E t i A => liftR (fieldA E t (AV.sstr z0 z1) i A))
    (fun z0 => fun E t i A => liftR (fieldA E t (AV.neg z0) i A))
    (fun z0 z1 => fun E t i A => liftR (fieldA E t (AV.bits z0 z1) i A))
    (fun z0 z1 => fun E t i A => liftR (fieldA E t (AV.nbits z0 z1) i A))
    (fun z0 z1 z2 => fun E t i A => liftR (fieldA E t (AV.tm z0 z1 z2) i A))
    (fun z0 z1 => fun E t i A => liftR (fieldA E t (AV.ustr z0 z1) i A))
    (fun z0 z1 z2 => fun E t i A => liftR (fieldA E t (AV.least z0 z1 z2) i A))
    PUnit.unit (fun _ _ _ _ => PUnit.unit) x
omit [Rho] in
theorem fieldF_eq (x : AV) (E : Env) (t : TypeId) (i : Nat) (A : AW) : fieldF x E t i A = liftR (fieldA E t x i A) := by
  cases x
  case agg cs =>
    show Option.rec (motive := fun _ => OpE) (liftR (fieldA E t (.agg cs) i A)) (fun p => Prod.rec (motive := fun _ => OpE) (fun agg q => Prod.rec (motive := fun _ => OpE) (fun off size => partF agg off size cs A) q) p) (fieldInf E t i) = _
    cases h : fieldInf E t i with
    | none => rfl
    | some p =>
      obtain ⟨agg, off, size⟩ := p
      unfold fieldInf at h
      unfold fieldA
      split at h
      · rename_i d hd
        split at h
        · rename_i fields hf
          split at h
          · rename_i fl hfl
            split at h
            · rename_i df hdf
              cases h
              simp only [hd, hf, hfl, partA, hdf, partF, nth_eq, takeN_eq, dropN_eq]
              cases df.agg <;> simp only [cond_true, cond_false]
              · cases AE.nth cs fl.offset <;> rfl
              · cases AE.takeN df.size (AE.dropN fl.offset cs) <;> rfl
            · cases h
          · cases h
        · cases h
      · cases h
  all_goals rfl

def partsF (F : Fr) (l : List (Nat × Operand)) : List (Nat × AV) :=
  List.rec (motive := fun _ => List (Nat × AV)) [] (fun p _ ih => Prod.rec (motive := fun _ => List (Nat × AV)) (fun i x => (i, ev F x) :: ih) p) l
omit [Rho] in
theorem partsF_eq (F : Fr) : ∀ l, partsF F l = partsA F l
  | [] => rfl
  | (i, x) :: l => by
    show (i, ev F x) :: partsF F l = (i, AE.ev F x) :: partsA F l
    rw [ev_eq, partsF_eq F l]

def fillF (place : Nat → Option (Nat × Nat)) (parts : List (Nat × AV)) : List AV → Option (List AV) :=
  List.rec (motive := fun _ => List AV → Option (List AV)) (fun cs => some cs)
    (fun p _ ih cs => Prod.rec (motive := fun _ => Option (List AV)) (fun i v => Option.rec (motive := fun _ => Option (List AV)) none (fun q => Prod.rec (motive := fun _ => Option (List AV)) (fun off size =>
      Option.rec (motive := fun _ => Option (List AV)) none (fun xs => Bool.rec (motive := fun _ => Option (List AV)) none (Option.rec (motive := fun _ => Option (List AV)) none (fun cs => ih cs) (putN off xs cs)) (Nat.beq (len xs) size)) (cellsOf v)) q) (place i)) p) parts
omit [Rho] in
theorem fillF_eq (place : Nat → Option (Nat × Nat)) : ∀ (parts : List (Nat × AV)) (cs : List AV), fillF place parts cs = fillA place cs parts
  | [], cs => by cases cs <;> rfl
  | (i, v) :: l, cs => by
    show Option.rec (motive := fun _ => Option (List AV)) none (fun q => Prod.rec (motive := fun _ => Option (List AV)) (fun off size =>
      Option.rec (motive := fun _ => Option (List AV)) none (fun xs => Bool.rec (motive := fun _ => Option (List AV)) none (Option.rec (motive := fun _ => Option (List AV)) none (fun cs => fillF place l cs) (putN off xs cs)) (Nat.beq (len xs) size)) (cellsOf v)) q) (place i) = _
    unfold fillA
    cases place i with
    | none => rfl
    | some q =>
      obtain ⟨off, size⟩ := q
      cases cellsOf v with
      | none => rfl
      | some xs =>
        simp only [len_eq, putN_eq]
        cases Nat.beq (AE.len xs) size <;> simp only [cond_true, cond_false]
        cases AE.putN off xs cs with
        | none => rfl
        | some cs => exact fillF_eq place l cs

/-- Where a struct's parts lie, and its zero. -/
def structPl (E : Env) (t : TypeId) : Option (List (Nat × Nat) × List AV) :=
  match E.tys.get t with
  | some d => (match d.zero with
    | some z => (match d.desc with
      | .struct fields => (match sizesOf E fields.toList with
        | some pl => some (pl, z)
        | none => none)
      | _ => none)
    | none => none)
  | none => none
def buildF (E : Env) (t : TypeId) (parts : List (Nat × AV)) (A : AW) : OpE :=
  Option.rec (motive := fun _ => OpE) (liftR (buildA E t parts A)) (fun p => Prod.rec (motive := fun _ => OpE) (fun pl z =>
    Option.rec (motive := fun _ => OpE) (.fail 20) (fun cs => .val (.agg cs) A) (fillF (fun i => nth pl i) parts z)) p) (structPl E t)
omit [Rho] in
theorem buildF_eq (E : Env) (t : TypeId) (parts : List (Nat × AV)) (A : AW) : buildF E t parts A = liftR (buildA E t parts A) := by
  unfold buildF
  cases h : structPl E t with
  | none => rfl
  | some p =>
    obtain ⟨pl, z⟩ := p
    unfold structPl at h
    unfold buildA
    split at h
    · rename_i d hd
      split at h
      · rename_i z' hz
        split at h
        · rename_i fields hf
          split at h
          · rename_i pl' hpl
            cases h
            simp only [hd, hz, hf, hpl, fillF_eq]
            have e : (fun i => nth pl i) = (fun i => AE.nth pl i) := by
              funext i
              exact nth_eq pl i
            rw [e]
            cases fillA (fun i => AE.nth pl i) z parts <;> rfl
          · cases h
        · cases h
      · cases h
    · cases h

/-- A row's elements' size, and its zero. -/
def rowZ (E : Env) (t : TypeId) (n : Nat) : Option (Nat × List AV) :=
  match E.tys.get t with
  | some d => (match d.desc with
    | .slice e => (match E.tys.get e with
      | some de => (match de.zero with
        | some z => bif Nat.ble (Nat.mul n de.size) 4096 then bif Nat.ble 1 de.size then some (de.size, repeatL z n) else none else none
        | none => none)
      | none => none)
    | _ => none)
  | none => none
def buildSliceF (E : Env) (t : TypeId) (n : Nat) (parts : List (Nat × AV)) (A : AW) : OpE :=
  Option.rec (motive := fun _ => OpE) (liftR (buildSliceA E t n parts A)) (fun p => Prod.rec (motive := fun _ => OpE) (fun size z =>
    Option.rec (motive := fun _ => OpE) (.fail 25) (fun cs => .val (.slice A.nxt 0 0 n n true) ⟨tset A.heap A.nxt (.cells 0 false size cs), Nat.succ A.nxt⟩) (fillF (fun i => some (Nat.mul i size, size)) parts z)) p) (rowZ E t n)
omit [Rho] in
theorem buildSliceF_eq (E : Env) (t : TypeId) (n : Nat) (parts : List (Nat × AV)) (A : AW) : buildSliceF E t n parts A = liftR (buildSliceA E t n parts A) := by
  unfold buildSliceF
  cases h : rowZ E t n with
  | none => rfl
  | some p =>
    obtain ⟨size, z⟩ := p
    unfold rowZ at h
    unfold buildSliceA
    split at h
    · rename_i d hd
      split at h
      · rename_i e hf
        split at h
        · rename_i de hde
          split at h
          · rename_i z' hz
            cases h1 : Nat.ble (Nat.mul n de.size) 4096 <;> rw [h1] at h <;> simp only [cond_true, cond_false] at h
            · cases h
            cases h2 : Nat.ble 1 de.size <;> rw [h2] at h <;> simp only [cond_true, cond_false] at h
            · cases h
            cases h
            simp only [hd, hf, hde, hz, h1, h2, cond_true, fillF_eq, tset_eq]
            cases fillA (fun i => some (Nat.mul i de.size, de.size)) (repeatL z' n) parts <;> rfl
          · cases h
        · cases h
      · cases h
    · cases h

/-! ### append -/
def apInf (E : Env) (ts : List TypeId) : Option (Nat × Nat) :=
  match ts with
  | [t, t'] => (match E.tys.get t' with
    | some d' => (match d'.desc with
      | .slice _ => (match E.tys.get t with
        | some d => (match d.desc with
          | .slice e => (match E.tys.get e with
            | some de => (match de.zero with
              | some _ => bif Nat.ble 1 de.size then some (de.size, de.bytes) else none
              | none => none)
            | none => none)
          | _ => none)
        | none => none)
      | _ => none)
    | none => none)
  | _ => none
def rowC (f u o n c es bytes m : Nat) (ex : Bool) (xs : List AV) (A : AW) (fam : AFam) : OpE :=
  AFam.rec (motive := fun _ => OpE) (fun cur ro es' cs => Bool.rec (motive := fun _ => OpE) (.fail 107)
    (Bool.rec (motive := fun _ => OpE)
      (Bool.rec (motive := fun _ => OpE) (.fail 105)
        (Bool.rec (motive := fun _ => OpE)
          (Bool.rec (motive := fun _ => OpE)
            (Option.rec (motive := fun _ => OpE) (.fail 104) (fun old => .val (.slice f (Nat.succ u) o (Nat.add n m) (Nat.add n m) false) ⟨tset A.heap f (.cells (Nat.succ u) false es (app old xs)), A.nxt⟩) (takeN (Nat.add o (Nat.mul n es)) cs))
            (.fail 102) ro)
          (Option.rec (motive := fun _ => OpE) (.fail 104) (fun old => .val (.slice A.nxt 0 0 (Nat.add n m) (Nat.add n m) false) ⟨tset A.heap A.nxt (.cells 0 false es (app old xs)), Nat.succ A.nxt⟩) (takeN (Nat.mul n es) (dropN o cs)))
          ex) (roomA (Nat.add n m) bytes))
      (Bool.rec (motive := fun _ => OpE)
        (Option.rec (motive := fun _ => OpE) (.fail 103) (fun cs => .val (.slice f u o (Nat.add n m) c ex) ⟨tset A.heap f (.cells cur ro es cs), A.nxt⟩) (putN (Nat.add o (Nat.mul n es)) xs cs))
        (.fail 102) ro) (Nat.ble (Nat.add n m) c)) (Nat.beq cur u && Nat.beq es' es)) (fun _ => .fail 108) fam
def rowF (f u o n c es bytes m : Nat) (ex : Bool) (xs : List AV) (A : AW) : OpE :=
  Option.rec (motive := fun _ => OpE) (.fail 108) (fun fam => rowC f u o n c es bytes m ex xs A fam) (tget A.heap f)
omit [Rho] in
theorem rowF_eq (f u o n c es bytes m : Nat) (ex : Bool) (xs : List AV) (A : AW) : rowF f u o n c es bytes m ex xs A = liftR (appendRow f u o n c es bytes m ex xs A) := by
  unfold rowF appendRow
  simp only [tget_eq]
  cases A.heap.get f with
  | none => rfl
  | some fam =>
    cases fam with
    | map es => rfl
    | cells cur ro es' cs =>
      simp only [rowC, app_eq, takeN_eq, dropN_eq, putN_eq, tset_eq]
      cases (Nat.beq cur u && Nat.beq es' es) <;> simp only [cond_true, cond_false]
      · rfl
      cases Nat.ble (Nat.add n m) c <;> simp only [cond_true, cond_false]
      · cases roomA (Nat.add n m) bytes <;> simp only [cond_true, cond_false]
        · rfl
        cases ex <;> simp only [cond_true, cond_false]
        · cases ro <;> simp only [cond_true, cond_false]
          · cases AE.takeN (Nat.add o (Nat.mul n es)) cs <;> rfl
          · rfl
        · cases AE.takeN (Nat.mul n es) (AE.dropN o cs) <;> rfl
      · cases ro <;> simp only [cond_true, cond_false]
        · cases AE.putN (Nat.add o (Nat.mul n es)) xs cs <;> rfl
        · rfl

def cellsC (s o n : Nat) (fam : AFam) : Option (List AV) :=
  AFam.rec (motive := fun _ => Option (List AV)) (fun cur _ _ cs => Bool.rec (motive := fun _ => Option (List AV)) none (takeN n (dropN o cs)) (Nat.beq cur s)) (fun _ => none) fam
def cellsF (A : AW) (f s o n : Nat) : Option (List AV) :=
  Option.rec (motive := fun _ => Option (List AV)) none (fun fam => cellsC s o n fam) (tget A.heap f)
omit [Rho] in
theorem cellsF_eq (A : AW) (f s o n : Nat) : cellsF A f s o n = readCells A f s o n := by
  unfold cellsF readCells
  simp only [tget_eq]
  cases A.heap.get f with
  | none => rfl
  | some fam =>
    cases fam with
    | map es => rfl
    | cells cur ro es' cs =>
      simp only [cellsC, takeN_eq, dropN_eq]
      cases Nat.beq cur s <;> rfl

def apS (s : AV) : Env → List TypeId → AV → Nat → Nat → Nat → List AV → AW → OpE :=
  AV.rec (motive_1 := fun _ => Env → List TypeId → AV → Nat → Nat → Nat → List AV → AW → OpE) (motive_2 := fun _ => PUnit)
    (fun E ts x size bytes m xs A => liftR (builtinA E .append ts [(AV.undef), x] A))
    (fun z0 => fun E ts x size bytes m xs A => liftR (builtinA E .append ts [(AV.bool z0), x] A))
    (fun z0 z1 => fun E ts x size bytes m xs A => liftR (builtinA E .append ts [(AV.int z0 z1), x] A))
    (fun z0 z1 => fun E ts x size bytes m xs A => liftR (builtinA E .append ts [(AV.float z0 z1), x] A))
    (fun z0 z1 z2 => fun E ts x size bytes m xs A => liftR (builtinA E .append ts [(AV.cplx z0 z1 z2), x] A))
    (fun z0 => fun E ts x size bytes m xs A => liftR (builtinA E .append ts [(AV.str z0), x] A))
    (fun E ts x size bytes m xs A => liftR (builtinA E .append ts [(AV.nilp), x] A))
    (fun z0 z1 z2 => fun E ts x size bytes m xs A => liftR (builtinA E .append ts [(AV.ptr z0 z1 z2), x] A))
    (fun E ts x size bytes m xs A => liftR (builtinA E .append ts [(AV.nils), x] A))
    (fun z0 => fun E ts x size bytes m xs A => liftR (builtinA E .append ts [(AV.emp z0), x] A))
    (fun f u o n c ex => fun E ts x size bytes m xs A => rowF f u o n c size bytes m ex xs A)
    (fun E ts x size bytes m xs A => liftR (builtinA E .append ts [(AV.nilm), x] A))
    (fun z0 => fun E ts x size bytes m xs A => liftR (builtinA E .append ts [(AV.map z0), x] A))
    (fun z0 z1 z2 _ _ => fun E ts x size bytes m xs A => liftR (builtinA E .append ts [(AV.func z0 z1 z2), x] A))
    (fun E ts x size bytes m xs A => liftR (builtinA E .append ts [(AV.nilFunc), x] A))
    (fun z0 _ => fun E ts x size bytes m xs A => liftR (builtinA E .append ts [(AV.agg z0), x] A))
    (fun z0 _ => fun E ts x size bytes m xs A => liftR (builtinA E .append ts [(AV.tuple z0), x] A))
    (fun z0 z1 z2 => fun E ts x size bytes m xs A => liftR (builtinA E .append ts [(AV.rest z0 z1 z2), x] A))
    (fun z0 z1 z2 => fun E ts x size bytes m xs A => liftR (builtinA E .append ts [(AV.rng z0 z1 z2), x] A))
    (fun z0 z1 z2 => fun E ts x size bytes m xs A => liftR (builtinA E .append ts [(AV.among z0 z1 z2), x] A))
    (fun z0 z1 z2 z3 => fun E ts x size bytes m xs A => liftR (builtinA E .append ts [(AV.sym z0 z1 z2 z3), x] A))
    (fun z0 z1 => fun E ts x size bytes m xs A => liftR (builtinA E .append ts [(AV.sstr z0 z1), x] A))
    (fun z0 => fun E ts x size bytes m xs A => liftR (builtinA E .append ts [(AV.neg z0), x] A))
    (fun z0 z1 => fun E ts x size bytes m xs A => liftR (builtinA E .append ts [(AV.bits z0 z1), x] A))
    (fun z0 z1 => fun E ts x size bytes m xs A => liftR (builtinA E .append ts [(AV.nbits z0 z1), x] A))
    (fun z0 z1 z2 => fun E ts x size bytes m xs A => liftR (builtinA E .append ts [(AV.tm z0 z1 z2), x] A))
    (fun z0 z1 => fun E ts x size bytes m xs A => liftR (builtinA E .append ts [(AV.ustr z0 z1), x] A))
    (fun z0 z1 z2 => fun E ts x size bytes m xs A => liftR (builtinA E .append ts [(AV.least z0 z1 z2), x] A))
    PUnit.unit (fun _ _ _ _ => PUnit.unit) s
def apX (x : AV) : Env → List TypeId → AV → Nat → Nat → AW → OpE :=
  AV.rec (motive_1 := fun _ => Env → List TypeId → AV → Nat → Nat → AW → OpE) (motive_2 := fun _ => PUnit)
    (fun E ts sv size bytes A => liftR (builtinA E .append ts [sv, (AV.undef)] A))
    (fun z0 => fun E ts sv size bytes A => liftR (builtinA E .append ts [sv, (AV.bool z0)] A))
    (fun z0 z1 => fun E ts sv size bytes A => liftR (builtinA E .append ts [sv, (AV.int z0 z1)] A))
    (fun z0 z1 => fun E ts sv size bytes A => liftR (builtinA E .append ts [sv, (AV.float z0 z1)] A))
    (fun z0 z1 z2 => fun E ts sv size bytes A => liftR (builtinA E .append ts [sv, (AV.cplx z0 z1 z2)] A))
    (fun z0 => fun E ts sv size bytes A => liftR (builtinA E .append ts [sv, (AV.str z0)] A))
    (fun E ts sv size bytes A => liftR (builtinA E .append ts [sv, (AV.nilp)] A))
    (fun z0 z1 z2 => fun E ts sv size bytes A => liftR (builtinA E .append ts [sv, (AV.ptr z0 z1 z2)] A))
    (fun E ts sv size bytes A => liftR (builtinA E .append ts [sv, (AV.nils)] A))
    (fun z0 => fun E ts sv size bytes A => liftR (builtinA E .append ts [sv, (AV.emp z0)] A))
    (fun f s o n c e => fun E ts sv size bytes A => Bool.rec (motive := fun _ => OpE) (Option.rec (motive := fun _ => OpE) (liftR (builtinA E .append ts [sv, .slice f s o n c e] A)) (fun xs => apS sv E ts (.slice f s o n c e) size bytes n xs A) (cellsF A f s o (Nat.mul n size))) (liftR (builtinA E .append ts [sv, .slice f s o n c e] A)) (Nat.beq n 0))
    (fun E ts sv size bytes A => liftR (builtinA E .append ts [sv, (AV.nilm)] A))
    (fun z0 => fun E ts sv size bytes A => liftR (builtinA E .append ts [sv, (AV.map z0)] A))
    (fun z0 z1 z2 _ _ => fun E ts sv size bytes A => liftR (builtinA E .append ts [sv, (AV.func z0 z1 z2)] A))
    (fun E ts sv size bytes A => liftR (builtinA E .append ts [sv, (AV.nilFunc)] A))
    (fun z0 _ => fun E ts sv size bytes A => liftR (builtinA E .append ts [sv, (AV.agg z0)] A))
    (fun z0 _ => fun E ts sv size bytes A => liftR (builtinA E .append ts [sv, (AV.tuple z0)] A))
    (fun z0 z1 z2 => fun E ts sv size bytes A => liftR (builtinA E .append ts [sv, (AV.rest z0 z1 z2)] A))
    (fun z0 z1 z2 => fun E ts sv size bytes A => liftR (builtinA E .append ts [sv, (AV.rng z0 z1 z2)] A))
    (fun z0 z1 z2 => fun E ts sv size bytes A => liftR (builtinA E .append ts [sv, (AV.among z0 z1 z2)] A))
    (fun z0 z1 z2 z3 => fun E ts sv size bytes A => liftR (builtinA E .append ts [sv, (AV.sym z0 z1 z2 z3)] A))
    (fun z0 z1 => fun E ts sv size bytes A => liftR (builtinA E .append ts [sv, (AV.sstr z0 z1)] A))
    (fun z0 => fun E ts sv size bytes A => liftR (builtinA E .append ts [sv, (AV.neg z0)] A))
    (fun z0 z1 => fun E ts sv size bytes A => liftR (builtinA E .append ts [sv, (AV.bits z0 z1)] A))
    (fun z0 z1 => fun E ts sv size bytes A => liftR (builtinA E .append ts [sv, (AV.nbits z0 z1)] A))
    (fun z0 z1 z2 => fun E ts sv size bytes A => liftR (builtinA E .append ts [sv, (AV.tm z0 z1 z2)] A))
    (fun z0 z1 => fun E ts sv size bytes A => liftR (builtinA E .append ts [sv, (AV.ustr z0 z1)] A))
    (fun z0 z1 z2 => fun E ts sv size bytes A => liftR (builtinA E .append ts [sv, (AV.least z0 z1 z2)] A))
    PUnit.unit (fun _ _ _ _ => PUnit.unit) x
def apA (args : List AV) : Env → List TypeId → AW → OpE :=
  match args with
  | [sv, x] => fun E ts A => Option.rec (motive := fun _ => OpE) (liftR (builtinA E .append ts [sv, x] A)) (fun p => Prod.rec (motive := fun _ => OpE) (fun size bytes => apX x E ts sv size bytes A) p) (apInf E ts)
  | args => fun E ts A => liftR (builtinA E .append ts args A)
omit [Rho] in
theorem apInf_spec {E : Env} {ts : List TypeId} {size bytes : Nat} (h : apInf E ts = some (size, bytes)) :
    ∃ t t' d' e' d e de z, ts = [t, t'] ∧ E.tys.get t' = some d' ∧ d'.desc = .slice e' ∧ E.tys.get t = some d ∧ d.desc = .slice e ∧ E.tys.get e = some de ∧ de.zero = some z ∧ Nat.ble 1 de.size = true ∧ size = de.size ∧ bytes = de.bytes := by
  unfold apInf at h
  split at h
  · rename_i t t'
    split at h
    · rename_i d' hd'
      split at h
      · rename_i e' he'
        split at h
        · rename_i d hd
          split at h
          · rename_i e he
            split at h
            · rename_i de hde
              split at h
              · rename_i z hz
                cases h1 : Nat.ble 1 de.size <;> rw [h1] at h <;> simp only [cond_true, cond_false] at h
                · cases h
                cases h
                exact ⟨t, t', d', e', d, e, de, z, rfl, hd', he', hd, he, hde, hz, h1, rfl, rfl⟩
              · cases h
            · cases h
          · cases h
        · cases h
      · cases h
    · cases h
  · cases h
omit [Rho] in
theorem apA_eq (args : List AV) (E : Env) (ts : List TypeId) (A : AW) : apA args E ts A = liftR (builtinA E .append ts args A) := by
  match args with
  | [] => rfl
  | [a] => rfl
  | a :: b :: c :: l => rfl
  | [sv, x] =>
    show Option.rec (motive := fun _ => OpE) (liftR (builtinA E .append ts [sv, x] A)) (fun p => Prod.rec (motive := fun _ => OpE) (fun size bytes => apX x E ts sv size bytes A) p) (apInf E ts) = _
    cases h : apInf E ts with
    | none => rfl
    | some p =>
      obtain ⟨size, bytes⟩ := p
      cases x
      case slice f s o n c ex =>
        show Bool.rec (motive := fun _ => OpE)
          (Option.rec (motive := fun _ => OpE) (liftR (builtinA E .append ts [sv, .slice f s o n c ex] A)) (fun xs => apS sv E ts (.slice f s o n c ex) size bytes n xs A) (cellsF A f s o (Nat.mul n size)))
          (liftR (builtinA E .append ts [sv, .slice f s o n c ex] A)) (Nat.beq n 0) = _
        cases hn : Nat.beq n 0 with
        | true => rfl
        | false =>
          simp only [cellsF_eq]
          cases hr : readCells A f s o (Nat.mul n size) with
          | none => rfl
          | some xs =>
            simp only []
            cases sv
            case slice f' u o' n' c' ex' =>
              show rowF f' u o' n' c' size bytes n ex' xs A = _
              obtain ⟨t, t', d', e', d, e, de, z, rfl, a1, a2, a3, a4, a5, a6, a7, rfl, rfl⟩ := apInf_spec h
              rw [rowF_eq]
              simp only [builtinA, a1, a2, appendA, a3, a4, a5, a6, srcA, hr, hn, cond_false, a7, cond_true]
            all_goals rfl
      all_goals rfl
end
end Go.AE.R
