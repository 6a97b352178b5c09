/- A part of the proof of the statement CheckTypes. -/
import GoSem.Dispatch
import GoSem.Machine.Frame
import Derived.Orders
namespace Go.AE
inductive Tr (α:Type) where
 | nil
 | node (l:Tr α) (v:Option α) (r:Tr α)
namespace Tr
variable{α:Type}
def get:Tr α→Nat→Option α
 | .nil,_=>none
 | .node l v r,k=>
  match k with
  | 0=>v
  | k+1=>bif Nat.beq (Nat.mod k 2) 0 then l.get (Nat.div k 2) else r.get (Nat.div k 2)
def gq(x:α): Nat→Tr α→Nat→Tr α
 | 0,t,_=>t
 | f+1,t,k=>
  match k with
  | 0=>match t with
   | .nil=>.node .nil (some x) .nil
   | .node l _ r=>.node l (some x) r
  | k+1=>match t with
   | .nil=>bif Nat.beq (Nat.mod k 2) 0 then .node (gq x f .nil (Nat.div k 2)) none .nil else .node .nil none (gq x f .nil (Nat.div k 2))
   | .node l v r=>bif Nat.beq (Nat.mod k 2) 0 then .node (gq x f l (Nat.div k 2)) v r else .node l v (gq x f r (Nat.div k 2))
def set(t:Tr α)(k:Nat)(x:α): Tr α:=gq x (Nat.succ k) t k
def ofList:List α→Nat→Tr α→Tr α
 | [],_,t=>t
 | x::xs,i,t=>ofList xs (Nat.succ i) (t.set i x)
end Tr
inductive Bt where
 | zero
 | one
 | var (i:Nat)
 | Cw (i:Nat)
def Bo:Bt→Nat
 | .one=>1
 | _=>0
def Ee:Bt→Nat
 | .zero=>0
 | _=>1
def nH:List Bt→Nat
 | []=>0
 | b::l=>Nat.add (Bo b) (Nat.mul 2 (nH l))
def rV:List Bt→Nat
 | []=>0
 | b::l=>Nat.add (Ee b) (Nat.mul 2 (rV l))
def isConst:Bt→Bool
 | .zero=>true
 | .one=>true
 | _=>false
def lG:List Bt→Bool
 | []=>true
 | b::l=>bif isConst b then lG l else false
def gY:Nat→List Bt→List Bt
 | 0,_=>[]
 | n+1,l=>match l with
  | []=>[]
  | b::l=>b::gY n l
def nI:Nat→List Bt→List Bt
 | 0,l=>l
 | n+1,l=>.zero::nI n l
def lH:Nat→List Bt→List Bt
 | 0,l=>l
 | n+1,l=>match l with
  | []=>.zero::lH n []
  | b::l=>b::lH n l
def Ef:Bt→Bt
 | .zero=>.one
 | .one=>.zero
 | .var i=>.Cw i
 | .Cw i=>.var i
def ot:List Bt→List Bt
 | []=>[]
 | b::l=>Ef b::ot l
def orB(a b:Bt): Option Bt:=
 match a,b with
 | .zero,b=>some b
 | a,.zero=>some a
 | .one,_=>some .one
 | _,.one=>some .one
 | _,_=>none
def qb:List Bt→List Bt→Option (List Bt)
 | [],l=>some l
 | a::l,m=>match m with
  | []=>some (a::l)
  | b::m=>match orB a b,qb l m with
   | some c,some r=>some (c::r)
   | _,_=>none
def toBits:Nat→Nat→List Bt
 | 0,_=>[]
 | n+1,b=>(bif Nat.beq (Nat.mod b 2) 1 then .one else .zero)::toBits n (Nat.div b 2)
def Cy:List Bt→Bool
 | []=>true
 | _::_=>false
def Eg(a b:Bt): Bool:=
 match a,b with
 | .zero,.zero=>true
 | .one,.one=>true
 | .var i,.var j=>Nat.beq i j
 | .Cw i,.Cw j=>Nat.beq i j
 | _,_=>false
def qc:List Bt→List Bt→Bool
 | [],m=>Cy m
 | a::l,m=>match m with
  | []=>false
  | b::m=>Eg a b && qc l m
def noBits:List Bt→Bool
 | []=>true
 | .zero::l=>noBits l
 | _=>false
def jr:List Bt→List Bt→Bool
 | [],m=>noBits m
 | a::l,m=>match m with
  | []=>noBits (a::l)
  | b::m=>Eg a b && jr l m
inductive AV where
 | undef
 | bool (b:Bool)
 | int (k:IntKind) (n:Int)
 | float (k:FloatKind) (bits:Nat)
 | dh (k:FloatKind) (re im:Nat)
 | str (s:List Nat)
 | bJ
 | ptr (f t o:Nat)
 | aj
 | emp (z:Bool)
 | slice (f t o len cap:Nat) (ex:Bool)
 | gC
 | map (f:Nat)
 | func (f:FuncId) (first captured:List AV)
 | nilFunc
 | agg (cs:List AV)
 | tuple (cs:List AV)
 | rest (k:IntKind) (m r:Nat)
 | gZ (k:IntKind) (lo hi:Nat)
 | ff (k:IntKind) (m S:Nat)
 | sym (k:IntKind) (j lo hi:Nat)
 | jV (pre:List Nat) (j:Nat)
 | neg (k:IntKind)
 | bits (k:IntKind) (l:List Bt)
 | gD (k:IntKind) (l:List Bt)
 | tm (k:IntKind) (m:Nat) (r:Int)
 | lB (lo hi:Nat)
 | least (k:IntKind) (l:List Bt) (b:Bool)
 deriving Inhabited
inductive eI where
 | cells (cur:Nat) (ro:Bool) (es:Nat) (cs:List AV)
 | map (es:List (AV×AV))
structure AW where
 heap:Tr eI
 aa:Nat
structure bH where
 desc:TypeDesc
 size:Nat
 bytes:Nat
 agg:Bool
 zero:Option (List AV)
 zv:AV
structure bC where
 fn:Func
 N:Nat
 mask:Nat
 rW:List (Nat×(List Nat×List Nat))
structure Env where
 P:Program
 fns:Tr bC
 cf:Tr bH
 uo:FuncId→List AV→Option (AV×List eI)
def bit(m i:Nat): Bool:=Nat.beq (Nat.mod (Nat.div m (Nat.pow 2 i)) 2) 1
structure Fr where
 mask:Nat
 loc:List (Nat×AV)
 var:Tr AV
namespace Fr
def find:List (Nat×AV)→Nat→Option AV
 | [],_=>none
 | (i,v)::l,t=>bif Nat.beq i t then some v else find l t
def get(F:Fr)(t:Nat): Option AV:=bif bit F.mask t then F.var.get t else find F.loc t
def set(F:Fr)(t:Nat)(v:AV): Fr:=bif bit F.mask t then ⟨F.mask,F.loc,F.var.set t v⟩ else ⟨F.mask,(t,v)::F.loc,F.var⟩
def clear(F:Fr): Fr:=⟨F.mask,[],F.var⟩
end Fr
inductive iY where
 | fail (why:Nat)
 | val (v:AV) (A:AW)
inductive gF where
 | fail (why:Nat)
 | val (v:AV) (A:AW)
 | enter (f:FuncId) (args:List AV)
def ao:iY→gF
 | .fail n=>.fail n
 | .val v A=>.val v A
inductive Out where
 | fail (why:Nat)
 | val (v:AV) (A:AW)
inductive yA where
 | fail (why:Nat)
 | ok (F:Fr) (A:AW)
def hZ:Value→AV
 | .bool b=>.bool b
 | .int k n=>.int k n
 | .float k b=>.float k b
 | .complex k a b=>.dh k a b
 | .string s=>.str (s.data.toList.map UInt8.toNat)
 | .pointer none=>.bJ
 | .slice none 0 0=>.aj
 | .map none=>.gC
 | .nilFunc=>.nilFunc
 | _=>.undef
def AV.one:AV→Bool
 | .undef|.agg _|.tuple _=>false
 | _=>true
def ki:List AV→Bool
 | []=>true
 | v::l=>bif v.one then ki l else false
def leaves(l:List AV): AV:=bif ki l then .agg l else .undef
def ofConst:Value→AV
 | .agg cs=>leaves (cs.toList.map hZ)
 | .tuple cs=>.tuple (cs.toList.map hZ)
 | v=>hZ v
def ev(F:Fr): Operand→AV
 | .tmp t=>match F.get t with
  | some v=>v
  | none=>.undef
 | .const v=>ofConst v
 | .global _=>.undef
 | .func f=>.func f [] []
def nth{α:Type}:List α→Nat→Option α
 | [],_=>none
 | x::xs,n=>match n with
  | 0=>some x
  | n+1=>nth xs n
def aB{α:Type}:Nat→List α→List α
 | 0,l=>l
 | n+1,l=>match l with
  | []=>[]
  | _::xs=>aB n xs
def takeN{α:Type}:Nat→List α→Option (List α)
 | 0,_=>some []
 | n+1,l=>match l with
  | []=>none
  | x::xs=>match takeN n xs with
   | some ys=>some (x::ys)
   | none=>none
def over{α:Type}:List α→List α→Option (List α)
 | [],l=>some l
 | x::xs,l=>match l with
  | []=>none
  | _::l=>match over xs l with
   | some r=>some (x::r)
   | none=>none
def iL{α:Type}:Nat→List α→List α→Option (List α)
 | 0,xs,l=>over xs l
 | n+1,xs,l=>match l with
  | []=>none
  | y::l=>match iL n xs l with
   | some r=>some (y::r)
   | none=>none
def len{α:Type}:List α→Nat
 | []=>0
 | _::l=>Nat.succ (len l)
def isNil{α:Type}:List α→Bool
 | []=>true
 | _::_=>false
def iadd(x y:Int): Int:=
 match x,y with
 | .ofNat a,.ofNat b=>.ofNat (Nat.add a b)
 | x,y=>x+y
def Eh(x y:Int): Int:=
 match x,y with
 | .ofNat a,.ofNat b=>bif Nat.ble b a then .ofNat (Nat.sub a b) else .negSucc (Nat.sub (Nat.sub b a) 1)
 | x,y=>x-y
def Bp(x y:Int): Bool:=
 match x with
 | .ofNat a=>(match y with
  | .ofNat b=>Nat.blt a b
  | .negSucc _=>false)
 | .negSucc a=>(match y with
  | .ofNat _=>true
  | .negSucc b=>Nat.blt b a)
def Cz(x y:Int): Bool:=
 match x with
 | .ofNat a=>(match y with
  | .ofNat b=>Nat.beq a b
  | .negSucc _=>false)
 | .negSucc a=>(match y with
  | .ofNat _=>false
  | .negSucc b=>Nat.beq a b)
def aT(a b:IntKind): Bool:=
 match a,b with
 | .i64,.i64=>true
 | .u8,.u8=>true
 | .u64,.u64=>true
 | a,b=>decide (a=b)
def lI(k:IntKind)(n:Int): Int:=
 match k with
 | .i64=>(match n with
  | .ofNat m=>bif Nat.blt m 9223372036854775808 then .ofNat m else IntKind.wrap .i64 (.ofNat m)
  | .negSucc m=>bif Nat.blt m 9223372036854775808 then .negSucc m else IntKind.wrap .i64 (.negSucc m))
 | .u8=>(match n with
  | .ofNat m=>.ofNat (Nat.mod m 256)
  | .negSucc m=>IntKind.wrap .u8 (.negSucc m))
 | .u64=>(match n with
  | .ofNat m=>.ofNat (Nat.mod m 18446744073709551616)
  | .negSucc m=>IntKind.wrap .u64 (.negSucc m))
 | k=>IntKind.wrap k n
def nJ(k:IntKind)(n:Int)(A:AW): iY:=
 match n with
 | .ofNat m=>bif Nat.ble 0 m then .val (.int k (.ofNat m)) A else .fail 1
 | .negSucc m=>bif Nat.ble 0 m then .val (.int k (.negSucc m)) A else .fail 1
def iZ(b:Bool)(A:AW): iY:=
 match b with
 | true=>.val (.bool true) A
 | false=>.val (.bool false) A
def fY{α:Type}(P:Program): Sem α→Option α
 | .pure a=>some a
 | .program k=>fY P (k P)
 | _=>none
def mq:AV→Option Value
 | .bool b=>some (.bool b)
 | .int k n=>some (.int k n)
 | .float k b=>some (.float k b)
 | .dh k a b=>some (.complex k a b)
 | .str s=>some (.string ⟨(s.map UInt8.ofNat).toArray⟩)
 | .bJ=>some (.pointer none)
 | .aj=>some (.slice none 0 0)
 | .gC=>some (.map none)
 | .nilFunc=>some .nilFunc
 | _=>none
def lJ:List AV→Option (List Value)
 | []=>some []
 | x::xs=>match mq x,lJ xs with
  | some v,some vs=>some (v::vs)
  | _,_=>none
def rX:AV→Option Value
 | .agg cs=>match lJ cs with
  | some vs=>some (.agg vs.toArray)
  | none=>none
 | v=>mq v
def back(v:Value): Option AV:=
 match v with
 | .bool b=>some (.bool b)
 | .int k n=>some (.int k n)
 | .float k b=>some (.float k b)
 | .complex k a b=>some (.dh k a b)
 | .string s=>some (.str (s.data.toList.map UInt8.toNat))
 | _=>none
def quiet(E:Env)(s:Sem Value)(A:AW): iY:=
 match fY E.P s with
 | some v=>match back v with
  | some a=>.val a A
  | none=>.fail 2
 | none=>.fail 3
def dW:List Nat→List Nat→Bool
 | [],l=>isNil l
 | x::xs,l=>match l with
  | []=>false
  | y::ys=>bif Nat.beq x y then dW xs ys else false
def strLt:List Nat→List Nat→Bool
 | [],l=>match l with
  | []=>false
  | _::_=>true
 | x::xs,l=>match l with
  | []=>false
  | y::ys=>bif Nat.blt x y then true else bif Nat.beq x y then strLt xs ys else false
def eK(E:Env)(op:BinOp)(k:IntKind)(a:Int)(k':IntKind)(b:Int)(A:AW): iY:=
 bif aT k k' then
  match op with
  | .add=>nJ k (lI k (iadd a b)) A
  | .sub=>nJ k (lI k (Eh a b)) A
  | .mul=>nJ k (lI k (a*b)) A
  | .eql=>iZ (Cz a b) A
  | .neq=>iZ (!Cz a b) A
  | .lss=>iZ (Bp a b) A
  | .leq=>iZ (!Bp b a) A
  | .gtr=>iZ (Bp b a) A
  | .geq=>iZ (!Bp a b) A
  | op=>quiet E (Go.binOp op 0 (.int k a) (.int k' b)) A
 else quiet E (Go.binOp op 0 (.int k a) (.int k' b)) A
def uD(op:BinOp)(a b:List Nat)(A:AW): iY:=
 match op with
 | .add=>bif Nat.ble (Nat.add (len a) (len b)) 4611686018427387904 then .val (.str (a++b)) A else .fail 4
 | .eql=>iZ (dW a b) A
 | .neq=>iZ (!dW a b) A
 | .lss=>iZ (strLt a b) A
 | .leq=>iZ (strLt a b || dW a b) A
 | .gtr=>iZ (!(strLt a b || dW a b)) A
 | .geq=>iZ (!strLt a b) A
 | _=>.fail 5
def CA:AV→AV→Option (Nat×Bool)
 | .bJ,.bJ=>some (0,true)
 | .bJ,.ptr ..=>some (0,false)
 | .ptr ..,.bJ=>some (0,false)
 | .aj,.aj=>some (1,true)
 | .aj,.slice ..=>some (1,false)
 | .slice ..,.aj=>some (1,false)
 | .aj,.emp _=>some (1,false)
 | .emp _,.aj=>some (1,false)
 | .gC,.gC=>some (2,true)
 | .gC,.map _=>some (2,false)
 | .map _,.gC=>some (2,false)
 | .nilFunc,.nilFunc=>some (3,true)
 | .nilFunc,.func ..=>some (3,false)
 | .func ..,.nilFunc=>some (3,false)
 | _,_=>none
def mV:TypeDesc→Nat
 | .pointer _=>0
 | .slice _=>1
 | .map _ _=>2
 | .func _ _ _=>3
 | _=>4
def vA(k:IntKind): Nat:=
 match k with
 | .u8=>255
 | .u64=>18446744073709551615
 | _=>0
def wV(op:BinOp)(k:IntKind)(lo hi:Nat)(k':IntKind)(b:Nat)(A:AW): iY:=
 match op with
 | .lss=>bif aT k k' then (bif Nat.blt hi b then .val (.bool true) A else bif Nat.ble b lo then .val (.bool false) A else .fail 300) else .fail 301
 | .leq=>bif aT k k' then (bif Nat.ble hi b then .val (.bool true) A else bif Nat.blt b lo then .val (.bool false) A else .fail 300) else .fail 301
 | .gtr=>bif aT k k' then (bif Nat.blt b lo then .val (.bool true) A else bif Nat.ble hi b then .val (.bool false) A else .fail 300) else .fail 301
 | .geq=>bif aT k k' then (bif Nat.ble b lo then .val (.bool true) A else bif Nat.blt hi b then .val (.bool false) A else .fail 300) else .fail 301
 | .eql=>bif aT k k' then (bif Nat.blt hi b || Nat.blt b lo then .val (.bool false) A else .fail 300) else .fail 301
 | .neq=>bif aT k k' then (bif Nat.blt hi b || Nat.blt b lo then .val (.bool true) A else .fail 300) else .fail 301
 | .shr=>bif Nat.ble b 7 then .val (.gZ k (Nat.div lo (Nat.pow 2 b)) (Nat.div hi (Nat.pow 2 b))) A else .fail 302
 | .shl=>bif aT k .u64 then .val (.gZ .u64 0 18446744073709551615) A else .fail 303
 | .and=>bif aT k k' && Nat.blt 0 (vA k) then .val (.gZ k 0 (vA k)) A else .fail 304
 | .or=>bif aT k k' && (aT k .u8 && (Nat.ble hi 255 && Nat.ble b 255)) then .val (.gZ .u8 b 255) A
  else bif aT k k' && aT k .u64 then .val (.gZ k 0 (vA k)) A else .fail 305
 | _=>.fail 306
def fU(k:IntKind)(l:List Bt): AV:=bif lG l then .int k (.ofNat (nH l)) else .bits k l
def gB:List Bt→Nat
 | []=>0
 | _::l=>Nat.succ (gB l)
def js(op:BinOp)(k:IntKind)(l:List Bt)(k':IntKind)(b:Nat)(A:AW): iY:=
 match op with
 | .shr=>bif Nat.ble b k.bits then .val (fU k (aB b l)) A else .fail 320
 | .shl=>bif aT k .u64 && Nat.ble b 64 then .val (fU .u64 (gY 64 (nI b l))) A else .fail 321
 | .and=>bif aT k k' && (Nat.blt 0 (vA k) && Nat.ble (gB l) k.bits) then
  (bif Nat.beq b 127 then .val (fU k (gY 7 l)) A else bif Nat.beq b 1 then .val (fU k (gY 1 l)) A else .fail 322) else .fail 322
 | .or=>bif aT k k' && (aT k .u8 && (Nat.beq b 128 && Nat.ble (gB l) 8)) then .val (fU .u8 (lH 7 (gY 7 l)++[.one])) A
  else bif aT k k' && (aT k .u64 && (Nat.ble b 18446744073709551615 && Nat.ble (gB l) 64)) then (match qb l (toBits 64 b) with
   | some r=>.val (fU .u64 r) A
   | none=>.fail 323) else .fail 323
 | .xor=>bif aT k k' then
  (bif Nat.beq b 0 && ((aT k .u64 && Nat.ble (gB l) 64) || (aT k .i64 && Nat.ble (gB l) 63)) then .val (fU k l) A
  else bif aT k .u64 && (Nat.ble (gB l) 64 && Nat.beq b 18446744073709551615) then .val (fU .u64 (ot (lH 64 l))) A else .fail 324) else .fail 324
 | op=>wV op k (nH l) (rV l) k' b A
def uE(op:BinOp)(x y:AV)(A:AW): iY:=
 match x,y with
 | .rest k m r,.int k' (.ofNat b)=>(match op with
  | .rem=>bif aT k k' && (Nat.blt 0 b && Nat.beq (Nat.mod m b) 0) then nJ k (.ofNat (Nat.mod r b)) A else .fail 8
  | _=>.fail 8)
 | .ff k m S,.int k' (.ofNat b)=>(match op with
  | .rem=>bif aT k k' && (Nat.blt 0 b && Nat.beq m b) then .val (.ff k 256 S) A else .fail 9
  | _=>.fail 9)
 | .gZ k lo hi,.int k' (.ofNat b)=>wV op k lo hi k' b A
 | .gZ k _ _,.int k' (.negSucc _)=>(match op with
  | .eql=>bif aT k k' then .val (.bool false) A else .fail 309
  | .neq=>bif aT k k' then .val (.bool true) A else .fail 309
  | .lss=>bif aT k k' then .val (.bool false) A else .fail 309
  | .geq=>bif aT k k' then .val (.bool true) A else .fail 309
  | _=>.fail 309)
 | .sym k _ lo hi,.int k' (.ofNat b)=>wV op k lo hi k' b A
 | .neg k,.int k' (.ofNat _)=>(match op with
  | .eql=>bif aT k k' then .val (.bool false) A else .fail 310
  | .neq=>bif aT k k' then .val (.bool true) A else .fail 310
  | .lss=>bif aT k k' then .val (.bool true) A else .fail 310
  | .leq=>bif aT k k' then .val (.bool true) A else .fail 310
  | .gtr=>bif aT k k' then .val (.bool false) A else .fail 310
  | .geq=>bif aT k k' then .val (.bool false) A else .fail 310
  | _=>.fail 310)
 | .bits k l,.least k' m b=>(match op with
  | .leq=>bif aT k k' && jr l m then .val (.bool b) A else .fail 332
  | .gtr=>bif aT k k' && jr l m then .val (.bool (!b)) A else .fail 332
  | _=>.fail 332)
 | .least k _ _,.int k' (.ofNat b)=>(match op with
  | .lss=>bif aT k k' && Nat.beq b 0 then .val (.bool false) A else .fail 333
  | _=>.fail 333)
 | .tm k m r,.int k' (.ofNat b)=>(match op with
  | .rem=>bif aT k k' && (Nat.beq m b && Nat.blt 0 b) then nJ k r A else .fail 331
  | _=>.fail 331)
 | .bits k l,.int k' (.ofNat b)=>js op k l k' b A
 | .bits k l,.int k' (.negSucc b)=>(match op with
  | .xor=>bif aT k k' && (aT k .i64 && (Nat.beq b 0 && Nat.ble (gB l) 63)) then .val (.gD .i64 l) A else .fail 325
  | _=>.fail 325)
 | .gD k l,.int _ (.ofNat b)=>(match op with
  | .shr=>bif aT k .i64 && (Nat.beq b 63 && Nat.ble (gB l) 63) then .val (.int .i64 (.negSucc 0)) A else .fail 326
  | _=>.fail 326)
 | .int k (.ofNat a),.bits k' l=>(match op with
  | .or=>bif aT k k' && (aT k .u64 && (Nat.ble a 18446744073709551615 && Nat.ble (gB l) 64)) then (match qb (toBits 64 a) l with
   | some r=>.val (fU .u64 r) A
   | none=>.fail 327) else .fail 327
  | _=>.fail 327)
 | .bits k l,.bits k' m=>(match op with
  | .or=>bif aT k k' && (aT k .u64 && (Nat.ble (gB l) 64 && Nat.ble (gB m) 64)) then (match qb l m with
   | some r=>.val (fU .u64 r) A
   | none=>.fail 328) else .fail 328
  | .eql=>bif aT k k' && jr l m then .val (.bool true) A else .fail 329
  | .neq=>bif aT k k' && jr l m then .val (.bool false) A else .fail 329
  | _=>.fail 329)
 | .gD k l,.gD k' m=>(match op with
  | .eql=>bif aT k k' && jr l m then .val (.bool true) A else .fail 330
  | .neq=>bif aT k k' && jr l m then .val (.bool false) A else .fail 330
  | _=>.fail 330)
 | .str a,.jV p j=>(match op with
  | .add=>bif Nat.ble (Nat.add (len a) (Nat.add (len p) 1000)) 4611686018427387904 then .val (.jV (a++p) j) A else .fail 311
  | _=>.fail 311)
 | .jV p j,.jV p' j'=>(match op with
  | .eql=>bif dW p p' && Nat.beq j j' then .val (.bool true) A else .fail 312
  | .neq=>bif dW p p' && Nat.beq j j' then .val (.bool false) A else .fail 312
  | _=>.fail 312)
 | .int k (.ofNat _),.gZ k' _ _=>(match op with
  | .or=>bif aT k k' && aT k .u64 then .val (.gZ .u64 0 18446744073709551615) A else .fail 307
  | _=>.fail 307)
 | .gZ k _ _,.gZ k' _ _=>(match op with
  | .or=>bif aT k k' && aT k .u64 then .val (.gZ .u64 0 18446744073709551615) A else .fail 308
  | _=>.fail 308)
 | _,_=>.fail 8
def kj(E:Env)(op:BinOp)(t:TypeId)(x y:AV)(A:AW): iY:=
 match x,y with
 | .int k a,.int k' b=>eK E op k a k' b A
 | .str a,.str b=>uD op a b A
 | .bool a,.bool b=>(match op with
  | .eql=>(match E.cf.get t with
   | some d=>(match d.desc with
    | .bool=>iZ (a == b) A
    | _=>.fail 6)
   | none=>.fail 6)
  | .neq=>(match E.cf.get t with
   | some d=>(match d.desc with
    | .bool=>iZ (!(a == b)) A
    | _=>.fail 6)
   | none=>.fail 6)
  | _=>.fail 6)
 | x,y=>
  match CA x y with
  | some (k,b)=>(match E.cf.get t with
   | some d=>bif Nat.beq (mV d.desc) k then
    (match op with
    | .eql=>iZ b A
    | .neq=>iZ (!b) A
    | _=>.fail 7)
    else .fail 7
   | none=>.fail 7)
  | none=>
   match rX x,rX y with
   | some a,some b=>quiet E (do eqGuard op t (.tmp 0) (.tmp 0) a b;Go.binOp op t a b) A
   | _,_=>uE op x y A
def kO(E:Env)(d:bH): Nat:=
 match d.desc with
 | .array _ e=>(match E.cf.get e with
  | some de=>de.size
  | none=>d.size)
 | _=>d.size
def gG(A:AW)(es:Nat)(cs:List AV): AW:=⟨A.heap.set A.aa (.cells 0 false es cs),Nat.succ A.aa⟩
def cellsOf:AV→Option (List AV)
 | .agg cs=>some cs
 | .tuple _|.undef=>none
 | v=>some [v]
def bU(A:AW)(f s o n:Nat): Option (List AV):=
 match A.heap.get f with
 | some (.cells cur _ _ cs)=>bif Nat.beq cur s then takeN n (aB o cs) else none
 | _=>none
def fR(E:Env)(t:TypeId)(a:AV)(A:AW): iY:=
 match a with
 | .ptr f s o=>
  match E.cf.get t with
  | some d=>
   bif d.agg then
    match bU A f s o d.size with
    | some cs=>.val (.agg cs) A
    | none=>.fail 10
   else match A.heap.get f with
    | some (.cells cur _ _ cs)=>bif Nat.beq cur s then (match nth cs o with
     | some v=>.val v A
     | none=>.fail 11) else .fail 12
    | _=>.fail 11
  | none=>.fail 11
 | _=>.fail 13
def lK(A:AW)(f s o:Nat)(xs:List AV): Option AW:=
 match A.heap.get f with
 | some (.cells cur ro es cs)=>
  bif ro then none else bif Nat.beq cur s then
   match iL o xs cs with
   | some cs=>some ⟨A.heap.set f (.cells cur ro es cs),A.aa⟩
   | none=>none
  else none
 | _=>none
def rY(E:Env)(t:TypeId)(a x:AV)(A:AW): iY:=
 match a with
 | .ptr f s o=>
  match E.cf.get t,cellsOf x with
  | some d,some xs=>
   bif Nat.beq (len xs) d.size then
    bif isNil xs then .fail 19 else
    match lK A f s o xs with
    | some A=>.val .undef A
    | none=>.fail 15
   else .fail 16
  | _,_=>.fail 17
 | _=>.fail 18
def mW(place:Nat→Option (Nat×Nat)): List AV→List (Nat×AV)→Option (List AV)
 | cs,[]=>some cs
 | cs,(i,v)::rest=>
  match place i,cellsOf v with
  | some (off,size),some xs=>
   bif Nat.beq (len xs) size then
    match iL off xs cs with
    | some cs=>mW place cs rest
    | none=>none
   else none
  | _,_=>none
def ow(E:Env): List Field→Option (List (Nat×Nat))
 | []=>some []
 | f::fs=>match E.cf.get f.type,ow E fs with
  | some d,some l=>some ((f.offset,d.size)::l)
  | _,_=>none
def fV(F:Fr): List (Nat×Operand)→List (Nat×AV)
 | []=>[]
 | (i,x)::l=>(i,ev F x)::fV F l
def qH(F:Fr): List Operand→List AV
 | []=>[]
 | x::l=>ev F x::qH F l
def kP(E:Env)(t:TypeId)(parts:List (Nat×AV))(A:AW): iY:=
 match E.cf.get t with
 | some d=>
  match d.zero with
  | some z=>
   match d.desc with
   | .struct fields=>
    match ow E fields.toList with
    | some pl=>match mW (fun i=>nth pl i) z parts with
     | some cs=>.val (.agg cs) A
     | none=>.fail 20
    | none=>.fail 21
   | .array _ e=>
    match E.cf.get e with
    | some de=>match mW (fun i=>some (Nat.mul i de.size,de.size)) z parts with
     | some cs=>.val (.agg cs) A
     | none=>.fail 20
    | none=>.fail 21
   | _=>.fail 22
  | none=>.fail 23
 | none=>.fail 23
def gh(z:List AV): Nat→List AV
 | 0=>[]
 | n+1=>z++gh z n
def fw(E:Env)(t:TypeId)(n:Nat)(parts:List (Nat×AV))(A:AW): iY:=
 match E.cf.get t with
 | some d=>
  match d.desc with
  | .slice e=>
   match E.cf.get e with
   | some de=>
    match de.zero with
    | some z=>
     bif Nat.ble (Nat.mul n de.size) 4096 then
      bif Nat.ble 1 de.size then
       match mW (fun i=>some (Nat.mul i de.size,de.size)) (gh z n) parts with
       | some cs=>.val (.slice A.aa 0 0 n n true) (gG A de.size cs)
       | none=>.fail 25
      else .fail 26
     else .fail 27
    | none=>.fail 28
   | none=>.fail 28
  | _=>.fail 29
 | none=>.fail 29
def jt(E:Env)(t:TypeId)(l c:AV)(A:AW): iY:=
 match l,c with
 | .int _ (.ofNat l),.int _ (.ofNat c)=>
  match E.cf.get t with
  | some d=>
   match d.desc with
   | .slice e=>
    match E.cf.get e with
    | some de=>
     match de.zero with
     | some z=>
      bif Nat.ble l c then bif Nat.ble c 1048576 then bif Nat.ble de.bytes 1048576 then bif Nat.ble 1 de.size then
       .val (.slice A.aa 0 0 l c true) (gG A de.size (gh z c))
      else .fail 30 else .fail 30 else .fail 30 else .fail 30
     | none=>.fail 31
    | none=>.fail 31
   | _=>.fail 32
  | none=>.fail 32
 | _,_=>.fail 33
def bound(x:Option AV)(top:Nat)(d:Nat): Option Nat:=
 match x with
 | none=>some d
 | some (.int _ (.ofNat n))=>bif Nat.ble n top then some n else none
 | some _=>none
def iC(s:List Nat)(lo hi:Option AV)(A:AW): iY:=
 match bound hi (len s) (len s) with
 | some h=>(match bound lo h 0 with
  | some l=>(match takeN (Nat.sub h l) (aB l s) with
   | some r=>.val (.str r) A
   | none=>.fail 41)
  | none=>.fail 42)
 | none=>.fail 43
def lL(f s o n es:Nat)(lo hi:Option AV)(A:AW): iY:=
 match A.heap.get f with
 | some (.cells cur _ es' cs)=>
  bif Nat.beq es' es && (Nat.beq cur s && (Nat.ble 1 es && Nat.ble (Nat.add o (Nat.mul n es)) (len cs))) then
   (match bound hi n n with
   | some h=>(match bound lo h 0 with
    | some l=>bif Nat.beq l n then .val (.emp true) A else .val (.slice f s (Nat.add o (Nat.mul l es)) (Nat.sub h l) (Nat.sub n l) true) A
    | none=>.fail 45)
   | none=>.fail 46)
  else .fail 47
 | _=>.fail 48
def eU(f s o n c es:Nat)(ex:Bool)(lo hi mx:Option AV)(A:AW): iY:=
 match A.heap.get f with
 | some (.cells cur _ es' _)=>
  bif Nat.beq es' es && Nat.beq cur s then
   (match mx with
   | none=>
    (match bound hi c n with
    | some h=>(match bound lo h 0 with
     | some l=>bif Nat.beq l c then .val (.emp ex) A else .val (.slice f s (Nat.add o (Nat.mul l es)) (Nat.sub h l) (Nat.sub c l) ex) A
     | none=>.fail 50)
    | none=>.fail 51)
   | some mx=>
    (match bound (some mx) c 0,hi with
    | some m,some hi=>
     (match bound (some hi) m 0 with
     | some h=>(match bound lo h 0 with
      | some l=>bif Nat.beq l m then .val (.emp true) A else .val (.slice f s (Nat.add o (Nat.mul l es)) (Nat.sub h l) (Nat.sub m l) true) A
      | none=>.fail 53)
     | none=>.fail 53)
    | _,_=>.fail 53))
  else .fail 52
 | _=>.fail 52
def fc(all cut:AV)(lo hi mx:Option AV)(A:AW): iY:=
 match mx with
 | none=>(match bound hi 0 0,bound lo 0 0 with
  | some _,some _=>.val all A
  | _,_=>.fail 56)
 | some mx=>(match bound (some mx) 0 0,hi with
  | some _,some hi=>(match bound (some hi) 0 0,bound lo 0 0 with
   | some _,some _=>.val cut A
   | _,_=>.fail 56)
  | _,_=>.fail 56)
def cQ(E:Env)(t:TypeId)(x:AV)(lo hi mx:Option AV)(A:AW): iY:=
 match E.cf.get t with
 | none=>.fail 40
 | some d=>
  match d.desc with
  | .string=>(match x,mx with
   | .str s,none=>iC s lo hi A
   | _,_=>.fail 44)
  | .array n e=>(match x,mx,E.cf.get e with
   | .ptr f s o,none,some de=>lL f s o n de.size lo hi A
   | _,_,_=>.fail 49)
  | .slice e=>(match x with
   | .slice f s o n c ex=>(match E.cf.get e with
    | some de=>eU f s o n c de.size ex lo hi mx A
    | none=>.fail 52)
   | .aj=>(match E.cf.get e with
    | some _=>fc .aj .aj lo hi mx A
    | none=>.fail 52)
   | .emp z=>(match E.cf.get e with
    | some _=>fc (.emp z) (.emp true) lo hi mx A
    | none=>.fail 52)
   | _=>.fail 59)
  | _=>.fail 60
def aX(E:Env)(s:TypeId)(x:AV)(i:Nat)(A:AW): iY:=
 match x,E.cf.get s with
 | .ptr f t o,some d=>
  match d.desc with
  | .struct fields=>match nth fields.toList i with
   | some fl=>(match E.cf.get fl.type with
    | some df=>bif Nat.ble 1 df.size then .val (.ptr f t (Nat.add o fl.offset)) A else .fail 61
    | none=>.fail 61)
   | none=>.fail 61
  | _=>.fail 62
 | _,_=>.fail 63
def qd(E:Env)(t:TypeId)(cs:List AV)(off:Nat)(A:AW): iY:=
 match E.cf.get t with
 | some d=>bif d.agg then (match takeN d.size (aB off cs) with
  | some r=>.val (.agg r) A
  | none=>.fail 64)
  else (match nth cs off with
   | some v=>.val v A
   | none=>.fail 65)
 | none=>.fail 66
def lO(E:Env)(t:TypeId)(x:AV)(i:Nat)(A:AW): iY:=
 match x,E.cf.get t with
 | .agg cs,some d=>
  match d.desc with
  | .struct fields=>match nth fields.toList i with
   | some fl=>qd E fl.type cs fl.offset A
   | none=>.fail 67
  | _=>.fail 68
 | _,_=>.fail 69
def aO(E:Env)(t:TypeId)(x i:AV)(A:AW): iY:=
 match i,E.cf.get t with
 | .int _ (.ofNat i),some d=>
  match d.desc with
  | .slice e=>(match x,E.cf.get e with
   | .slice f s o n _ _,some de=>bif Nat.blt i n then .val (.ptr f s (Nat.add o (Nat.mul i de.size))) A else .fail 70
   | _,_=>.fail 71)
  | .array n e=>(match x,E.cf.get e with
   | .ptr f s o,some de=>bif Nat.blt i n then .val (.ptr f s (Nat.add o (Nat.mul i de.size))) A else .fail 72
   | _,_=>.fail 73)
  | _=>.fail 74
 | _,_=>.fail 75
def iM(E:Env)(t:TypeId)(x i:AV)(A:AW): iY:=
 match i,E.cf.get t with
 | .int _ (.ofNat i),some d=>
  match d.desc with
  | .string=>(match x with
   | .str s=>(match nth s i with
    | some b=>.val (.int .u8 (.ofNat b)) A
    | none=>.fail 76)
   | _=>.fail 77)
  | .array n e=>(match x,E.cf.get e with
   | .agg cs,some de=>bif Nat.blt i n then qd E e cs (Nat.mul i de.size) A else .fail 78
   | _,_=>.fail 79)
  | _=>.fail 80
 | _,_=>.fail 81
def ox:AV→AV→Option Bool
 | .str a,.str b=>some (dW a b)
 | .int k a,.int k' b=>bif aT k k' then some (Cz a b) else none
 | _,_=>none
def dX(k:AV): List (AV×AV)→Nat→Option (Option (Nat×AV))
 | [],_=>some none
 | (x,v)::l,i=>match ox k x with
  | some true=>some (some (i,v))
  | some false=>dX k l (Nat.succ i)
  | none=>none
def mX(E:Env)(kt:TypeId)(k:AV): Bool:=
 match E.cf.get kt with
 | some d=>(match d.desc,k with
  | .string,.str _=>true
  | .int _,.int _ _=>true
  | _,_=>false)
 | none=>false
def iw(E:Env)(t:TypeId)(m k:AV)(ok:Bool)(A:AW): iY:=
 match E.cf.get t with
 | some d=>
  match d.desc with
  | .map kt vt=>
   bif mX E kt k then
    match (match m with
     | .gC=>some []
     | .map f=>(match A.heap.get f with
      | some (.map es)=>some es
      | _=>none)
     | _=>none) with
    | some es=>
     match dX k es 0 with
     | some (some (_,v))=>.val (bif ok then .tuple [v,.bool true] else v) A
     | some none=>(match E.cf.get vt with
      | some dv=>(match dv.zero with
       | some _=>.val (bif ok then .tuple [dv.zv,.bool false] else dv.zv) A
       | none=>.fail 82)
      | none=>.fail 82)
     | none=>.fail 83
    | none=>.fail 84
   else .fail 85
  | _=>.fail 86
 | none=>.fail 86
def iO(i:Nat)(k v:AV): List (AV×AV)→List (AV×AV)
 | []=>[]
 | e::l=>match i with
  | 0=>(k,v)::l
  | i+1=>e::iO i k v l
def dq(E:Env)(t:TypeId)(m k v:AV)(A:AW): iY:=
 match E.cf.get t with
 | some d=>
  match d.desc with
  | .map kt _=>
   bif mX E kt k then
    match m with
    | .map f=>
     match A.heap.get f with
     | some (.map es)=>
      match dX k es 0 with
      | some (some (i,_))=>.val .undef ⟨A.heap.set f (.map (iO i k v es)),A.aa⟩
      | some none=>.val .undef ⟨A.heap.set f (.map (es++[(k,v)])),A.aa⟩
      | none=>.fail 87
     | _=>.fail 88
    | _=>.fail 88
   else .fail 89
  | _=>.fail 89
 | none=>.fail 89
def bytesOf:List AV→Option (List Nat)
 | []=>some []
 | .int .u8 (.ofNat n)::l=>(match bytesOf l with
  | some r=>some (Nat.mod n 256::r)
  | none=>none)
 | _::_=>none
def gj:List Nat→List AV
 | []=>[]
 | b::l=>.int .u8 (.ofNat b)::gj l
def oz(E:Env)(e:TypeId): Bool:=
 match E.cf.get e with
 | some d=>(match d.desc with
  | .int .u8=>Nat.beq d.size 1
  | _=>false)
 | none=>false
def Av(k:IntKind)(x:AV)(A:AW): iY:=
 match k with
 | .i64=>(match x with
  | .rest _ m r=>.val (.rest .i64 m r) A
  | .ff _ m S=>.val (.ff .i64 m S) A
  | .gZ _ lo hi=>bif Nat.ble hi 9223372036854775807 then .val (.gZ .i64 lo hi) A else .fail 95
  | .sym _ j lo hi=>bif Nat.ble hi 9223372036854775807 then .val (.sym .i64 j lo hi) A else .fail 95
  | .bits _ l=>bif Nat.ble (rV l) 9223372036854775807 then .val (fU .i64 l) A else .fail 95
  | .least _ l b=>.val (.least .i64 l b) A
  | _=>.fail 95)
 | .u8=>(match x with
  | .ff _ m S=>.val (.ff .u8 m S) A
  | .gZ _ lo hi=>bif Nat.ble hi 255 then .val (.gZ .u8 lo hi) A else .val (.gZ .u8 0 255) A
  | .bits _ l=>.val (fU .u8 (gY 8 l)) A
  | _=>.fail 95)
 | .u64=>(match x with
  | .gZ _ lo hi=>bif Nat.ble hi 18446744073709551615 then .val (.gZ .u64 lo hi) A else .fail 95
  | .bits _ l=>bif Nat.ble (gB l) 64 then .val (fU .u64 l) A else .fail 95
  | .least _ l b=>.val (.least .u64 l b) A
  | .gD _ l=>bif Nat.ble (gB l) 64 then .val (fU .u64 (ot (lH 64 l))) A else .fail 95
  | _=>.fail 95)
 | _=>.fail 95
def wW(d:TypeDesc)(x:AV)(A:AW): iY:=
 match d with
 | .int k=>Av k x A
 | _=>.fail 95
def isByte:AV→Bool
 | .int k n=>(match n with
  | .ofNat _=>aT k .u8
  | .negSucc _=>false)
 | .gZ k _ _=>aT k .u8
 | .bits k _=>aT k .u8
 | _=>false
def mr:List AV→Bool
 | []=>true
 | x::l=>bif isByte x then mr l else false
def lP:Nat→List AV
 | 0=>[]
 | n+1=>.gZ .u8 0 255::lP n
def fZ(E:Env)(src dst:TypeId)(x:AV)(A:AW): iY:=
 match E.cf.get src,E.cf.get dst with
 | some ds,some dd=>
  match dd.desc,x with
  | .int k,.int _ n=>nJ k (lI k n) A
  | .string,.str s=>.val (.str s) A
  | .slice e,.str s=>bif oz E e then .val (.slice A.aa 0 0 (len s) (len s) false) ⟨A.heap.set A.aa (.cells 0 true 1 (gj s)),Nat.succ A.aa⟩ else .fail 90
  | .string,.aj=>(match ds.desc with
   | .slice e=>bif oz E e then .val (.str []) A else .fail 91
   | _=>.fail 91)
  | .string,.emp _=>(match ds.desc with
   | .slice e=>bif oz E e then .val (.str []) A else .fail 91
   | _=>.fail 91)
  | .string,.slice f s o n _ _=>(match ds.desc with
   | .slice e=>bif oz E e then
    (match bU A f s o n with
    | some cs=>(match bytesOf cs with
     | some r=>.val (.str r) A
     | none=>bif mr cs then .val (.lB n n) A else .fail 92)
    | none=>.fail 93)
    else .fail 94
   | _=>.fail 94)
  | .float k,.int _ n=>.val (.float k (k.nearest n)) A
  | d,x=>wW d x A
 | _,_=>.fail 96
def eo(E:Env)(t:TypeId)(x:AV)(A:AW): iY:=
 match E.cf.get t with
 | some d=>
  match d.desc,x with
  | .string,.str s=>.val (.int .i64 (.ofNat (len s))) A
  | .string,.lB lo hi=>bif Nat.beq lo hi then .val (.int .i64 (.ofNat lo)) A else .val (.gZ .i64 lo hi) A
  | .array n _,_=>.val (.int .i64 (.ofNat n)) A
  | .slice _,.slice _ _ _ n _ _=>.val (.int .i64 (.ofNat n)) A
  | .slice _,.aj=>.val (.int .i64 0) A
  | .slice _,.emp _=>.val (.int .i64 0) A
  | .map _ _,.gC=>.val (.int .i64 0) A
  | .map _ _,.map f=>(match A.heap.get f with
   | some (.map es)=>.val (.int .i64 (.ofNat (len es))) A
   | _=>.fail 97)
  | _,_=>.fail 98
 | none=>.fail 98
def kl(A:AW)(size:Nat): AV→Option (Nat×List AV)
 | .aj=>some (0,[])
 | .emp _=>some (0,[])
 | .slice f s o n _ _=>(match bU A f s o (Nat.mul n size) with
  | some cs=>some (n,cs)
  | none=>none)
 | .str s=>bif Nat.beq size 1 then some (len s,gj s) else none
 | .lB lo hi=>bif Nat.beq size 1 && Nat.beq lo hi then some (lo,lP lo) else none
 | _=>none
def ju:Nat:=70368744177664
def eL(n bytes:Nat): Bool:=Nat.ble n ju && Nat.ble (Nat.mul n bytes) ju
def gr(f u o n c es bytes m:Nat)(ex:Bool)(xs:List AV)(A:AW): iY:=
 match A.heap.get f with
 | some (.cells cur ro es' cs)=>
  bif Nat.beq cur u && Nat.beq es' es then
   bif Nat.ble (Nat.add n m) c then
    bif ro then .fail 102 else
    (match iL (Nat.add o (Nat.mul n es)) xs cs with
    | some cs=>.val (.slice f u o (Nat.add n m) c ex) ⟨A.heap.set f (.cells cur ro es cs),A.aa⟩
    | none=>.fail 103)
   else bif eL (Nat.add n m) bytes then
    bif ex then
     (match takeN (Nat.mul n es) (aB o cs) with
     | some old=>.val (.slice A.aa 0 0 (Nat.add n m) (Nat.add n m) false) (gG A es (old++xs))
     | none=>.fail 104)
    else bif ro then .fail 102 else
     (match takeN (Nat.add o (Nat.mul n es)) cs with
     | some old=>.val (.slice f (Nat.succ u) o (Nat.add n m) (Nat.add n m) false) ⟨A.heap.set f (.cells (Nat.succ u) false es (old++xs)),A.aa⟩
     | none=>.fail 104)
   else .fail 105
  else .fail 107
 | _=>.fail 108
def ia(es bytes m:Nat)(xs:List AV)(A:AW): iY:=
 bif eL m bytes then .val (.slice A.aa 0 0 m m false) (gG A es xs) else .fail 101
def dP(E:Env)(t:TypeId)(s x:AV)(A:AW): iY:=
 match E.cf.get t with
 | some d=>
  match d.desc with
  | .slice e=>
   match E.cf.get e with
   | some de=>
    match de.zero,kl A de.size x with
    | some _,some (m,xs)=>
     bif Nat.beq m 0 then
      (match s with
      | .aj=>.val .aj A
      | .emp z=>.val (.emp z) A
      | .slice f u o n c ex=>.val (.slice f u o n c ex) A
      | _=>.fail 100)
     else bif Nat.ble 1 de.size then
      (match s with
      | .aj=>ia de.size de.bytes m xs A
      | .emp true=>ia de.size de.bytes m xs A
      | .slice f u o n c ex=>gr f u o n c de.size de.bytes m ex xs A
      | _=>.fail 109)
     else .fail 110
    | _,_=>.fail 111
   | none=>.fail 112
  | _=>.fail 112
 | none=>.fail 112
def min2(x y:AV): Option AV:=
 match x,y with
 | .int k a,.int _ b=>some (.int k (bif Bp b a then b else a))
 | _,_=>none
def max2(x y:AV): Option AV:=
 match x,y with
 | .int k a,.int _ b=>some (.int k (bif Bp a b then b else a))
 | _,_=>none
def qe(g:AV→AV→Option AV): AV→List AV→Option AV
 | x,[]=>some x
 | x,y::l=>match g x y with
  | some z=>qe g z l
  | none=>none
def aH(E:Env)(b:Builtin)(ts:List TypeId)(args:List AV)(A:AW): iY:=
 match b with
 | .len=>(match ts,args with
  | t::_,x::_=>eo E t x A
  | _,_=>.fail 120)
 | .append=>(match ts,args with
  | [t,t'],[s,x]=>(match E.cf.get t' with
   | some d=>(match d.desc with
    | .slice _|.string=>dP E t s x A
    | _=>.fail 121)
   | none=>.fail 121)
  | _,_=>.fail 121)
 | .complex=>(match args with
  | [.float k a,.float k' b]=>bif decide (k=k') then .val (.dh k a b) A else .fail 122
  | _=>.fail 122)
 | .real=>(match args with
  | [.dh k a _]=>.val (.float k a) A
  | _=>.fail 123)
 | .imag=>(match args with
  | [.dh k _ b]=>.val (.float k b) A
  | _=>.fail 124)
 | .min=>(match args with
  | x::l=>(match qe min2 x l with
   | some v=>.val v A
   | none=>.fail 125)
  | []=>.fail 125)
 | .max=>(match args with
  | x::l=>(match qe max2 x l with
   | some v=>.val v A
   | none=>.fail 126)
  | []=>.fail 126)
 | _=>.fail 127
def Aw(E:Env)(f:FuncId)(args:List AV)(A:AW): iY:=
 match E.fns.get f with
 | some e=>bif e.fn.name == "math.Float64bits" then (match args with
  | [.float .f64 b]=>.val (.int .u64 (.ofNat b)) A
  | _=>.fail 133)
  else bif e.fn.name == "math.Float64frombits" then (match args with
   | [.int .u64 (.ofNat n)]=>.val (.float .f64 n) A
   | _=>.fail 133)
  else .fail 134
 | none=>.fail 134
def rZ(k:Nat): AV→AV
 | .ptr f t o=>.ptr (Nat.add f k) t o
 | .slice f t o n c e=>.slice (Nat.add f k) t o n c e
 | .map f=>.map (Nat.add f k)
 | .func _ _ _=>.undef
 | .agg _=>.undef
 | .tuple _=>.undef
 | v=>v
def vB(g:AV→AV): List AV→List AV
 | []=>[]
 | v::l=>g v::vB g l
def CB(k:Nat): AV→AV
 | .agg l=>.agg (vB (rZ k) l)
 | v=>rZ k v
def vC(k:Nat): AV→AV
 | .tuple l=>.tuple (vB (CB k) l)
 | v=>CB k v
def CC(k:Nat): List (AV×AV)→List (AV×AV)
 | []=>[]
 | (a,b)::l=>(rZ k a,rZ k b)::CC k l
def shiftF(k:Nat): eI→eI
 | .cells cur ro es cs=>.cells cur ro es (vB (rZ k) cs)
 | .map es=>.map (CC k es)
def oD(k:Nat): List eI→AW→AW
 | [],A=>A
 | x::l,A=>oD k l ⟨A.heap.set A.aa (shiftF k x),Nat.succ A.aa⟩
def gH(E:Env)(f:FuncId)(args:List AV)(A:AW): gF:=
 match E.uo f args with
 | some (v,l)=>.val (vC A.aa v) (oD A.aa l A)
 | none=>(match E.fns.get f with
  | some e=>(match e.fn.body with
   | some _=>.enter f args
   | none=>ao (Aw E f args A))
  | none=>.fail 135)
def sc(E:Env)(F:Fr)(c:Call)(A:AW): gF:=
 match c.callee with
 | .builtin b=>ao (aH E b c.argTypes.toList (qH F c.args.toList) A)
 | .value x=>(match ev F x with
  | .func f first captured=>gH E f (first++qH F c.args.toList++captured) A
  | _=>.fail 130)
 | .invoke _ _=>.fail 131
def unA(E:Env)(op:UnOp)(x:AV)(A:AW): iY:=
 match op,x with
 | .not,.bool b=>iZ (!b) A
 | .neg,.int k n=>nJ k (lI k (Eh 0 n)) A
 | op,x=>match rX x with
  | some v=>quiet E (Go.Op.unary op v) A
  | none=>.fail 132
def vD(F:Fr): Option Operand→Option AV
 | none=>none
 | some x=>some (ev F x)
def lQ(E:Env)(F:Fr)(o:Oper)(A:AW): iY:=
 match o.op with
 | .move x=>.val (ev F x) A
 | .assign x=>.val (ev F x) A
 | .pick c a b=>(match ev F c with
  | .bool true=>.val (ev F a) A
  | .bool false=>.val (ev F b) A
  | _=>.fail 140)
 | .alloc t=>(match E.cf.get t with
  | some d=>(match d.zero with
   | some z=>.val (.ptr A.aa 0 0) (gG A (kO E d) z)
   | none=>.fail 141)
  | none=>.fail 141)
 | .box t x=>(match E.cf.get t,cellsOf (ev F x) with
  | some d,some cs=>.val (.ptr A.aa 0 0) (gG A (kO E d) cs)
  | _,_=>.fail 142)
 | .build t ps=>kP E t (fV F ps.toList) A
 | .buildSlice t n ps=>fw E t n (fV F ps.toList) A
 | .load t a=>fR E t (ev F a) A
 | .store t a x=>rY E t (ev F a) (ev F x) A
 | .nilCheck x=>(match ev F x with
  | .ptr f s o=>.val (.ptr f s o) A
  | .func f a b=>.val (.func f a b) A
  | _=>.fail 143)
 | .binOp op t x y _=>kj E op t (ev F x) (ev F y) A
 | .unOp op _ x=>unA E op (ev F x) A
 | .convert s d x=>fZ E s d (ev F x) A
 | .makeFunc (.func f) a b=>.val (.func f (qH F a.toList) (qH F b.toList)) A
 | .makeMap _ none=>.val (.map A.aa) ⟨A.heap.set A.aa (.map []),Nat.succ A.aa⟩
 | .makeSlice t l c=>jt E t (ev F l) (ev F c) A
 | .slice t x lo hi mx=>cQ E t (ev F x) (vD F lo) (vD F hi) (vD F mx) A
 | .fieldAddr s x i=>aX E s (ev F x) i A
 | .field t x i=>lO E t (ev F x) i A
 | .indexAddr t x i=>aO E t (ev F x) (ev F i) A
 | .index t x i=>iM E t (ev F x) (ev F i) A
 | .lookup t x i ok=>iw E t (ev F x) (ev F i) ok A
 | .mapUpdate t m k x=>dq E t (ev F m) (ev F k) (ev F x) A
 | .insert t m k x=>dq E t (ev F m) (ev F k) (ev F x) A
 | .extract x i=>(match ev F x with
  | .tuple vs=>(match nth vs i with
   | some v=>.val v A
   | none=>.fail 144)
  | _=>.fail 145)
 | _=>.fail 150
def dr(E:Env)(F:Fr)(o:Oper)(A:AW): gF:=
 match o.op with
 | .call c=>sc E F c A
 | _=>ao (lQ E F o A)
def bV(all:List Oper)(F:Fr)(o:Oper): Option Bool:=
 match o.guard with
 | none=>some true
 | some (j,w)=>match nth all j with
  | some oj=>(match oj.dst with
   | some d=>(match F.get d with
    | some (.bool b)=>some (b == w)
    | some (.tuple [])=>some false
    | _=>none)
   | none=>none)
  | none=>none
def lD(N:Nat)(F:Fr)(dst:Option Tmp)(v:AV)(A:AW): yA:=
 match dst with
 | none=>.ok F A
 | some d=>bif Nat.blt d N then .ok (F.set d v) A else .fail 160
def kn(E:Env)(call:FuncId→List AV→AW→Out)(N:Nat)(all:List Oper)(o:Oper)(F:Fr)(A:AW): yA:=
 match bV all F o with
 | some true=>(match dr E F o A with
  | .val v A=>lD N F o.dst v A
  | .enter f args=>(match call f args A with
   | .val v A=>lD N F o.dst v A
   | .fail n=>.fail n)
  | .fail n=>.fail n)
 | some false=>lD N F o.dst (.tuple []) A
 | none=>.fail 159
def oE(E:Env)(call:FuncId→List AV→AW→Out)(N:Nat)(all:List Oper): List Oper→Fr→AW→yA
 | [],F,A=>.ok F A
 | o::rest,F,A=>match kn E call N all o F A with
  | .ok F A=>oE E call N all rest F A
  | .fail n=>.fail n
def ib:Op→Bool
 | .store ..|.mapUpdate ..|.insert ..|.assign _=>true
 | .call c=>(match c.callee with
  | .builtin .append=>true
  | .builtin _=>false
  | _=>true)
 | _=>false
def reads:Op→Bool
 | .load ..|.lookup ..|.convert ..|.slice ..=>true
 | .call c=>(match c.callee with
  | .builtin .len=>true
  | _=>false)
 | _=>false
def oF(acc:List Nat): List Edge→Nat→Nat
 | [],s=>s
 | e::l,s=>oF acc l (bif Region.binds .any e then Nat.lor s (Nat.lor (Nat.pow 2 e.on) ((nth acc e.on).getD 0)) else s)
def sd:List Oper→List Nat→List Nat
 | [],acc=>acc
 | o::l,acc=>sd l (acc++[oF acc o.after.toList 0])
def within(m n:Nat): Bool:=Nat.beq (Nat.land m n) m
def oG(done:Nat): List (Oper×Nat)→Nat→Option Nat→Option Nat
 | [],_,late=>late
 | (o,b)::l,i,late=>
  bif bit done i then oG done l (Nat.succ i) late
  else bif within b done then
   (bif ib o.op then oG done l (Nat.succ i) (match late with
    | none=>some i
    | some j=>some j)
   else some i)
  else oG done l (Nat.succ i) late
def uF(l:List (Oper×Nat)): Nat→Nat→List Nat
 | 0,_=>[]
 | n+1,done=>match oG done l 0 none with
  | some i=>i::uF l n (Nat.lor done (Nat.pow 2 i))
  | none=>[]
def zip2{α β:Type}:List α→List β→List (α×β)
 | a::l,b::r=>(a,b)::zip2 l r
 | _,_=>[]
def canon(all:List Oper): List Nat:=uF (zip2 all (sd all [])) (len all) 0
def kr(done:Nat): List Edge→Bool
 | []=>true
 | e::l=>bif Region.binds .any e then (bif bit done e.on then kr done l else false) else kr done l
def uG:Op→Bool
 | .select ..=>false
 | _=>true
def pq(all:Array Oper)(i:Nat)(oi:Oper)(oj:Oper)(bj:Nat): Bool:=
 (match oi.dst with
 | some d=>oj.dst != some d
 | none=>true) &&
 (bif bit bj i then
  (match oj.dst with
  | some d=>!(oi.looksAt all).contains d || ib oj.op
  | none=>true)
 else !ib oi.op && oi.apart all oj)
def qZ(all:Array Oper)(oj:Oper)(bj:Nat): List (Nat×Oper)→Bool
 | []=>true
 | (i,oi)::l=>pq all i oi oj bj && qZ all oj bj l
def ra:Nat→Nat→Bool
 | 0,_=>true
 | k+1,m=>bit m k && ra k m
def vE(all:Array Oper)(o:Oper): Bool:=
 match o.dst with
 | some d=>ib o.op || !(o.looksAt all).contains d
 | none=>ib o.op
def oH(all:Array Oper)(bs:List Nat): List Nat→Nat→List (Nat×Oper)→Bool
 | [],done,_=>ra (len all.toList) done
 | j::rest,done,back=>
  match nth all.toList j,nth bs j with
  | some oj,some bj=>
   !bit done j && (kr done oj.after.toList && (within bj (oF bs oj.after.toList 0) && (uG oj.op && (vE all oj &&
    (qZ all oj bj back && oH all bs rest (Nat.lor done (Nat.pow 2 j)) ((j,oj)::back))))))
  | _,_=>false
def yB(all:Array Oper)(order bs:List Nat): Bool:=oH all bs order 0 []
def oI:AV→AV→Bool
 | .bool a,.bool b=>a == b
 | .int k a,.int k' b=>aT k k' && Cz a b
 | .float k a,.float k' b=>decide (k=k') && Nat.beq a b
 | .dh k a b,.dh k' a' b'=>decide (k=k') && Nat.beq a a' && Nat.beq b b'
 | .str a,.str b=>dW a b
 | .bJ,.bJ=>true
 | .ptr f t o,.ptr f' t' o'=>Nat.beq f f' && Nat.beq t t' && Nat.beq o o'
 | .aj,.aj=>true
 | .emp a,.emp b=>a == b
 | .slice f t o n c e,.slice f' t' o' n' c' e'=>Nat.beq f f' && Nat.beq t t' && Nat.beq o o' && Nat.beq n n' && Nat.beq c c' && (e == e')
 | .gC,.gC=>true
 | .map f,.map f'=>Nat.beq f f'
 | .func f [] [],.func f' [] []=>Nat.beq f f'
 | .nilFunc,.nilFunc=>true
 | .rest k m r,.rest k' m' r'=>aT k k' && Nat.beq m m' && Nat.beq r r'
 | .gZ k m r,.gZ k' m' r'=>aT k k' && Nat.beq m m' && Nat.beq r r'
 | .ff k m r,.ff k' m' r'=>aT k k' && Nat.beq m m' && Nat.beq r r'
 | .sym k j m r,.sym k' j' m' r'=>aT k k' && Nat.beq j j' && Nat.beq m m' && Nat.beq r r'
 | .jV p j,.jV p' j'=>dW p p' && Nat.beq j j'
 | .neg k,.neg k'=>aT k k'
 | .bits k l,.bits k' m=>aT k k' && qc l m
 | .gD k l,.gD k' m=>aT k k' && qc l m
 | .tm k m r,.tm k' m' r'=>aT k k' && Nat.beq m m' && Cz r r'
 | .lB a b,.lB a' b'=>Nat.beq a a' && Nat.beq b b'
 | .least k l b,.least k' l' b'=>aT k k' && qc l l' && (b == b')
 | _,_=>false
def lR:List AV→List AV→Bool
 | [],l=>isNil l
 | x::xs,l=>match l with
  | []=>false
  | y::ys=>oI x y && lR xs ys
def dC:AV→AV→Bool
 | .agg a,.agg b=>lR a b
 | .tuple a,.tuple b=>lR a b
 | a,b=>oI a b
def makes:Op→Bool
 | .alloc _|.box ..|.buildSlice ..|.makeSlice ..|.makeMap ..=>true
 | _=>false
structure Seen where
 i:Nat
 o:Oper
 v:AV
def fS(E:Env)(F:Fr)(A:AW)(b:Nat): List Seen→Bool
 | []=>true
 | s::l=>bif bit b s.i then fS E F A b l else
  match dr E F s.o A with
  | .val v B=>bif Nat.beq B.aa A.aa then (bif dC v s.v then fS E F A b l else false) else false
  | _=>false
def hH(E:Env)(call:FuncId→List AV→AW→Out)(N:Nat)(all:List Oper)(bs:List Nat): List Nat→List Seen→Fr→AW→yA
 | [],_,F,A=>.ok F A
 | i::rest,seen,F,A=>
  match nth all i,nth bs i with
  | some o,some b=>
   (match kn E call N all o F A with
   | .ok F' A'=>
    bif ib o.op then
     (bif fS E F' A' b seen then hH E call N all bs rest seen F' A' else .fail 170)
    else bif makes o.op then hH E call N all bs rest seen F' A'
    else bif Nat.beq A'.aa A.aa then
     (match bV all F o with
     | some true=>(bif reads o.op then
      (match o.dst with
      | some d=>(match F'.get d with
       | some v=>hH E call N all bs rest (⟨i,o,v⟩::seen) F' A'
       | none=>.fail 171)
      | none=>.fail 171)
      else hH E call N all bs rest seen F' A')
     | _=>hH E call N all bs rest seen F' A')
    else .fail 173
   | .fail n=>.fail n)
  | _,_=>.fail 172
def pr:List AV→Nat→Fr→Fr
 | [],_,F=>F
 | v::l,i,F=>pr l (Nat.succ i) (F.set i v)
def mu(mask:Nat)(args:List AV): Fr:=pr args 0 ⟨mask,[],.nil⟩
def ic(E:Env)(F:Fr)(A:AW): ResultVar→Option AV
 | .tmp t=>some (match F.get t with
  | some v=>v
  | none=>.undef)
 | .cell a t=>(match F.get a with
  | some p=>(match fR E t p A with
   | .val v _=>some v
   | _=>none)
  | none=>none)
def dl(E:Env)(F:Fr)(A:AW): List ResultVar→Option (List AV)
 | []=>some []
 | r::l=>match ic E F A r,dl E F A l with
  | some v,some vs=>some (v::vs)
  | _,_=>none
inductive Res where
 | fail (why:Nat)
 | ret (F:Fr) (A:AW)
def wY(E:Env)(fn:Func): Res→Out
 | .ret F A=>(match dl E F A fn.results.toList with
  | some [v]=>.val v A
  | some vs=>.val (.tuple vs) A
  | none=>.fail 180)
 | .fail n=>.fail n
def gI(E:Env)(f:FuncId)(args:List AV)(A:AW)(go:bC→List Item→Fr→AW→Res): Out:=
 match E.fns.get f with
 | some e=>(match e.fn.body with
  | some c=>bif Nat.ble (len args) e.N then wY E e.fn (go e [.code c] (mu e.mask args) A) else .fail 181
  | none=>.fail 182)
 | none=>.fail 183
def vF:List (Nat×(List Nat×List Nat))→Nat→Option (List Nat×List Nat)
 | [],_=>none
 | (i,x)::l,id=>bif Nat.beq i id then some x else vF l id
def codeOk(ds:List (Nat×(List Nat×List Nat))): Code→Bool
 | .seq a b=>codeOk ds a && codeOk ds b
 | .cond _ a b=>codeOk ds a && codeOk ds b
 | .block _ c=>codeOk ds c
 | .loop c=>codeOk ds c
 | .scope c=>codeOk ds c
 | .region id ops true=>(match vF ds id with
  | some (order,bs)=>yB ops order bs
  | none=>true)
 | _=>true
def Bq(e:bC): Bool:=
 Nat.beq e.N e.fn.ntmps && (e.fn.name != "runtime.NumGoroutine" && (match e.fn.body with
  | some c=>codeOk e.rW c
  | none=>true))
def Br(E:Env)(C:bC)(call:FuncId→List AV→AW→Out)(id:Nat)(ops:List Oper)(draw:Bool)(F:Fr)(A:AW): yA:=
 bif draw then (match vF C.rW id with
  | some (order,bs)=>hH E call C.N ops bs order [] F A
  | none=>.fail 196)
 else oE E call C.N ops ops F A
def go(E:Env): Nat→bC→List Item→Fr→AW→Res
 | 0,_,_,_,_=>.fail 190
 | n+1,C,todo,F,A=>
  match todo with
  | []=>.ret F A
  | i::k=>match i with
   | .inBlock _=>go E n C k F A
   | .inScope _=>go E n C k F A
   | .inLoop c=>go E n C (.code c::.inLoop c::k) F A
   | .code c=>(match c with
    | .skip=>go E n C k F A
    | .label _=>go E n C k F A
    | .ret=>.ret F A
    | .seq a b=>go E n C (.code a::.code b::k) F A
    | .cond c a b=>(match ev F c with
     | .bool true=>go E n C (.code a::k) F A
     | .bool false=>go E n C (.code b::k) F A
     | _=>.fail 191)
    | .block id c=>go E n C (.code c::.inBlock id::k) F A
    | .loop c=>go E n C (.code c::.inLoop c::k) F A
    | .scope c=>go E n C (.code c::.inScope c::k) F A
    | .exit id=>(match exitTo id k with
     | some k'=>go E n C k' F A
     | none=>.fail 192)
    | .goto l=>(match gotoIn l k with
     | some k'=>go E n C k' F A
     | none=>.fail 193)
    | .region id ops draw=>
     (match Br E C (fun f args A=>gI E f args A (go E n)) id ops.toList draw F A with
     | .ok F A=>go E n C k F.clear A
     | .fail m=>.fail m)
    | _=>.fail 194)
   | _=>.fail 195
def call(E:Env)(n:Nat)(f:FuncId)(args:List AV)(A:AW): Out:=gI E f args A (go E n)
def CD:TypeDesc→Bool
 | .struct _=>true
 | .array _ _=>true
 | _=>false
def zeroOf(n:Nat): Option Value→Option (List AV)
 | some z=>bif ki (z.cells.toList.map hZ) && Nat.beq (len (z.cells.toList.map hZ)) n then some (z.cells.toList.map hZ) else none
 | none=>none
def zvOf:Option Value→AV
 | some z=>ofConst z
 | none=>.undef
def Ei(P:Program)(t:TypeId): Option bH:=
 match P.underlying t,P.info? t with
 | some d,some i=>some ⟨d,i.size,i.bytes,CD d,zeroOf i.size i.zero,zvOf i.zero⟩
 | _,_=>none
def rc(P:Program): Nat→Nat→Tr bH→Tr bH
 | 0,_,t=>t
 | n+1,i,t=>rc P n (Nat.succ i) (match Ei P i with
  | some d=>t.set i d
  | none=>t)
def qf(P:Program): Tr bH:=rc P P.types.size 0 .nil
def Fa(d m:Nat)(x:Operand): Nat:=
 match x with
 | .tmp t=>bif bit d t then m else Nat.lor m (Nat.pow 2 t)
 | _=>m
def CE(d:Nat): List Operand→Nat→Nat
 | [],m=>m
 | x::l,m=>CE d l (Fa d m x)
def Ax:List Oper→Nat→Nat→Nat
 | [],_,m=>m
 | o::l,d,m=>Ax l (match o.dst with
  | some t=>bif bit d t then d else Nat.lor d (Nat.pow 2 t)
  | none=>d) (CE d o.op.operands.toList m)
def iD:Code→Nat→Nat
 | .seq a b,m=>iD b (iD a m)
 | .cond c a b,m=>iD b (iD a (Fa 0 m c))
 | .block _ c,m=>iD c m
 | .loop c,m=>iD c m
 | .scope c,m=>iD c m
 | .region _ ops _,m=>Ax ops.toList 0 m
 | _,m=>m
def vG:List ResultVar→Nat→Nat
 | [],m=>m
 | .tmp t::l,m=>vG l (Nat.lor m (Nat.pow 2 t))
 | .cell t _::l,m=>vG l (Nat.lor m (Nat.pow 2 t))
def gu:Code→List (Nat×(List Nat×List Nat))
 | .seq a b=>gu a++gu b
 | .cond _ a b=>gu a++gu b
 | .block _ c=>gu c
 | .loop c=>gu c
 | .scope c=>gu c
 | .region id ops true=>[(id,(canon ops.toList,sd ops.toList []))]
 | _=>[]
def fnE(fn:Func): bC:=
 match fn.body with
 | some c=>⟨fn,fn.ntmps,vG fn.results.toList (iD c 0),gu c⟩
 | none=>⟨fn,fn.ntmps,0,[]⟩
def vH:List Func→List bC
 | []=>[]
 | f::l=>fnE f::vH l
def se(P:Program): Tr bC:=Tr.ofList (vH P.funcs.toList) 0 .nil
def CF(P:Program): Env:={ P,fns:=se P,cf:=qf P,uo:=fun _ _=>none }
end Go.AE
