/- A part of the proof of the statement CheckTypes. -/
import Derived.Test.YtafamggbkobcfaaGreatAiDraw
import Derived.Below
import Derived.KernelRfl
namespace Go.AE
open Go.RowKit
set_option linter.unusedVariables false
set_option linter.unusedSimpArgs false
variable[bu]
omit [bu] in
theorem qy(P:Program): ∀(n i:Nat) (t:Tr bH) (k:Nat) (d:bH),(rc P n i t).get k=some d→t.get k=some d∨Ei P k=some d
 | 0,i,t,k,d,h=>.inl h
 | n+1,i,t,k,d,h=>by
  simp only[rc] at h;rcases qy P n (Nat.succ i) _ k d h with h|h
  ·split at h
   ·rename_i x hx;rw[Tr.dQ] at h;split at h
    ·rename_i e;cases h;subst e;exact .inr hx
    ·exact .inl h
   ·exact .inl h
  ·exact .inr h
omit [bu] in
theorem qz:∀{l:List AV},ki l=true→∀x∈l,x.one=true
 | [],_,x,hx=>by cases hx
 | y::l,h,x,hx=>by
  simp only[ki] at h;cases hy:y.one<;>rw[hy] at h<;>simp only[cond_true,cond_false,Bool.false_eq_true] at h;rcases List.mem_cons.1 hx with rfl|hx
  ·exact hy
  ·exact qz h x hx
omit [bu] in
theorem Eo{P:Program}{t:TypeId}{d:bH}(h:Ei P t=some d): pt P t d:=by
 unfold Ei at h;split at h
 ·rename_i e i he hi;cases h;refine⟨he,rfl,i,hi,rfl,rfl,fun z hz=>?_⟩;simp only at hz;cases hzv:i.zero with
  | none=>rw[hzv] at hz;cases hz
  | some zv=>
   rw[hzv] at hz;simp only[zeroOf] at hz;cases hb:(ki (zv.cells.toList.map hZ) && Nat.beq (len (zv.cells.toList.map hZ)) i.size)<;>rw[hb] at hz<;>simp only[cond_true,cond_false,reduceCtorEq] at hz;cases hz;rw[Bool.and_eq_true,beq_eq,ey] at hb;exact⟨zv,rfl,rfl,by simpa using hb.2,by simp [zvOf],qz hb.1⟩
 ·cases h
omit [bu] in
theorem CW(P:Program)(t:TypeId)(d:bH)(h:(qf P).get t=some d): pt P t d:=by
 unfold qf at h;rcases qy P _ _ _ t d h with h|h
 ·simp [Tr.get] at h
 ·exact Eo h
omit [bu] in
theorem sX{α:Type}:∀(l:List α) (i:Nat) (t:Tr α) (k:Nat),(Tr.ofList l i t).get k=if i≤k∧k<i+l.length then l[k-i]? else t.get k
 | [],i,t,k=>by simp [Tr.ofList];intro h1 h2;omega
 | x::l,i,t,k=>by
  simp only[Tr.ofList];rw[sX l (Nat.succ i) _ k,Tr.dQ];by_cases e:k=i
  ·subst e;rw[if_neg (by omega),if_pos rfl,if_pos (by simp)];simp
  ·by_cases c:Nat.succ i≤k∧k<Nat.succ i+l.length
   ·rw[if_pos c,if_pos (by simp;omega)];have:k-i=(k-Nat.succ i)+1:=by omega
    rw[this];simp
   ·rw[if_neg c,if_neg e,if_neg (by simp;omega)]
omit [bu] in
theorem sY:∀(l:List Func) (k:Nat),(vH l)[k]?=(l[k]?).map fnE
 | [],k=>by simp [vH]
 | x::l,0=>by simp [vH]
 | x::l,k+1=>by simp [vH,sY l k]
omit [bu] in
theorem BJ{P:Program}{f:FuncId}{e:bC}(h:(se P).get f=some e): ∃fn,P.funcs[f]?=some fn∧e=fnE fn:=by
 unfold se at h;rw[sX] at h;split at h
 ·simp only[Nat.sub_zero] at h;rw[sY] at h;cases hf:P.funcs.toList[f]? with
  | none=>rw[hf] at h;cases h
  | some fn=>rw[hf] at h;cases h;exact⟨fn,by simpa using hf,rfl⟩
 ·simp [Tr.get] at h
omit [bu] in
theorem yZ(fn:Func): (fnE fn).fn=fn:=by unfold fnE;split<;>rfl
def xE:List bC→Bool
 | []=>true
 | e::l=>bif Bq e then xE l else false
omit [bu] in
theorem sZ:∀{l:List bC},xE l=true→∀e∈l,Bq e=true
 | [],_,e,he=>by cases he
 | x::l,h,e,he=>by
  simp only[xE] at h;cases hx:Bq x<;>rw[hx] at h<;>simp only[cond_true,cond_false,Bool.false_eq_true] at h;rcases List.mem_cons.1 he with rfl|he
  ·exact hx
  ·exact sZ h e he
def xF:List Func→Bool
 | []=>true
 | fn::l=>bif (fn.body.isSome || (Extern.allNextRows.lookup fn.origin).isNone) then xF l else false
omit [bu] in
theorem nV:∀{l:List Func},xF l=true→∀fn∈l,fn.body=none→(Extern.allNextRows.lookup fn.origin)=none
 | [],_,e,he,_=>by cases he
 | x::l,h,e,he,hb=>by
  simp only[xF] at h;cases hx:(x.body.isSome || (Extern.allNextRows.lookup x.origin).isNone)<;>rw[hx] at h<;>simp only[cond_true,cond_false,Bool.false_eq_true] at h;rcases List.mem_cons.1 he with rfl|he
  ·rw[hb] at hx;simpa using hx
  ·exact nV h e he hb
omit [bu] in
theorem next1:(Extern.allNextRows.lookup "math.Float64bits").isNone=true:=by kernel_rfl
omit [bu] in
theorem next2:(Extern.allNextRows.lookup "math.Float64frombits").isNone=true:=by kernel_rfl
omit [bu] in
theorem gen1:(Extern.allGenericRows.lookup "math.Float64bits").isNone=true:=by kernel_rfl
omit [bu] in
theorem gen2:(Extern.allGenericRows.lookup "math.Float64frombits").isNone=true:=by kernel_rfl
omit [bu] in
theorem typ1:(Extern.allTypedRows.lookup "math.Float64bits").isNone=true:=by kernel_rfl
omit [bu] in
theorem typ2:(Extern.allTypedRows.lookup "math.Float64frombits").isNone=true:=by kernel_rfl
omit [bu] in
theorem row1:Extern.allRows.lookup "math.Float64bits"=some Extern.MathFloatBits.float64bits:=by kernel_rfl
omit [bu] in
theorem row2:Extern.allRows.lookup "math.Float64frombits"=some Extern.MathFloatBits.float64frombits:=by kernel_rfl
omit [bu] in
theorem AH{P:Program}{f:FuncId}{fn:Func}{g:Array Value→Sem Value}(hf:P.funcs[f]?=some fn)(hb:fn.body=none){n:String}(hn:fn.name=n)(hne:n≠ "runtime.NumGoroutine")(h1:(Extern.allNextRows.lookup n).isNone=true)(h0:Extern.allNextRows.lookup fn.origin=none)
 (h2:(Extern.allGenericRows.lookup n).isNone=true) (h3:(Extern.allTypedRows.lookup n).isNone=true) (h4:Extern.allRows.lookup n=some g) {args:Array Value} {w:World} {v:Value} (hg:(g args).run P w=.ok v w) :
 (callFunc f args).run P w=.ok (.value v) w:=by
 have e1:Extern.findNext fn=none:=by
  unfold Extern.findNext;simp only[hn];rw[Option.isNone_iff_eq_none] at h1;rw[h1,h0];rfl
 have e2:Extern.find fn=some g:=by
  unfold Extern.find;simp only[hn];rw[Option.isNone_iff_eq_none] at h2 h3;rw[h2,h3,h4];rfl
 unfold callFunc;rw[Sem.run_bind,run_program];simp only[Result.andThen_ok,hf];have e3:(fn.name == "runtime.NumGoroutine")=false:=by rw[hn];simpa using hne
 rw[e3];simp only[Bool.false_eq_true,if_false,hb,Option.isNone_none,if_true,Sem.run_bind,run_mark,Result.andThen_ok,e1,e2,hg,Sem.run_pure]
theorem CX{P:Program}(h1:xE (vH P.funcs.toList)=true)(h2:xF P.funcs.toList=true)(h3:P.follows .mixedOrders=true): dD (CF P):=by
 have key:∀f e,(se P).get f=some e→∃fn,P.funcs[f]?=some fn∧e=fnE fn∧Bq e=true∧fn∈P.funcs.toList:=fun f e h=>by
  obtain⟨fn,a,b⟩:=BJ h;refine⟨fn,a,b,?_,by simpa using Array.mem_of_getElem? a⟩;have hm:fnE fn∈vH P.funcs.toList:=by
   refine List.mem_of_getElem? (i:=f) ?_;rw[sY];have:P.funcs.toList[f]?=some fn:=by simpa using a
   rw[this];rfl
  rw[b];exact sZ h1 _ hm
 refine⟨CW P,fun f e h=>?_,fun f e c h hc=>?_,h3,fun f e h hb hn b w=>?_,fun f e h hb hn b w=>?_,fun f args v l h=>by cases h⟩
 ·obtain⟨fn,a,b,c,_⟩:=key f e h;simp only[Bq,Bool.and_eq_true,beq_eq,bne_iff_ne,decide_eq_true_eq] at c;exact⟨by rw[b,yZ];exact a,c.1,c.2.1⟩
 ·obtain⟨fn,a,b,k,_⟩:=key f e h;simp only[Bq,Bool.and_eq_true,hc] at k;exact k.2.2
 ·obtain⟨fn,a,b',k,hm⟩:=key f e h;subst b';rw[yZ] at hb hn;exact AH a hb (by simpa using hn) (by decide) next1 (nV h2 fn hm hb) gen1 typ1 row1 rfl
 ·obtain⟨fn,a,b',k,hm⟩:=key f e h;subst b';rw[yZ] at hb hn;refine AH a hb (by simpa using hn) (by decide) next2 (nV h2 fn hm hb) gen2 typ2 row2 ?_;rfl
def yes:Out→Bool
 | .val v _=>(match v with
  | .bool b=>b
  | _=>false)
 | .fail _=>false
omit [bu] in
theorem CY{o:Out}(h:yes o=true): ∃A,o=.val (.bool true) A:=by
 cases o with
 | fail n=>cases h
 | val v A=>
  cases v<;>simp only[yes,Bool.false_eq_true] at h;subst h;exact⟨A,rfl⟩
theorem xG(base:Nat)(w:World)(h:base≤w.heap.size): Rel base (fun _ _=>none) ⟨.nil,0⟩ w:=
 ⟨h,fun f F hF=>by simp [Tr.get] at hF,fun f t p hp=>by simp at hp,fun f f' F t t' p p' hF=>by simp [Tr.get] at hF,fun f F t p hF=>by simp [Tr.get] at hF,fun f F p hF=>by simp [Tr.get] at hF⟩
theorem top{E:Env}(hE:dD E){n:Nat}{f:FuncId}{args:List AV}{cargs:Array Value}(h:yes (AE.call E n f args ⟨.nil,0⟩)=true)(ha:bK (fun _ _=>none) args cargs.toList)(w:World):
 Calls E.P f cargs w fun e w'=>e=.returned (.bool true)∧Below w.heap.size w w':=by
 obtain⟨A,hA⟩:=CY h;refine (AG hE n f args ⟨.nil,0⟩ (.bool true) A _ w cargs hA (xG w.heap.size w (Nat.le_refl _)) ha).mono ?_;rintro e w' ⟨cv,μ',rfl,hv,hs⟩;cases hv;exact⟨rfl,hs.os,hs.tape,hs.output,hs.size,fun k hk=>hs.wU k hk fun f F t p hF=>by simp [Tr.get] at hF⟩
end Go.AE
namespace Go.AE
open Go.RowKit
set_option linter.unusedVariables false
set_option linter.unusedSimpArgs false
variable[bu]
def Ep(P:Program)(K:FuncId): Env:=
 { P,fns:=se P,cf:=qf P,uo:=fun f args=>bif Nat.beq f K then (match args with
  | []=>some (.bool true,[])
  | _::_=>none) else none }
theorem Step.grow{base:Nat}{μ:Mp}{A:AW}{w w1:World}(h:Rel base μ A w)(hb:Below w.heap.size w w1): Step base μ A w μ A w1:=by
 have hr:Rel base μ A w1:=by
  refine⟨Nat.le_trans h.iy hb.size,h.lt,fun f t p hp=>?_,h.inj,h.own,fun f F p hF hp=>(h.yC f F p hF hp).mono (fun _ _ _ h=>h) (hb.block _ (h.rd _ _ _ hp).1)⟩;obtain⟨a,b⟩:=h.rd f t p hp;exact⟨Nat.lt_of_lt_of_le a hb.size,b⟩
 exact⟨h,hr,fun _ _ _ h=>h,fun _ _ h=>⟨h,rfl⟩,Nat.le_refl _,fun _ t p h=>.inl ⟨t,p,h,rfl⟩,fun _ F h=>⟨F,h,rfl,Nat.le_refl _⟩,hb.os,hb.tape,hb.output,hb.size,fun b hlt _=>hb.block b hlt⟩
def vX(P:Program)(K:FuncId): Bool:=
 match (se P).get K with
 | some e=>e.fn.body.isSome
 | none=>false
theorem Er{P:Program}{K:FuncId}(hE:dD (CF P))(hb:vX P K=true)(hk:∀w,Calls P K #[] w fun e w'=>e=.returned (.bool true)∧Below w.heap.size w w'): dD (Ep P K):=by
 refine⟨hE.ty,hE.fn,hE.code,hE.mixed,hE.ext1,hE.ext2,fun f args v l h=>?_⟩;simp only[Ep,beq_eq] at h;by_cases e:f=K
 ·subst e;simp only[decide_true,cond_true] at h;split at h
  ·cases h;refine⟨?_,fun base μ A w cargs hr ha=>?_⟩
   ·unfold vX at hb;split at hb
    ·rename_i e he;obtain⟨c,hc⟩:=Option.isSome_iff_exists.1 hb;exact⟨e,c,he,hc⟩
    ·cases hb
   ·have hc:cargs=#[]:=Array.ext' ha.fH;subst hc;refine (hk w).mono ?_;rintro e w' ⟨rfl,hbl⟩;exact⟨_,μ,rfl,.bool true,Step.grow hr hbl⟩
  ·cases h
 ·simp [e] at h
end Go.AE
namespace Go.AE.R
open Go.AE
set_option linter.unusedVariables false
set_option linter.unusedSimpArgs false
variable[bu]
noncomputable section
def tget{α:Type}(t:Tr α): Nat→Option α:=
 Tr.rec (motive:=fun _=>Nat→Option α) (fun _=>none)
  (fun _ v _ ihl ihr k=>Nat.rec (motive:=fun _=>Option α) v
   (fun k _=>Bool.rec (motive:=fun _=>Option α) (ihr (Nat.div k 2)) (ihl (Nat.div k 2)) (Nat.beq (Nat.mod k 2) 0)) k) t
def tsetAt{α:Type}(x:α)(f:Nat): Tr α→Nat→Tr α:=
 Nat.rec (motive:=fun _=>Tr α→Nat→Tr α) (fun t _=>t)
  (fun _ ih t k=>Nat.rec (motive:=fun _=>Tr α)
   (Tr.rec (motive:=fun _=>Tr α) (.node .nil (some x) .nil) (fun l _ r _ _=>.node l (some x) r) t)
   (fun k _=>Tr.rec (motive:=fun _=>Tr α)
    (Bool.rec (motive:=fun _=>Tr α) (.node .nil none (ih .nil (Nat.div k 2))) (.node (ih .nil (Nat.div k 2)) none .nil) (Nat.beq (Nat.mod k 2) 0))
    (fun l v r _ _=>Bool.rec (motive:=fun _=>Tr α) (.node l v (ih r (Nat.div k 2))) (.node (ih l (Nat.div k 2)) v r) (Nat.beq (Nat.mod k 2) 0)) t) k) f
def tset{α:Type}(t:Tr α)(k:Nat)(x:α): Tr α:=tsetAt x (Nat.succ k) t k
def nth{α:Type}(l:List α): Nat→Option α:=
 List.rec (motive:=fun _=>Nat→Option α) (fun _=>none)
  (fun x _ ih n=>Nat.rec (motive:=fun _=>Option α) (some x) (fun n _=>ih n) n) l
def aB{α:Type}(n:Nat): List α→List α:=
 Nat.rec (motive:=fun _=>List α→List α) (fun l=>l)
  (fun _ ih l=>List.rec (motive:=fun _=>List α) [] (fun _ xs _=>ih xs) l) n
def CZ{α:Type}(x:α)(o:Option (List α)): Option (List α):=
 Option.rec (motive:=fun _=>Option (List α)) none (fun l=>some (x::l)) o
def takeN{α:Type}(n:Nat): List α→Option (List α):=
 Nat.rec (motive:=fun _=>List α→Option (List α)) (fun _=>some [])
  (fun _ ih l=>List.rec (motive:=fun _=>Option (List α)) none (fun x xs _=>CZ x (ih xs)) l) n
def over{α:Type}(xs:List α): List α→Option (List α):=
 List.rec (motive:=fun _=>List α→Option (List α)) (fun l=>some l)
  (fun x _ ih l=>List.rec (motive:=fun _=>Option (List α)) none (fun _ l _=>CZ x (ih l)) l) xs
def iL{α:Type}(n:Nat)(xs:List α): List α→Option (List α):=
 Nat.rec (motive:=fun _=>List α→Option (List α)) (fun l=>over xs l)
  (fun _ ih l=>List.rec (motive:=fun _=>Option (List α)) none (fun y l _=>CZ y (ih l)) l) n
def len{α:Type}(l:List α): Nat:=List.rec (motive:=fun _=>Nat) 0 (fun _ _ ih=>Nat.succ ih) l
def app{α:Type}(l r:List α): List α:=List.rec (motive:=fun _=>List α) r (fun x _ ih=>x::ih) l
def find(l:List (Nat×AV)): Nat→Option AV:=
 List.rec (motive:=fun _=>Nat→Option AV) (fun _=>none)
  (fun p _ ih t=>Prod.rec (motive:=fun _=>Option AV) (fun i v=>Bool.rec (motive:=fun _=>Option AV) (ih t) (some v) (Nat.beq i t)) p) l
def get(F:Fr)(t:Nat): Option AV:=
 Fr.rec (motive:=fun _=>Option AV) (fun mask loc var=>Bool.rec (motive:=fun _=>Option AV) (find loc t) (tget var t) (bit mask t)) F
def kH(E:Env)(s:TypeId)(i:Nat): Option Nat:=
 match E.cf.get s with
 | some d=>(match d.desc with
  | .struct fields=>(match AE.nth fields.toList i with
   | some fl=>(match E.cf.get fl.type with
    | some df=>bif Nat.ble 1 df.size then some fl.offset else none
    | none=>none)
   | none=>none)
  | _=>none)
 | none=>none
def za(x:AV): Env→TypeId→Nat→AW→gF:=
 AV.rec (motive_1:=fun _=>Env→TypeId→Nat→AW→gF) (motive_2:=fun _=>PUnit)
  (fun E s i A=>ao (aX E s (AV.undef) i A))
  (fun z0=>fun E s i A=>ao (aX E s (AV.bool z0) i A))
  (fun z0 z1=>fun E s i A=>ao (aX E s (AV.int z0 z1) i A))
  (fun z0 z1=>fun E s i A=>ao (aX E s (AV.float z0 z1) i A))
  (fun z0 z1 z2=>fun E s i A=>ao (aX E s (AV.dh z0 z1 z2) i A))
  (fun z0=>fun E s i A=>ao (aX E s (AV.str z0) i A))
  (fun E s i A=>ao (aX E s (AV.bJ) i A))
  (fun f t o=>fun E s i A=>Option.rec (motive:=fun _=>gF) (ao (aX E s (.ptr f t o) i A)) (fun off=>.val (.ptr f t (Nat.add o off)) A) (kH E s i))
  (fun E s i A=>ao (aX E s (AV.aj) i A))
  (fun z0=>fun E s i A=>ao (aX E s (AV.emp z0) i A))
  (fun z0 z1 z2 z3 z4 z5=>fun E s i A=>ao (aX E s (AV.slice z0 z1 z2 z3 z4 z5) i A))
  (fun E s i A=>ao (aX E s (AV.gC) i A))
  (fun z0=>fun E s i A=>ao (aX E s (AV.map z0) i A))
  (fun z0 z1 z2 _ _=>fun E s i A=>ao (aX E s (AV.func z0 z1 z2) i A))
  (fun E s i A=>ao (aX E s (AV.nilFunc) i A))
  (fun z0 _=>fun E s i A=>ao (aX E s (AV.agg z0) i A))
  (fun z0 _=>fun E s i A=>ao (aX E s (AV.tuple z0) i A))
  (fun z0 z1 z2=>fun E s i A=>ao (aX E s (AV.rest z0 z1 z2) i A))
  (fun z0 z1 z2=>fun E s i A=>ao (aX E s (AV.gZ z0 z1 z2) i A))
  (fun z0 z1 z2=>fun E s i A=>ao (aX E s (AV.ff z0 z1 z2) i A))
  (fun z0 z1 z2 z3=>fun E s i A=>ao (aX E s (AV.sym z0 z1 z2 z3) i A))
  (fun z0 z1=>fun E s i A=>ao (aX E s (AV.jV z0 z1) i A))
  (fun z0=>fun E s i A=>ao (aX E s (AV.neg z0) i A))
  (fun z0 z1=>fun E s i A=>ao (aX E s (AV.bits z0 z1) i A))
  (fun z0 z1=>fun E s i A=>ao (aX E s (AV.gD z0 z1) i A))
  (fun z0 z1 z2=>fun E s i A=>ao (aX E s (AV.tm z0 z1 z2) i A))
  (fun z0 z1=>fun E s i A=>ao (aX E s (AV.lB z0 z1) i A))
  (fun z0 z1 z2=>fun E s i A=>ao (aX E s (AV.least z0 z1 z2) i A))
  PUnit.unit (fun _ _ _ _=>PUnit.unit) x
omit [bu] in
theorem uz(E:Env)(s:TypeId)(x:AV)(i:Nat)(A:AW): za x E s i A=ao (aX E s x i A):=by
 cases x
 case ptr f t o=>
  show Option.rec (motive:=fun _=>gF) (ao (aX E s (.ptr f t o) i A)) (fun off=>.val (.ptr f t (Nat.add o off)) A) (kH E s i)=_;cases h:kH E s i with
  | none=>rfl
  | some off=>
   unfold kH at h;unfold aX;split at h
   ·rename_i d hd;split at h
    ·rename_i fields hf;split at h
     ·rename_i fl hfl;split at h
      ·rename_i df hdf;cases hb:Nat.ble 1 df.size<;>rw[hb] at h<;>simp only[cond_true,cond_false] at h<;>cases h;simp only[hd,hf,hfl,hdf,hb,cond_true,ao]
      ·cases h
     ·cases h
    ·cases h
   ·cases h
 all_goals rfl
def elemOf(E:Env)(t:TypeId): Option Nat:=
 match E.cf.get t with
 | some d=>(match d.desc with
  | .slice e=>(match E.cf.get e with
   | some de=>some de.size
   | none=>none)
  | _=>none)
 | none=>none
def xH(x:AV): Env→TypeId→IntKind→Nat→AW→gF:=
 AV.rec (motive_1:=fun _=>Env→TypeId→IntKind→Nat→AW→gF) (motive_2:=fun _=>PUnit)
  (fun E t k i A=>ao (aO E t (AV.undef) (.int k (.ofNat i)) A))
  (fun z0=>fun E t k i A=>ao (aO E t (AV.bool z0) (.int k (.ofNat i)) A))
  (fun z0 z1=>fun E t k i A=>ao (aO E t (AV.int z0 z1) (.int k (.ofNat i)) A))
  (fun z0 z1=>fun E t k i A=>ao (aO E t (AV.float z0 z1) (.int k (.ofNat i)) A))
  (fun z0 z1 z2=>fun E t k i A=>ao (aO E t (AV.dh z0 z1 z2) (.int k (.ofNat i)) A))
  (fun z0=>fun E t k i A=>ao (aO E t (AV.str z0) (.int k (.ofNat i)) A))
  (fun E t k i A=>ao (aO E t (AV.bJ) (.int k (.ofNat i)) A))
  (fun z0 z1 z2=>fun E t k i A=>ao (aO E t (AV.ptr z0 z1 z2) (.int k (.ofNat i)) A))
  (fun E t k i A=>ao (aO E t (AV.aj) (.int k (.ofNat i)) A))
  (fun z0=>fun E t k i A=>ao (aO E t (AV.emp z0) (.int k (.ofNat i)) A))
  (fun f s o n c e=>fun E t k i A=>Option.rec (motive:=fun _=>gF) (ao (aO E t (.slice f s o n c e) (.int k (.ofNat i)) A)) (fun sz=>Bool.rec (motive:=fun _=>gF) (.fail 70) (.val (.ptr f s (Nat.add o (Nat.mul i sz))) A) (Nat.blt i n)) (elemOf E t))
  (fun E t k i A=>ao (aO E t (AV.gC) (.int k (.ofNat i)) A))
  (fun z0=>fun E t k i A=>ao (aO E t (AV.map z0) (.int k (.ofNat i)) A))
  (fun z0 z1 z2 _ _=>fun E t k i A=>ao (aO E t (AV.func z0 z1 z2) (.int k (.ofNat i)) A))
  (fun E t k i A=>ao (aO E t (AV.nilFunc) (.int k (.ofNat i)) A))
  (fun z0 _=>fun E t k i A=>ao (aO E t (AV.agg z0) (.int k (.ofNat i)) A))
  (fun z0 _=>fun E t k i A=>ao (aO E t (AV.tuple z0) (.int k (.ofNat i)) A))
  (fun z0 z1 z2=>fun E t k i A=>ao (aO E t (AV.rest z0 z1 z2) (.int k (.ofNat i)) A))
  (fun z0 z1 z2=>fun E t k i A=>ao (aO E t (AV.gZ z0 z1 z2) (.int k (.ofNat i)) A))
  (fun z0 z1 z2=>fun E t k i A=>ao (aO E t (AV.ff z0 z1 z2) (.int k (.ofNat i)) A))
  (fun z0 z1 z2 z3=>fun E t k i A=>ao (aO E t (AV.sym z0 z1 z2 z3) (.int k (.ofNat i)) A))
  (fun z0 z1=>fun E t k i A=>ao (aO E t (AV.jV z0 z1) (.int k (.ofNat i)) A))
  (fun z0=>fun E t k i A=>ao (aO E t (AV.neg z0) (.int k (.ofNat i)) A))
  (fun z0 z1=>fun E t k i A=>ao (aO E t (AV.bits z0 z1) (.int k (.ofNat i)) A))
  (fun z0 z1=>fun E t k i A=>ao (aO E t (AV.gD z0 z1) (.int k (.ofNat i)) A))
  (fun z0 z1 z2=>fun E t k i A=>ao (aO E t (AV.tm z0 z1 z2) (.int k (.ofNat i)) A))
  (fun z0 z1=>fun E t k i A=>ao (aO E t (AV.lB z0 z1) (.int k (.ofNat i)) A))
  (fun z0 z1 z2=>fun E t k i A=>ao (aO E t (AV.least z0 z1 z2) (.int k (.ofNat i)) A))
  PUnit.unit (fun _ _ _ _=>PUnit.unit) x
def Da(i:AV): AV→Env→TypeId→AW→gF:=
 AV.rec (motive_1:=fun _=>AV→Env→TypeId→AW→gF) (motive_2:=fun _=>PUnit)
  (fun _ _ _ _=>.fail 75)
  (fun z0=>fun _ _ _ _=>.fail 75)
  (fun k n=>fun x E t A=>Int.rec (motive:=fun _=>gF) (fun i=>xH x E t k i A) (fun _=>.fail 75) n)
  (fun z0 z1=>fun _ _ _ _=>.fail 75)
  (fun z0 z1 z2=>fun _ _ _ _=>.fail 75)
  (fun z0=>fun _ _ _ _=>.fail 75)
  (fun _ _ _ _=>.fail 75)
  (fun z0 z1 z2=>fun _ _ _ _=>.fail 75)
  (fun _ _ _ _=>.fail 75)
  (fun z0=>fun _ _ _ _=>.fail 75)
  (fun z0 z1 z2 z3 z4 z5=>fun _ _ _ _=>.fail 75)
  (fun _ _ _ _=>.fail 75)
  (fun z0=>fun _ _ _ _=>.fail 75)
  (fun z0 z1 z2 _ _=>fun _ _ _ _=>.fail 75)
  (fun _ _ _ _=>.fail 75)
  (fun z0 _=>fun _ _ _ _=>.fail 75)
  (fun z0 _=>fun _ _ _ _=>.fail 75)
  (fun z0 z1 z2=>fun _ _ _ _=>.fail 75)
  (fun z0 z1 z2=>fun _ _ _ _=>.fail 75)
  (fun z0 z1 z2=>fun _ _ _ _=>.fail 75)
  (fun z0 z1 z2 z3=>fun _ _ _ _=>.fail 75)
  (fun z0 z1=>fun _ _ _ _=>.fail 75)
  (fun z0=>fun _ _ _ _=>.fail 75)
  (fun z0 z1=>fun _ _ _ _=>.fail 75)
  (fun z0 z1=>fun _ _ _ _=>.fail 75)
  (fun z0 z1 z2=>fun _ _ _ _=>.fail 75)
  (fun z0 z1=>fun _ _ _ _=>.fail 75)
  (fun z0 z1 z2=>fun _ _ _ _=>.fail 75)
  PUnit.unit (fun _ _ _ _=>PUnit.unit) i
omit [bu] in
theorem xI(E:Env)(t:TypeId)(x:AV)(k:IntKind)(i:Nat)(A:AW): xH x E t k i A=ao (aO E t x (.int k (.ofNat i)) A):=by
 cases x
 case slice f s o n c e=>
  show Option.rec (motive:=fun _=>gF) (ao (aO E t (.slice f s o n c e) (.int k (.ofNat i)) A)) _ (elemOf E t)=_;cases h:elemOf E t with
  | none=>rfl
  | some sz=>
   unfold elemOf at h;unfold aO;split at h
   ·rename_i d hd;split at h
    ·rename_i e hf;split at h
     ·rename_i de hde;cases h;simp only[hd,hf,hde];cases Nat.blt i n<;>rfl
     ·cases h
    ·cases h
   ·cases h
 all_goals rfl
omit [bu] in
theorem xJ(E:Env)(t:TypeId)(x i:AV)(A:AW): Da i x E t A=ao (aO E t x i A):=by
 cases i
 case int k n=>
  cases n with
  | ofNat n=>exact xI E t x k n A
  | negSucc n=>rfl
 all_goals rfl
def hasB(E:Env)(f:FuncId): Bool:=
 match E.fns.get f with
 | some e=>(match e.fn.body with
  | some _=>true
  | none=>false)
 | none=>false
def vY(E:Env)(f:FuncId)(args:List AV)(A:AW): gF:=
 Option.rec (motive:=fun _=>gF)
  (Bool.rec (motive:=fun _=>gF) (gH E f args A) (.enter f args) (hasB E f))
  (fun p=>Prod.rec (motive:=fun _=>gF) (fun v l=>.val (vC A.aa v) (oD A.aa l A)) p) (E.uo f args)
omit [bu] in
theorem uR(E:Env)(f:FuncId)(args:List AV)(A:AW): vY E f args A=gH E f args A:=by
 unfold vY;cases h:E.uo f args with
 | some p=>simp only[gH,h]
 | none=>
  show Bool.rec (motive:=fun _=>gF) (gH E f args A) (.enter f args) (hasB E f)=_;cases hb:hasB E f with
  | false=>rfl
  | true=>
   unfold hasB at hb;simp only[gH,h];split at hb
   ·rename_i e he;split at hb
    ·rename_i c hc;simp only[he,hc]
    ·cases hb
   ·cases hb
def gM(E:Env)(t:TypeId): Nat:=
 match E.cf.get t with
 | some d=>(match d.desc with
  | .string=>1
  | .slice _=>2
  | _=>0)
 | none=>0
def lenF(x:AV): Env→TypeId→AW→gF:=
 AV.rec (motive_1:=fun _=>Env→TypeId→AW→gF) (motive_2:=fun _=>PUnit)
  (fun E t A=>ao (eo E t (AV.undef) A))
  (fun z0=>fun E t A=>ao (eo E t (AV.bool z0) A))
  (fun z0 z1=>fun E t A=>ao (eo E t (AV.int z0 z1) A))
  (fun z0 z1=>fun E t A=>ao (eo E t (AV.float z0 z1) A))
  (fun z0 z1 z2=>fun E t A=>ao (eo E t (AV.dh z0 z1 z2) A))
  (fun s=>fun E t A=>Bool.rec (motive:=fun _=>gF) (ao (eo E t (.str s) A)) (.val (.int .i64 (.ofNat (len s))) A) (Nat.beq (gM E t) 1))
  (fun E t A=>ao (eo E t (AV.bJ) A))
  (fun z0 z1 z2=>fun E t A=>ao (eo E t (AV.ptr z0 z1 z2) A))
  (fun E t A=>ao (eo E t (AV.aj) A))
  (fun z0=>fun E t A=>ao (eo E t (AV.emp z0) A))
  (fun f s o n c e=>fun E t A=>Bool.rec (motive:=fun _=>gF) (ao (eo E t (.slice f s o n c e) A)) (.val (.int .i64 (.ofNat n)) A) (Nat.beq (gM E t) 2))
  (fun E t A=>ao (eo E t (AV.gC) A))
  (fun z0=>fun E t A=>ao (eo E t (AV.map z0) A))
  (fun z0 z1 z2 _ _=>fun E t A=>ao (eo E t (AV.func z0 z1 z2) A))
  (fun E t A=>ao (eo E t (AV.nilFunc) A))
  (fun z0 _=>fun E t A=>ao (eo E t (AV.agg z0) A))
  (fun z0 _=>fun E t A=>ao (eo E t (AV.tuple z0) A))
  (fun z0 z1 z2=>fun E t A=>ao (eo E t (AV.rest z0 z1 z2) A))
  (fun z0 z1 z2=>fun E t A=>ao (eo E t (AV.gZ z0 z1 z2) A))
  (fun z0 z1 z2=>fun E t A=>ao (eo E t (AV.ff z0 z1 z2) A))
  (fun z0 z1 z2 z3=>fun E t A=>ao (eo E t (AV.sym z0 z1 z2 z3) A))
  (fun z0 z1=>fun E t A=>ao (eo E t (AV.jV z0 z1) A))
  (fun z0=>fun E t A=>ao (eo E t (AV.neg z0) A))
  (fun z0 z1=>fun E t A=>ao (eo E t (AV.bits z0 z1) A))
  (fun z0 z1=>fun E t A=>ao (eo E t (AV.gD z0 z1) A))
  (fun z0 z1 z2=>fun E t A=>ao (eo E t (AV.tm z0 z1 z2) A))
  (fun z0 z1=>fun E t A=>ao (eo E t (AV.lB z0 z1) A))
  (fun z0 z1 z2=>fun E t A=>ao (eo E t (AV.least z0 z1 z2) A))
  PUnit.unit (fun _ _ _ _=>PUnit.unit) x
def len1(args:List AV): Env→List TypeId→AW→gF:=
 List.rec (motive:=fun _=>Env→List TypeId→AW→gF) (fun _ _ _=>.fail 120)
  (fun x l _ E ts A=>List.rec (motive:=fun _=>gF) (.fail 120) (fun t _ _=>lenF x E t A) ts) args
def apInf(E:Env)(ts:List TypeId): Option (Nat×Nat):=
 match ts with
 | [t,t']=>(match E.cf.get t' with
  | some d'=>(match d'.desc with
   | .slice _=>(match E.cf.get t with
    | some d=>(match d.desc with
     | .slice e=>(match E.cf.get e with
      | some de=>(match de.zero with
       | some _=>bif Nat.ble 1 de.size then some (de.size,de.bytes) else none
       | none=>none)
      | none=>none)
     | _=>none)
    | none=>none)
   | _=>none)
  | none=>none)
 | _=>none
def rowC(f u o n c es bytes m:Nat)(ex:Bool)(xs:List AV)(A:AW)(fg:eI): gF:=
 eI.rec (motive:=fun _=>gF) (fun cur ro es' cs=>Bool.rec (motive:=fun _=>gF) (.fail 107)
  (Bool.rec (motive:=fun _=>gF)
   (Bool.rec (motive:=fun _=>gF) (.fail 105)
    (Bool.rec (motive:=fun _=>gF)
     (Bool.rec (motive:=fun _=>gF)
      (Option.rec (motive:=fun _=>gF) (.fail 104) (fun old=>.val (.slice f (Nat.succ u) o (Nat.add n m) (Nat.add n m) false) ⟨tset A.heap f (.cells (Nat.succ u) false es (app old xs)),A.aa⟩) (takeN (Nat.add o (Nat.mul n es)) cs))
      (.fail 102) ro)
     (Option.rec (motive:=fun _=>gF) (.fail 104) (fun old=>.val (.slice A.aa 0 0 (Nat.add n m) (Nat.add n m) false) ⟨tset A.heap A.aa (.cells 0 false es (app old xs)),Nat.succ A.aa⟩) (takeN (Nat.mul n es) (aB o cs)))
     ex) (eL (Nat.add n m) bytes))
   (Bool.rec (motive:=fun _=>gF)
    (Option.rec (motive:=fun _=>gF) (.fail 103) (fun cs=>.val (.slice f u o (Nat.add n m) c ex) ⟨tset A.heap f (.cells cur ro es cs),A.aa⟩) (iL (Nat.add o (Nat.mul n es)) xs cs))
    (.fail 102) ro) (Nat.ble (Nat.add n m) c)) (Nat.beq cur u && Nat.beq es' es)) (fun _=>.fail 108) fg
def rowF(f u o n c es bytes m:Nat)(ex:Bool)(xs:List AV)(A:AW): gF:=
 Option.rec (motive:=fun _=>gF) (.fail 108) (fun fg=>rowC f u o n c es bytes m ex xs A fg) (tget A.heap f)
def cellsC(s o n:Nat)(fg:eI): Option (List AV):=
 eI.rec (motive:=fun _=>Option (List AV)) (fun cur _ _ cs=>Bool.rec (motive:=fun _=>Option (List AV)) none (takeN n (aB o cs)) (Nat.beq cur s)) (fun _=>none) fg
def cellsF(A:AW)(f s o n:Nat): Option (List AV):=
 Option.rec (motive:=fun _=>Option (List AV)) none (fun fg=>cellsC s o n fg) (tget A.heap f)
def apS(s:AV): Env→List TypeId→AV→Nat→Nat→Nat→List AV→AW→gF:=
 AV.rec (motive_1:=fun _=>Env→List TypeId→AV→Nat→Nat→Nat→List AV→AW→gF) (motive_2:=fun _=>PUnit)
  (fun E ts x size bytes m xs A=>ao (aH E .append ts [(AV.undef),x] A))
  (fun z0=>fun E ts x size bytes m xs A=>ao (aH E .append ts [(AV.bool z0),x] A))
  (fun z0 z1=>fun E ts x size bytes m xs A=>ao (aH E .append ts [(AV.int z0 z1),x] A))
  (fun z0 z1=>fun E ts x size bytes m xs A=>ao (aH E .append ts [(AV.float z0 z1),x] A))
  (fun z0 z1 z2=>fun E ts x size bytes m xs A=>ao (aH E .append ts [(AV.dh z0 z1 z2),x] A))
  (fun z0=>fun E ts x size bytes m xs A=>ao (aH E .append ts [(AV.str z0),x] A))
  (fun E ts x size bytes m xs A=>ao (aH E .append ts [(AV.bJ),x] A))
  (fun z0 z1 z2=>fun E ts x size bytes m xs A=>ao (aH E .append ts [(AV.ptr z0 z1 z2),x] A))
  (fun E ts x size bytes m xs A=>ao (aH E .append ts [(AV.aj),x] A))
  (fun z0=>fun E ts x size bytes m xs A=>ao (aH E .append ts [(AV.emp z0),x] A))
  (fun f u o n c ex=>fun E ts x size bytes m xs A=>rowF f u o n c size bytes m ex xs A)
  (fun E ts x size bytes m xs A=>ao (aH E .append ts [(AV.gC),x] A))
  (fun z0=>fun E ts x size bytes m xs A=>ao (aH E .append ts [(AV.map z0),x] A))
  (fun z0 z1 z2 _ _=>fun E ts x size bytes m xs A=>ao (aH E .append ts [(AV.func z0 z1 z2),x] A))
  (fun E ts x size bytes m xs A=>ao (aH E .append ts [(AV.nilFunc),x] A))
  (fun z0 _=>fun E ts x size bytes m xs A=>ao (aH E .append ts [(AV.agg z0),x] A))
  (fun z0 _=>fun E ts x size bytes m xs A=>ao (aH E .append ts [(AV.tuple z0),x] A))
  (fun z0 z1 z2=>fun E ts x size bytes m xs A=>ao (aH E .append ts [(AV.rest z0 z1 z2),x] A))
  (fun z0 z1 z2=>fun E ts x size bytes m xs A=>ao (aH E .append ts [(AV.gZ z0 z1 z2),x] A))
  (fun z0 z1 z2=>fun E ts x size bytes m xs A=>ao (aH E .append ts [(AV.ff z0 z1 z2),x] A))
  (fun z0 z1 z2 z3=>fun E ts x size bytes m xs A=>ao (aH E .append ts [(AV.sym z0 z1 z2 z3),x] A))
  (fun z0 z1=>fun E ts x size bytes m xs A=>ao (aH E .append ts [(AV.jV z0 z1),x] A))
  (fun z0=>fun E ts x size bytes m xs A=>ao (aH E .append ts [(AV.neg z0),x] A))
  (fun z0 z1=>fun E ts x size bytes m xs A=>ao (aH E .append ts [(AV.bits z0 z1),x] A))
  (fun z0 z1=>fun E ts x size bytes m xs A=>ao (aH E .append ts [(AV.gD z0 z1),x] A))
  (fun z0 z1 z2=>fun E ts x size bytes m xs A=>ao (aH E .append ts [(AV.tm z0 z1 z2),x] A))
  (fun z0 z1=>fun E ts x size bytes m xs A=>ao (aH E .append ts [(AV.lB z0 z1),x] A))
  (fun z0 z1 z2=>fun E ts x size bytes m xs A=>ao (aH E .append ts [(AV.least z0 z1 z2),x] A))
  PUnit.unit (fun _ _ _ _=>PUnit.unit) s
def apX(x:AV): Env→List TypeId→AV→Nat→Nat→AW→gF:=
 AV.rec (motive_1:=fun _=>Env→List TypeId→AV→Nat→Nat→AW→gF) (motive_2:=fun _=>PUnit)
  (fun E ts sv size bytes A=>ao (aH E .append ts [sv,(AV.undef)] A))
  (fun z0=>fun E ts sv size bytes A=>ao (aH E .append ts [sv,(AV.bool z0)] A))
  (fun z0 z1=>fun E ts sv size bytes A=>ao (aH E .append ts [sv,(AV.int z0 z1)] A))
  (fun z0 z1=>fun E ts sv size bytes A=>ao (aH E .append ts [sv,(AV.float z0 z1)] A))
  (fun z0 z1 z2=>fun E ts sv size bytes A=>ao (aH E .append ts [sv,(AV.dh z0 z1 z2)] A))
  (fun z0=>fun E ts sv size bytes A=>ao (aH E .append ts [sv,(AV.str z0)] A))
  (fun E ts sv size bytes A=>ao (aH E .append ts [sv,(AV.bJ)] A))
  (fun z0 z1 z2=>fun E ts sv size bytes A=>ao (aH E .append ts [sv,(AV.ptr z0 z1 z2)] A))
  (fun E ts sv size bytes A=>ao (aH E .append ts [sv,(AV.aj)] A))
  (fun z0=>fun E ts sv size bytes A=>ao (aH E .append ts [sv,(AV.emp z0)] A))
  (fun f s o n c e=>fun E ts sv size bytes A=>Bool.rec (motive:=fun _=>gF) (Option.rec (motive:=fun _=>gF) (ao (aH E .append ts [sv,.slice f s o n c e] A)) (fun xs=>apS sv E ts (.slice f s o n c e) size bytes n xs A) (cellsF A f s o (Nat.mul n size))) (ao (aH E .append ts [sv,.slice f s o n c e] A)) (Nat.beq n 0))
  (fun E ts sv size bytes A=>ao (aH E .append ts [sv,(AV.gC)] A))
  (fun z0=>fun E ts sv size bytes A=>ao (aH E .append ts [sv,(AV.map z0)] A))
  (fun z0 z1 z2 _ _=>fun E ts sv size bytes A=>ao (aH E .append ts [sv,(AV.func z0 z1 z2)] A))
  (fun E ts sv size bytes A=>ao (aH E .append ts [sv,(AV.nilFunc)] A))
  (fun z0 _=>fun E ts sv size bytes A=>ao (aH E .append ts [sv,(AV.agg z0)] A))
  (fun z0 _=>fun E ts sv size bytes A=>ao (aH E .append ts [sv,(AV.tuple z0)] A))
  (fun z0 z1 z2=>fun E ts sv size bytes A=>ao (aH E .append ts [sv,(AV.rest z0 z1 z2)] A))
  (fun z0 z1 z2=>fun E ts sv size bytes A=>ao (aH E .append ts [sv,(AV.gZ z0 z1 z2)] A))
  (fun z0 z1 z2=>fun E ts sv size bytes A=>ao (aH E .append ts [sv,(AV.ff z0 z1 z2)] A))
  (fun z0 z1 z2 z3=>fun E ts sv size bytes A=>ao (aH E .append ts [sv,(AV.sym z0 z1 z2 z3)] A))
  (fun z0 z1=>fun E ts sv size bytes A=>ao (aH E .append ts [sv,(AV.jV z0 z1)] A))
  (fun z0=>fun E ts sv size bytes A=>ao (aH E .append ts [sv,(AV.neg z0)] A))
  (fun z0 z1=>fun E ts sv size bytes A=>ao (aH E .append ts [sv,(AV.bits z0 z1)] A))
  (fun z0 z1=>fun E ts sv size bytes A=>ao (aH E .append ts [sv,(AV.gD z0 z1)] A))
  (fun z0 z1 z2=>fun E ts sv size bytes A=>ao (aH E .append ts [sv,(AV.tm z0 z1 z2)] A))
  (fun z0 z1=>fun E ts sv size bytes A=>ao (aH E .append ts [sv,(AV.lB z0 z1)] A))
  (fun z0 z1 z2=>fun E ts sv size bytes A=>ao (aH E .append ts [sv,(AV.least z0 z1 z2)] A))
  PUnit.unit (fun _ _ _ _=>PUnit.unit) x
def apA(args:List AV): Env→List TypeId→AW→gF:=
 match args with
 | [sv,x]=>fun E ts A=>Option.rec (motive:=fun _=>gF) (ao (aH E .append ts [sv,x] A)) (fun p=>Prod.rec (motive:=fun _=>gF) (fun size bytes=>apX x E ts sv size bytes A) p) (apInf E ts)
 | args=>fun E ts A=>ao (aH E .append ts args A)
end
end Go.AE.R
