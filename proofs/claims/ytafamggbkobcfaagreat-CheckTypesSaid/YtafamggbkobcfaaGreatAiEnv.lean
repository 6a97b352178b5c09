/- A part of the proof of the statement CheckTypes. -/
import Derived.Test.YtafamggbkobcfaaGreatAiFast
import Derived.Test.YtafamggbkobcfaaGreatAiOps
import Derived.Test.YtafamggbkobcfaaGreatProg
namespace Go.AE.R
open Go.AE Go.RowKit
set_option linter.unusedVariables false
set_option linter.unusedSimpArgs false
variable[bu]
noncomputable section
def blt(b:Builtin)(cf:List TypeId)(args:List AV)(E:Env)(A:AW): gF:=
 Bool.rec (motive:=fun _=>gF) (Bool.rec (motive:=fun _=>gF) (ao (aH E b cf args A)) (apA args E cf A)
  (Builtin.rec (motive:=fun _=>Bool) true false false false false false false false false false false false false false false false false false false false false false false false false false b)) (len1 args E cf A) (Builtin.rec (motive:=fun _=>Bool) false false false false false false false false true false false false false false false false false false false false false false false false false false b)
end
end Go.AE.R
namespace Go.AE
set_option linter.unusedVariables false
def CallV(E:Env)(f:FuncId)(args:List AV)(A:AW)(v:AV)(A':AW): Prop:=∃n0,∀n,n0≤n→call E n f args A=.val v A'
def aD(E:Env)(f:FuncId)(args:List AV)(A:AW)(Q:AV→AW→Prop): Prop:=∃v A',Q v A'∧CallV E f args A v A'
def Rets(E:Env)(C:bC)(todo:List Item)(F:Fr)(A:AW)(F':Fr)(A':AW): Prop:=∃n0,∀n,n0≤n→go E n C todo F A=.ret F' A'
def OneV(E:Env)(N:Nat)(all:List Oper)(o:Oper)(F:Fr)(A:AW)(F':Fr)(A':AW): Prop:=
 ∃n0,∀n,n0≤n→kn E (fun f args A=>gI E f args A (go E n)) N all o F A=.ok F' A'
def Es(E:Env)(N:Nat)(all l:List Oper)(F:Fr)(A:AW)(F':Fr)(A':AW): Prop:=
 ∃n0,∀n,n0≤n→oE E (fun f args A=>gI E f args A (go E n)) N all l F A=.ok F' A'
theorem aD.mono{E:Env}{f:FuncId}{args:List AV}{A:AW}{Q Q':AV→AW→Prop}(h:aD E f args A Q)(hq:∀v A',Q v A'→Q' v A'): aD E f args A Q':=by
 obtain⟨v,A',q,c⟩:=h;exact⟨v,A',hq _ _ q,c⟩
inductive Kn where
 | nil
 | put (t:Nat) (v:AV) (k:Kn)
 | clr (m:Nat) (k:Kn)
def Kn.find:Kn→Nat→Option AV
 | .nil,_=>none
 | .put t v k,j=>bif Nat.beq t j then some v else k.find j
 | .clr m k,j=>bif bit m j then k.find j else none
def Kn.le:Kn→Kn→Prop
 | .nil,_=>True
 | .put t v k,l=>l.find t=some v∧k.le l
 | .clr _ _,_=>False
structure Kf (C:bC) (l:Kn) (F:Fr) : Prop where
 mask:F.mask=C.mask
 get:∀t v,l.find t=some v→F.get t=some v
def dw(l:Kn): Operand→Option AV
 | .tmp t=>l.find t
 | .const v=>some (ofConst v)
 | .global _=>none
 | .func f=>some (.func f [] [])
def vZ(l:Kn): List Operand→Option (List AV)
 | []=>some []
 | x::xs=>match dw l x,vZ l xs with
  | some v,some vs=>some (v::vs)
  | _,_=>none
def td(l:Kn): List (Nat×Operand)→Option (List (Nat×AV))
 | []=>some []
 | (i,x)::xs=>match dw l x,td l xs with
  | some v,some vs=>some ((i,v)::vs)
  | _,_=>none
section
variable{C:bC}{l:Kn}{F:Fr}
theorem Kf.ev(h:Kf C l F){x:Operand}{v:AV}(hx:dw l x=some v): AE.ev F x=v:=by
 cases x with
 | tmp t=>
  show (match F.get t with
   | some v=>v
   | none=>AV.undef)=v
  rw[h.get t v hx]
 | const w=>exact Option.some.inj hx
 | global g=>cases hx
 | func f=>exact Option.some.inj hx
theorem Kf.qH(h:Kf C l F): ∀{xs:List Operand} {vs:List AV},vZ l xs=some vs→AE.qH F xs=vs
 | [],vs,hx=>Option.some.inj hx
 | x::xs,vs,hx=>by
  simp only[vZ] at hx;split at hx
  ·rename_i v ws hv hws;cases hx;show AE.ev F x::AE.qH F xs=_;rw[h.ev hv,h.qH hws]
  ·cases hx
theorem Kf.parts(h:Kf C l F): ∀{xs:List (Nat×Operand)} {vs:List (Nat×AV)},td l xs=some vs→fV F xs=vs
 | [],vs,hx=>Option.some.inj hx
 | (i,x)::xs,vs,hx=>by
  simp only[td] at hx;split at hx
  ·rename_i v ws hv hws;cases hx;show (i,AE.ev F x)::fV F xs=_;rw[h.ev hv,h.parts hws]
  ·cases hx
theorem Kf.set(h:Kf C l F)(t:Nat)(v:AV): Kf C (.put t v l) (F.set t v):=by
 refine⟨?_,fun j w hj=>?_⟩
 ·unfold Fr.set;cases bit F.mask t<;>exact h.mask
 ·rw[Fr.dQ];simp only[Kn.find] at hj;cases hb:Nat.beq t j<;>rw[hb] at hj
  ·have:j≠t:=fun e=>by subst e;rw[Nat.beq_refl] at hb;cases hb
   rw[if_neg this];exact h.get j w hj
  ·have:=Nat.eq_of_beq_eq_true hb;rw[if_pos this.symm];exact hj
theorem Kf.clear(h:Kf C l F): Kf C (.clr C.mask l) F.clear:=by
 refine⟨h.mask,fun j w hj=>?_⟩;simp only[Kn.find] at hj;cases hb:bit C.mask j<;>rw[hb] at hj
 ·cases hj
 ·have:=h.get j w hj;rw[←h.mask] at hb;unfold Fr.get Fr.clear at *;simp only[hb,cond_true] at this ⊢;exact this
theorem Kf.le(h:Kf C l F): ∀{k:Kn},k.le l→Kf C k F
 | .nil,_=>⟨h.mask,fun t v hv=>by cases hv⟩
 | .put t v k,hk=>by
  have:=h.le (k:=k) hk.2;refine⟨h.mask,fun j w hj=>?_⟩;simp only[Kn.find] at hj;cases hb:Nat.beq t j<;>rw[hb] at hj
  ·exact this.get j w hj
  ·cases hj;rw[←Nat.eq_of_beq_eq_true hb];exact h.get t _ hk.1
 | .clr _ _,hk=>hk.elim
end
structure WG (E:Env) (C:bC) (todo:List Item) (l:Kn) (A:AW) (R:AV→AW→Prop) : Prop where
 run:∀F,Kf C l F→∃F' A' v,wY E C.fn (.ret F' A')=.val v A'∧R v A'∧Rets E C todo F A F' A'
structure WO (E:Env) (C:bC) (all ops:List Oper) (l:Kn) (A:AW) (K:Kn→AW→Prop) : Prop where
 run:∀F,Kf C l F→∃F1 A1 l1,Kf C l1 F1∧K l1 A1∧Es E C.N all ops F A F1 A1
section
variable{E:Env}{C:bC}{k:List Item}{l:Kn}{A:AW}{R:AV→AW→Prop}
theorem bY{todo:List Item}(l':Kn)(h:WG E C todo l' A R)(hl:l'.le l): WG E C todo l A R:=⟨fun F hF=>h.run F (hF.le hl)⟩
theorem BK{todo todo':List Item}{F F':Fr}{A':AW}(hs:∀n,go E (n+1) C todo F A=go E n C todo' F A)(h:Rets E C todo' F A F' A'): Rets E C todo F A F' A':=by
 obtain⟨n0,h⟩:=h;refine⟨n0+1,fun n hn=>?_⟩;obtain⟨m,rfl⟩:∃m,n=m+1:=⟨n-1,by omega⟩;rw[hs];exact h m (by omega)
theorem fL{todo todo':List Item}(hs:∀F n,Kf C l F→go E (n+1) C todo F A=go E n C todo' F A)(h:WG E C todo' l A R): WG E C todo l A R:=⟨fun F hF=>by
 obtain⟨F',A',v,ho,r,hr⟩:=h.run F hF;exact⟨F',A',v,ho,r,BK (fun n=>hs F n hF) hr⟩⟩
theorem ld{a b:Code}(h:WG E C (.code a::.code b::k) l A R): WG E C (.code (.seq a b)::k) l A R:=fL (fun _ _ _=>rfl) h
theorem jd(h:WG E C k l A R): WG E C (.code .skip::k) l A R:=fL (fun _ _ _=>rfl) h
theorem lZ{n:Nat}(h:WG E C k l A R): WG E C (.code (.label n)::k) l A R:=fL (fun _ _ _=>rfl) h
theorem ma{id:Nat}{c:Code}(h:WG E C (.code c::.inBlock id::k) l A R): WG E C (.code (.block id c)::k) l A R:=fL (fun _ _ _=>rfl) h
theorem aE{c:Code}(h:WG E C (.code c::.inLoop c::k) l A R): WG E C (.code (.loop c)::k) l A R:=fL (fun _ _ _=>rfl) h
theorem te{c:Code}(h:WG E C (.code c::.inScope c::k) l A R): WG E C (.code (.scope c)::k) l A R:=fL (fun _ _ _=>rfl) h
theorem nW{id:Nat}(h:WG E C k l A R): WG E C (.inBlock id::k) l A R:=fL (fun _ _ _=>rfl) h
theorem nX{c:Code}(h:WG E C k l A R): WG E C (.inScope c::k) l A R:=fL (fun _ _ _=>rfl) h
theorem ai{c:Code}(h:WG E C (.code c::.inLoop c::k) l A R): WG E C (.inLoop c::k) l A R:=fL (fun _ _ _=>rfl) h
theorem lf{c:Operand}{a b:Code}(hc:dw l c=some (.bool true))(h:WG E C (.code a::k) l A R): WG E C (.code (.cond c a b)::k) l A R:=
 fL (fun F n hF=>by
  show (match ev F c with
   | .bool true=>go E n C (.code a::k) F A
   | .bool false=>go E n C (.code b::k) F A
   | _=>.fail 191)=_
  rw[hF.ev hc]) h
theorem da{c:Operand}{a b:Code}(hc:dw l c=some (.bool false))(h:WG E C (.code b::k) l A R): WG E C (.code (.cond c a b)::k) l A R:=
 fL (fun F n hF=>by
  show (match ev F c with
   | .bool true=>go E n C (.code a::k) F A
   | .bool false=>go E n C (.code b::k) F A
   | _=>.fail 191)=_
  rw[hF.ev hc]) h
theorem fh{c:Operand}{a b:Code}{x:Bool}(hc:dw l c=some (.bool x))(h1:x=true→WG E C (.code a::k) l A R)(h2:x=false→WG E C (.code b::k) l A R): WG E C (.code (.cond c a b)::k) l A R:=by
 cases x
 ·exact da hc (h2 rfl)
 ·exact lf hc (h1 rfl)
theorem cD{c:Operand}{a b:Code}{p:Prop}[Decidable p](hc:dw l c=some (.bool (decide p)))(h1:p→WG E C (.code a::k) l A R)(h2:¬p→WG E C (.code b::k) l A R): WG E C (.code (.cond c a b)::k) l A R:=
 fh hc (fun h=>h1 (of_decide_eq_true h)) (fun h=>h2 (of_decide_eq_false h))
theorem ay{id:Nat}{k':List Item}(he:exitTo id k=some k')(h:WG E C k' l A R): WG E C (.code (.exit id)::k) l A R:=
 fL (fun F n _=>by
  show (match exitTo id k with
   | some k'=>go E n C k' F A
   | none=>.fail 192)=_
  rw[he]) h
theorem oZ{n:Nat}{k':List Item}(he:gotoIn n k=some k')(h:WG E C k' l A R): WG E C (.code (.goto n)::k) l A R:=
 fL (fun F m _=>by
  show (match gotoIn n k with
   | some k'=>go E m C k' F A
   | none=>.fail 193)=_
  rw[he]) h
theorem ik{id:Nat}{ops:Array Oper}(h:WO E C ops.toList ops.toList l A fun l1 A1=>WG E C k (.clr C.mask l1) A1 R): WG E C (.code (.region id ops false)::k) l A R:=⟨fun F hF=>by
 obtain⟨F1,A1,l1,hF1,hk,n1,hr⟩:=h.run F hF;obtain⟨F',A',v,ho,r,n0,h⟩:=hk.run _ hF1.clear;refine⟨F',A',v,ho,r,n0+n1+1,fun n hn=>?_⟩;obtain⟨m,rfl⟩:∃m,n=m+1:=⟨n-1,by omega⟩;show (match Br E C (fun f args A=>gI E f args A (go E m)) id ops.toList false F A with
  | .ok F A=>go E m C k F.clear A
  | .fail m=>.fail m)=_
 have:=hr m (by omega);simp only[Br,cond_false];rw[this];exact h m (by omega)⟩
theorem bX{id:Nat}{ops:Array Oper}(l':Kn)(h1:WO E C ops.toList ops.toList l A fun l1 A1=>A1=A∧l'.le (.clr C.mask l1))(h2:WG E C k l' A R): WG E C (.code (.region id ops false)::k) l A R:=
 ik ⟨fun F hF=>by
  obtain⟨F1,A1,l1,hF1,⟨rfl,hl⟩,ho⟩:=h1.run F hF;exact⟨F1,A1,l1,hF1,bY l' h2 hl,ho⟩⟩
theorem ce{c:Code}(Φ:Kn→AW→Prop)(h1:∀k',(∀l1 A1,Φ l1 A1→WG E C k' l1 A1 R)→WG E C (.code c::k') l A R)(h2:∀l1 A1,Φ l1 A1→WG E C k l1 A1 R): WG E C (.code c::k) l A R:=h1 k h2
def Db(l:Kn): List ResultVar→Option (List AV)
 | []=>some []
 | .tmp t::rs=>match l.find t,Db l rs with
  | some v,some vs=>some (v::vs)
  | _,_=>none
 | .cell _ _::_=>none
def Dc:List AV→AV
 | [v]=>v
 | vs=>.tuple vs
theorem Kf.res{F:Fr}(h:Kf C l F): ∀{rs:List ResultVar} {vs:List AV},Db l rs=some vs→dl E F A rs=some vs
 | [],vs,hx=>hx
 | .tmp t::rs,vs,hx=>by
  simp only[Db] at hx;split at hx
  ·rename_i v ws hv hws;cases hx;simp only[dl,ic,h.get t v hv,h.res hws]
  ·cases hx
 | .cell _ _::_,vs,hx=>by cases hx
theorem tf{fn:Func}{F:Fr}{vs:List AV}(h:dl E F A fn.results.toList=some vs): wY E fn (.ret F A)=.val (Dc vs) A:=by
 unfold wY;simp only[h]
 match vs with
 | []=>rfl
 | [v]=>rfl
 | _::_::_=>rfl
theorem bd{vs:List AV}(hr:Db l C.fn.results.toList=some vs)(h:R (Dc vs) A): WG E C [] l A R:=⟨fun F hF=>
 ⟨F,A,Dc vs,tf (hF.res hr),h,1,fun n hn=>by
  obtain⟨m,rfl⟩:∃m,n=m+1:=⟨n-1,by omega⟩;rfl⟩⟩
theorem af{vs:List AV}(hr:Db l C.fn.results.toList=some vs)(h:R (Dc vs) A): WG E C (.code .ret::k) l A R:=⟨fun F hF=>
 ⟨F,A,Dc vs,tf (hF.res hr),h,1,fun n hn=>by
  obtain⟨m,rfl⟩:∃m,n=m+1:=⟨n-1,by omega⟩;rfl⟩⟩
theorem aV{ι:Type}{todo:List Item}(μ:ι→Nat)(L:ι→Kn)(P:ι→AW→Prop)
 (h:∀i A,P i A→(∀j A',μ j<μ i→P j A'→WG E C todo (L j) A' R)→WG E C todo (L i) A R) : ∀i A,P i A→WG E C todo (L i) A R:=by
 have key:∀n i A,μ i<n→P i A→WG E C todo (L i) A R:=by
  intro n
  induction n with
  | zero=>intro i A hn;omega
  | succ n ih=>exact fun i A hn hp=>h i A hp fun j A' hj hp'=>ih j A' (by omega) hp'
 exact fun i A hp=>key (μ i+1) i A (by omega) hp
def Dd:List AV→Nat→Kn→Kn
 | [],_,l=>l
 | v::vs,i,l=>Dd vs (Nat.succ i) (.put i v l)
theorem Kf.args{F:Fr}:∀(vs:List AV) (i:Nat) (l:Kn) (F:Fr),Kf C l F→Kf C (Dd vs i l) (pr vs i F)
 | [],_,_,_,h=>h
 | v::vs,i,l,F,h=>Kf.args (F:=F) vs (Nat.succ i) (.put i v l) (F.set i v) (h.set i v)
theorem ap{f:FuncId}{args:List AV}{e:bC}{c:Code}(he:E.fns.get f=some e)(hb:e.fn.body=some c)(hn:Nat.ble (len args) e.N=true)
 (h:WG E e [.code c] (Dd args 0 .nil) A R) : aD E f args A R:=by
 have h0:Kf e .nil ⟨e.mask,[],.nil⟩:=⟨rfl,fun t v hv=>by cases hv⟩;obtain⟨F',A',v,ho,r,n0,h⟩:=h.run _ (Kf.args (F:=⟨e.mask,[],.nil⟩) args 0 .nil _ h0);refine⟨v,A',r,n0,fun n hn'=>?_⟩;unfold call gI;rw[he];simp only[hb,hn,cond_true];have:=h n hn';unfold mu;rw[this];exact ho
end
section
variable{E:Env}{C:bC}{all rest:List Oper}{l:Kn}{A A1:AW}{K:Kn→AW→Prop}{d:Tmp}{ty:TypeId}{pos:String}{after:Array Edge}
theorem pH(h:K l A): WO E C all [] l A K:=⟨fun F hF=>⟨F,A,l,hF,h,0,fun _ _=>rfl⟩⟩
theorem mb{N:Nat}{o:Oper}{F F1 F2:Fr}{A2:AW}(h1:OneV E N all o F A F1 A1)(h2:Es E N all rest F1 A1 F2 A2): Es E N all (o::rest) F A F2 A2:=by
 obtain⟨n1,h1⟩:=h1;obtain⟨n2,h2⟩:=h2;refine⟨n1+n2,fun n hn=>?_⟩;show (match kn E (fun f args A=>gI E f args A (go E n)) N all o F A with
  | .ok F A=>oE E (fun f args A=>gI E f args A (go E n)) N all rest F A
  | .fail n=>.fail n)=_
 rw[h1 n (by omega)];exact h2 n (by omega)
theorem tg{N:Nat}{F:Fr}{v:AV}(hd:Nat.blt d N=true): lD N F (some d) v A=.ok (F.set d v) A:=by
 unfold lD;simp only[hd,cond_true]
theorem bR{op:Op}{v:AV}(hd:Nat.blt d C.N=true)(hx:∀F,Kf C l F→dr E F ⟨some d,op,ty,pos,after,none⟩ A=.val v A1)(h:WO E C all rest (.put d v l) A1 K):
 WO E C all (⟨some d,op,ty,pos,after,none⟩::rest) l A K:=⟨fun F hF=>by
 obtain⟨F2,A2,l2,hF2,hk,ho⟩:=h.run _ (hF.set d v);refine⟨F2,A2,l2,hF2,hk,mb ⟨0,fun n _=>?_⟩ ho⟩;unfold kn bV;simp only[hx F hF];exact tg hd⟩
theorem zb{op:Op}{v:AV}(hx:∀F,Kf C l F→dr E F ⟨none,op,ty,pos,after,none⟩ A=.val v A1)(h:WO E C all rest l A1 K):
 WO E C all (⟨none,op,ty,pos,after,none⟩::rest) l A K:=⟨fun F hF=>by
 obtain⟨F2,A2,l2,hF2,hk,ho⟩:=h.run F hF;refine⟨F2,A2,l2,hF2,hk,mb ⟨0,fun n _=>?_⟩ ho⟩;unfold kn bV;simp only[hx F hF];rfl⟩
theorem xK{op:Op}{f:FuncId}{args:List AV}{Q:AV→AW→Prop}(hd:Nat.blt d C.N=true)(hx:∀F,Kf C l F→dr E F ⟨some d,op,ty,pos,after,none⟩ A=.enter f args)(hc:aD E f args A Q)
 (h:∀v A1,Q v A1→WO E C all rest (.put d v l) A1 K) : WO E C all (⟨some d,op,ty,pos,after,none⟩::rest) l A K:=⟨fun F hF=>by
 obtain⟨v,A1,q,n0,hc⟩:=hc;obtain⟨F2,A2,l2,hF2,hk,ho⟩:=(h v A1 q).run _ (hF.set d v);refine⟨F2,A2,l2,hF2,hk,mb ⟨n0,fun n hn=>?_⟩ ho⟩;unfold kn bV;have:=hc n hn;unfold call at this;simp only[hx F hF,this];exact tg hd⟩
def uS(all:List Oper)(l:Kn)(j:Nat)(w:Bool): Option Bool:=
 match nth all j with
 | some oj=>(match oj.dst with
  | some d=>(match l.find d with
   | some (.bool b)=>some (b == w)
   | some (.tuple [])=>some false
   | _=>none)
  | none=>none)
 | none=>none
theorem rE{F:Fr}(hF:Kf C l F){dst:Option Tmp}{op:Op}{j:Nat}{w b:Bool}(h:uS all l j w=some b): bV all F ⟨dst,op,ty,pos,after,some (j,w)⟩=some b:=by
 unfold uS at h;unfold bV;simp only;split at h
 ·rename_i oj hoj;simp only[hoj];split at h
  ·rename_i d hd;simp only[hd];split at h
   ·rename_i b hb;rw[hF.get _ _ hb];exact h
   ·rename_i hb;rw[hF.get _ _ hb];exact h
   ·cases h
  ·cases h
 ·cases h
theorem aM{dst:Option Tmp}{op:Op}{j:Nat}{w:Bool}(hw:uS all l j w=some true)(h:WO E C all (⟨dst,op,ty,pos,after,none⟩::rest) l A K):
 WO E C all (⟨dst,op,ty,pos,after,some (j,w)⟩::rest) l A K:=⟨fun F hF=>by
 obtain⟨F2,A2,l2,hF2,hk,n0,ho⟩:=h.run F hF;refine⟨F2,A2,l2,hF2,hk,n0,fun n hn=>?_⟩;have:=ho n hn;simp only[oE] at this ⊢;have e:kn E (fun f args A=>gI E f args A (go E n)) C.N all ⟨dst,op,ty,pos,after,some (j,w)⟩ F A=kn E (fun f args A=>gI E f args A (go E n)) C.N all ⟨dst,op,ty,pos,after,none⟩ F A:=by
  unfold kn;rw[rE hF hw];rfl
 rw[e];exact this⟩
theorem zc{op:Op}{j:Nat}{w:Bool}(hd:Nat.blt d C.N=true)(hw:uS all l j w=some false)(h:WO E C all rest (.put d (.tuple []) l) A K):
 WO E C all (⟨some d,op,ty,pos,after,some (j,w)⟩::rest) l A K:=⟨fun F hF=>by
 obtain⟨F2,A2,l2,hF2,hk,ho⟩:=h.run _ (hF.set d (.tuple []));refine⟨F2,A2,l2,hF2,hk,mb ⟨0,fun n _=>?_⟩ ho⟩;unfold kn;rw[rE hF hw];exact tg hd⟩
theorem wd{op:Op}{j:Nat}{w:Bool}(hw:uS all l j w=some false)(h:WO E C all rest l A K):
 WO E C all (⟨none,op,ty,pos,after,some (j,w)⟩::rest) l A K:=⟨fun F hF=>by
 obtain⟨F2,A2,l2,hF2,hk,ho⟩:=h.run _ hF;refine⟨F2,A2,l2,hF2,hk,mb ⟨0,fun n _=>?_⟩ ho⟩;unfold kn;rw[rE hF hw];rfl⟩
theorem Et{t:Tmp}{b:Bool}(ht:l.find t=some (.bool b))(h1:b=true→WO E C all rest (.put t (.bool true) l) A K)(h2:b=false→WO E C all rest (.put t (.bool false) l) A K): WO E C all rest l A K:=by
 have key:∀F,Kf C l F→Kf C (.put t (.bool b) l) F:=fun F hF=>⟨hF.mask,fun j w hj=>by
  simp only[Kn.find] at hj;cases hb:Nat.beq t j<;>rw[hb] at hj
  ·exact hF.get j w hj
  ·cases hj;rw[←Nat.eq_of_beq_eq_true hb];exact hF.get t _ ht⟩
 cases b
 ·exact⟨fun F hF=>(h2 rfl).run F (key F hF)⟩
 ·exact⟨fun F hF=>(h1 rfl).run F (key F hF)⟩
theorem bG(P:AW→Prop)(hP:P A)(h:∀A',P A'→WO E C all rest l A' K): WO E C all rest l A K:=h A hP
end
end Go.AE
namespace Go.AE
set_option linter.unusedVariables false
set_option linter.unusedSimpArgs false
def AW.put(A:AW)(f:Nat)(x:eI): AW:=⟨A.heap.set f x,A.aa⟩
def AW.add(A:AW)(x:eI): AW:=⟨A.heap.set A.aa x,Nat.succ A.aa⟩
@[simp] theorem AW.aw (A:AW) (f:Nat) (x:eI) (g:Nat) : (A.put f x).heap.get g=if g=f then some x else A.heap.get g:=Tr.dQ _ _ _ _
@[simp] theorem AW.add_get (A:AW) (x:eI) (g:Nat) : (A.add x).heap.get g=if g=A.aa then some x else A.heap.get g:=Tr.dQ _ _ _ _
@[simp] theorem AW.put_nxt (A:AW) (f:Nat) (x:eI) : (A.put f x).aa=A.aa:=rfl
@[simp] theorem AW.add_nxt (A:AW) (x:eI) : (A.add x).aa=A.aa+1:=rfl
theorem rF(k:IntKind)(n:Int)(A:AW): nJ k n A=.val (.int k n) A:=by
 have h0:∀m,Nat.ble 0 m=true:=fun m=>Nat.ble_eq_true_of_le (Nat.zero_le m);cases n with
 | ofNat m=>simp only[nJ,h0,cond_true]
 | negSucc m=>simp only[nJ,h0,cond_true]
theorem gN(b:Bool)(A:AW): iZ b A=.val (.bool b) A:=by cases b<;>rfl
theorem dF(k:IntKind): aT k k=true:=by rw[bt];simp
section
variable{E:Env}{A:AW}{k:IntKind}{a b:Int}
theorem AJ:eK E .add k a k b A=.val (.int k (k.wrap (a+b))) A:=by simp only[eK,dF,cond_true,rF,gJ,AA]
theorem AK:eK E .sub k a k b A=.val (.int k (k.wrap (a-b))) A:=by simp only[eK,dF,cond_true,rF,gJ,vI]
theorem Eu:eK E .mul k a k b A=.val (.int k (k.wrap (a*b))) A:=by simp only[eK,dF,cond_true,rF,gJ]
theorem Ew:eK E .eql k a k b A=.val (.bool (decide (a=b))) A:=by simp only[eK,dF,cond_true,gN,nL]
theorem Ey:eK E .neq k a k b A=.val (.bool (decide (a≠b))) A:=by simp only[eK,dF,cond_true,gN,nL,ne_eq,decide_not]
theorem Ez:eK E .lss k a k b A=.val (.bool (decide (a<b))) A:=by simp only[eK,dF,cond_true,gN,iQ]
theorem EA:eK E .gtr k a k b A=.val (.bool (decide (b<a))) A:=by simp only[eK,dF,cond_true,gN,iQ]
theorem EB:eK E .leq k a k b A=.val (.bool (decide (a≤b))) A:=by
 simp only[eK,dF,cond_true,gN,iQ,←decide_not,Int.not_lt]
theorem EC:eK E .geq k a k b A=.val (.bool (decide (b≤a))) A:=by
 simp only[eK,dF,cond_true,gN,iQ,←decide_not,Int.not_lt]
end
theorem wrap_i64{z:Int}(h1:-9223372036854775808≤z)(h2:z<9223372036854775808): IntKind.i64.wrap z=z:=by
 have:IntKind.i64.wrap z=(if (z % 18446744073709551616:Int)≥9223372036854775808 then z % 18446744073709551616-18446744073709551616 else z % 18446744073709551616):=by
  unfold IntKind.wrap;simp [IntKind.bits,IntKind.signed]
 rw[this];split<;>omega
theorem wrap_u8(z:Int): IntKind.u8.wrap z=z % 256:=by
 unfold IntKind.wrap;simp [IntKind.bits,IntKind.signed]
section
variable{E:Env}{C:bC}{all rest:List Oper}{l:Kn}{A A1:AW}{K:Kn→AW→Prop}{d:Tmp}{ty:TypeId}{pos:String}{after:Array Edge}
theorem we{x:Operand}{v:AV}(hd:Nat.blt d C.N=true)(hx:dw l x=some v)(h:WO E C all rest (.put d v l) A K): WO E C all (⟨some d,.move x,ty,pos,after,none⟩::rest) l A K:=
 bR hd (fun F hF=>by show gF.val (ev F x) A=_;rw[hF.ev hx]) h
theorem pI{x:Operand}{v:AV}(hd:Nat.blt d C.N=true)(hx:dw l x=some v)(h:WO E C all rest (.put d v l) A K): WO E C all (⟨some d,.assign x,ty,pos,after,none⟩::rest) l A K:=
 bR hd (fun F hF=>by show gF.val (ev F x) A=_;rw[hF.ev hx]) h
theorem wg{c a b:Operand}{x:Bool}{v:AV}(hd:Nat.blt d C.N=true)(hc:dw l c=some (.bool x))(hx:dw l (bif x then a else b)=some v)(h:WO E C all rest (.put d v l) A K): WO E C all (⟨some d,.pick c a b,ty,pos,after,none⟩::rest) l A K:=
 bR hd (fun F hF=>by
  show ao (match ev F c with
   | .bool true=>.val (ev F a) A
   | .bool false=>.val (ev F b) A
   | _=>.fail 140)=_
  rw[hF.ev hc];cases x
  ·simp only[ao];rw[hF.ev (x:=b) hx]
  ·simp only[ao];rw[hF.ev (x:=a) hx]) h
theorem aq{t:TypeId}{dt:bH}{z:List AV}(hd:Nat.blt d C.N=true)(ht:E.cf.get t=some dt)(hz:dt.zero=some z)(h:WO E C all rest (.put d (.ptr A.aa 0 0) l) (A.add (.cells 0 false (kO E dt) z)) K):
 WO E C all (⟨some d,.alloc t,ty,pos,after,none⟩::rest) l A K:=
 bR hd (fun F hF=>by
  show ao (match E.cf.get t with
   | some d=>(match d.zero with
    | some z=>.val (.ptr A.aa 0 0) (gG A (kO E d) z)
    | none=>.fail 141)
   | none=>.fail 141)=_
  rw[ht];simp only[hz,ao];rfl) h
theorem bA{t:TypeId}{x:Operand}{v:AV}{dt:bH}{cs:List AV}(hd:Nat.blt d C.N=true)(hx:dw l x=some v)(ht:E.cf.get t=some dt)(hc:cellsOf v=some cs)(h:WO E C all rest (.put d (.ptr A.aa 0 0) l) (A.add (.cells 0 false (kO E dt) cs)) K):
 WO E C all (⟨some d,.box t x,ty,pos,after,none⟩::rest) l A K:=
 bR hd (fun F hF=>by
  show ao (match E.cf.get t,cellsOf (ev F x) with
   | some d,some cs=>.val (.ptr A.aa 0 0) (gG A (kO E d) cs)
   | _,_=>.fail 142)=_
  rw[ht,hF.ev hx,hc];simp only[ao];rfl) h
theorem pa{t:TypeId}{ps:Array (Nat×Operand)}{vs:List (Nat×AV)}{v:AV}(hd:Nat.blt d C.N=true)(hx:td l ps.toList=some vs)(hb:kP E t vs A=.val v A)(h:WO E C all rest (.put d v l) A K):
 WO E C all (⟨some d,.build t ps,ty,pos,after,none⟩::rest) l A K:=
 bR hd (fun F hF=>by
  show ao (kP E t (fV F ps.toList) A)=_;rw[hF.parts hx,hb];rfl) h
theorem bq{t:TypeId}{n:Nat}{ps:Array (Nat×Operand)}{vs:List (Nat×AV)}{v:AV}{es:Nat}{cs:List AV}(hd:Nat.blt d C.N=true)(hx:td l ps.toList=some vs)(hb:fw E t n vs A=.val v (gG A es cs))(h:WO E C all rest (.put d v l) (A.add (.cells 0 false es cs)) K):
 WO E C all (⟨some d,.buildSlice t n ps,ty,pos,after,none⟩::rest) l A K:=
 bR hd (fun F hF=>by
  show ao (fw E t n (fV F ps.toList) A)=_;rw[hF.parts hx,hb];rfl) h
theorem aZ{t:TypeId}{a:Operand}{f s o:Nat}{dt:bH}{ro:Bool}{es:Nat}{cs:List AV}{v:AV}(hd:Nat.blt d C.N=true)(ha:dw l a=some (.ptr f s o))(ht:E.cf.get t=some dt)(hg:dt.agg=false)
 (hf:A.heap.get f=some (.cells s ro es cs)) (hn:nth cs o=some v) (h:WO E C all rest (.put d v l) A K) : WO E C all (⟨some d,.load t a,ty,pos,after,none⟩::rest) l A K:=
 bR hd (fun F hF=>by
  show ao (fR E t (ev F a) A)=_;rw[hF.ev ha];simp only[fR,ht,hg,cond_false,hf,Nat.beq_refl,cond_true,hn,ao]) h
theorem bS{t:TypeId}{a:Operand}{f s o:Nat}{dt:bH}{ro:Bool}{es:Nat}{cs vs:List AV}(hd:Nat.blt d C.N=true)(ha:dw l a=some (.ptr f s o))(ht:E.cf.get t=some dt)(hg:dt.agg=true)
 (hf:A.heap.get f=some (.cells s ro es cs)) (hn:takeN dt.size (aB o cs)=some vs) (h:WO E C all rest (.put d (.agg vs) l) A K) : WO E C all (⟨some d,.load t a,ty,pos,after,none⟩::rest) l A K:=
 bR hd (fun F hF=>by
  show ao (fR E t (ev F a) A)=_;rw[hF.ev ha];simp only[fR,ht,hg,cond_true,bU,hf,Nat.beq_refl,cond_true,hn,ao]) h
theorem bx{t:TypeId}{a x:Operand}{f s o:Nat}{dt:bH}{es:Nat}{cs cs' xs:List AV}{v:AV}(ha:dw l a=some (.ptr f s o))(hx:dw l x=some v)(hc:cellsOf v=some xs)(ht:E.cf.get t=some dt)
 (hl:Nat.beq (len xs) dt.size=true) (h0:isNil xs=false) (hf:A.heap.get f=some (.cells s false es cs)) (hp:iL o xs cs=some cs') (h:WO E C all rest l (A.put f (.cells s false es cs')) K) :
 WO E C all (⟨none,.store t a x,ty,pos,after,none⟩::rest) l A K:=
 zb (v:=.undef) (fun F hF=>by
  show ao (rY E t (ev F a) (ev F x) A)=_;rw[hF.ev ha,hF.ev hx];simp only[rY,ht,hc,hl,cond_true,h0,cond_false,lK,hf,hp,ao,Nat.beq_refl];rfl) h
theorem mc{x:Operand}{f s o:Nat}(hd:Nat.blt d C.N=true)(hx:dw l x=some (.ptr f s o))(h:WO E C all rest (.put d (.ptr f s o) l) A K): WO E C all (⟨some d,.nilCheck x,ty,pos,after,none⟩::rest) l A K:=
 bR hd (fun F hF=>by
  show ao (match ev F x with
   | .ptr f s o=>.val (.ptr f s o) A
   | .func f a b=>.val (.func f a b) A
   | _=>.fail 143)=_
  rw[hF.ev hx];rfl) h
theorem jF{op:BinOp}{t t':TypeId}{a b:Operand}{k k':IntKind}{x y:Int}{v:AV}(hd:Nat.blt d C.N=true)(ha:dw l a=some (.int k x))(hb:dw l b=some (.int k' y))(hv:eK E op k x k' y A=.val v A)
 (h:WO E C all rest (.put d v l) A K) : WO E C all (⟨some d,.binOp op t a b t',ty,pos,after,none⟩::rest) l A K:=
 bR hd (fun F hF=>by
  show ao (kj E op t (ev F a) (ev F b) A)=_;rw[hF.ev ha,hF.ev hb];show ao (eK E op k x k' y A)=_;rw[hv];rfl) h
theorem il{t t':TypeId}{a b:Operand}{x y:Int}(hd:Nat.blt d C.N=true)(ha:dw l a=some (.int .i64 x))(hb:dw l b=some (.int .i64 y))(h1:-9223372036854775808≤x+y)(h2:x+y<9223372036854775808)
 (h:WO E C all rest (.put d (.int .i64 (x+y)) l) A K) : WO E C all (⟨some d,.binOp .add t a b t',ty,pos,after,none⟩::rest) l A K:=
 jF hd ha hb (by rw[AJ,wrap_i64 h1 h2]) h
theorem fd{t t':TypeId}{a b:Operand}{x y:Int}(hd:Nat.blt d C.N=true)(ha:dw l a=some (.int .i64 x))(hb:dw l b=some (.int .i64 y))(h1:-9223372036854775808≤x-y)(h2:x-y<9223372036854775808)
 (h:WO E C all rest (.put d (.int .i64 (x-y)) l) A K) : WO E C all (⟨some d,.binOp .sub t a b t',ty,pos,after,none⟩::rest) l A K:=
 jF hd ha hb (by rw[AK,wrap_i64 h1 h2]) h
theorem zd{t t':TypeId}{a b:Operand}{k:IntKind}{x y:Int}(hd:Nat.blt d C.N=true)(ha:dw l a=some (.int k x))(hb:dw l b=some (.int k y))(h:WO E C all rest (.put d (.bool (decide (x=y))) l) A K):
 WO E C all (⟨some d,.binOp .eql t a b t',ty,pos,after,none⟩::rest) l A K:=jF hd ha hb Ew h
theorem ze{t t':TypeId}{a b:Operand}{k:IntKind}{x y:Int}(hd:Nat.blt d C.N=true)(ha:dw l a=some (.int k x))(hb:dw l b=some (.int k y))(h:WO E C all rest (.put d (.bool (decide (x≠y))) l) A K):
 WO E C all (⟨some d,.binOp .neq t a b t',ty,pos,after,none⟩::rest) l A K:=jF hd ha hb Ey h
theorem zf{t t':TypeId}{a b:Operand}{k:IntKind}{x y:Int}(hd:Nat.blt d C.N=true)(ha:dw l a=some (.int k x))(hb:dw l b=some (.int k y))(h:WO E C all rest (.put d (.bool (decide (x<y))) l) A K):
 WO E C all (⟨some d,.binOp .lss t a b t',ty,pos,after,none⟩::rest) l A K:=jF hd ha hb Ez h
theorem zg{t t':TypeId}{a b:Operand}{k:IntKind}{x y:Int}(hd:Nat.blt d C.N=true)(ha:dw l a=some (.int k x))(hb:dw l b=some (.int k y))(h:WO E C all rest (.put d (.bool (decide (y<x))) l) A K):
 WO E C all (⟨some d,.binOp .gtr t a b t',ty,pos,after,none⟩::rest) l A K:=jF hd ha hb EA h
theorem zh{t t':TypeId}{a b:Operand}{k:IntKind}{x y:Int}(hd:Nat.blt d C.N=true)(ha:dw l a=some (.int k x))(hb:dw l b=some (.int k y))(h:WO E C all rest (.put d (.bool (decide (x≤y))) l) A K):
 WO E C all (⟨some d,.binOp .leq t a b t',ty,pos,after,none⟩::rest) l A K:=jF hd ha hb EB h
theorem zi{t t':TypeId}{a b:Operand}{k:IntKind}{x y:Int}(hd:Nat.blt d C.N=true)(ha:dw l a=some (.int k x))(hb:dw l b=some (.int k y))(h:WO E C all rest (.put d (.bool (decide (y≤x))) l) A K):
 WO E C all (⟨some d,.binOp .geq t a b t',ty,pos,after,none⟩::rest) l A K:=jF hd ha hb EC h
theorem zj{t:TypeId}{x:Operand}{b:Bool}(hd:Nat.blt d C.N=true)(hx:dw l x=some (.bool b))(h:WO E C all rest (.put d (.bool (!b)) l) A K): WO E C all (⟨some d,.unOp .not t x,ty,pos,after,none⟩::rest) l A K:=
 bR hd (fun F hF=>by
  show ao (unA E .not (ev F x) A)=_;rw[hF.ev hx];show ao (iZ (!b) A)=_;rw[gN];rfl) h
def intKind(E:Env)(t:TypeId): Option IntKind:=
 match E.cf.get t with
 | some d=>(match d.desc with
  | .int k=>some k
  | _=>none)
 | none=>none
theorem wh{t:TypeId}{k:IntKind}(h:intKind E t=some k): ∃d,E.cf.get t=some d∧d.desc=.int k:=by
 unfold intKind at h;split at h
 ·rename_i d hd;split at h
  ·rename_i k' hk;cases h;exact⟨d,hd,hk⟩
  ·cases h
 ·cases h
theorem ED{s t:TypeId}{x:Operand}{k k':IntKind}{z:Int}{ds:bH}(hd:Nat.blt d C.N=true)(hx:dw l x=some (.int k' z))(hs:E.cf.get s=some ds)(ht:intKind E t=some k)(m:Int)(hm:k.wrap z=m)(h:WO E C all rest (.put d (.int k m) l) A K):
 WO E C all (⟨some d,.convert s t x,ty,pos,after,none⟩::rest) l A K:=
 bR hd (fun F hF=>by
  obtain⟨dt,h1,h2⟩:=wh ht;show ao (fZ E s t (ev F x) A)=_;rw[hF.ev hx];unfold fZ;rw[hs,h1];simp only[h2,rF,gJ,hm,ao]) h
theorem lg{t:TypeId}{x:Operand}{i f s o:Nat}{off:Nat}(hd:Nat.blt d C.N=true)(hx:dw l x=some (.ptr f s o))(ht:R.kH E t i=some off)(h:WO E C all rest (.put d (.ptr f s (Nat.add o off)) l) A K):
 WO E C all (⟨some d,.fieldAddr t x i,ty,pos,after,none⟩::rest) l A K:=
 bR hd (fun F hF=>by
  show ao (aX E t (ev F x) i A)=_;rw[←R.uz,hF.ev hx];show Option.rec (motive:=fun _=>gF) _ _ (R.kH E t i)=_;rw[ht]) h
theorem dx{t:TypeId}{x:Operand}{i:Nat}{cs:List AV}{v:AV}(hd:Nat.blt d C.N=true)(hx:dw l x=some (.agg cs))(ht:lO E t (.agg cs) i A=.val v A)(h:WO E C all rest (.put d v l) A K):
 WO E C all (⟨some d,.field t x i,ty,pos,after,none⟩::rest) l A K:=
 bR hd (fun F hF=>by
  show ao (lO E t (ev F x) i A)=_;rw[hF.ev hx,ht];rfl) h
theorem bg{t:TypeId}{x i:Operand}{f s o n c sz:Nat}{ex:Bool}{k:IntKind}{z:Int}(m:Nat)(hd:Nat.blt d C.N=true)(hx:dw l x=some (.slice f s o n c ex))(hi:dw l i=some (.int k z))(ht:R.elemOf E t=some sz)(hz:z=(m:Int))(hm:m<n)
 (h:WO E C all rest (.put d (.ptr f s (Nat.add o (Nat.mul m sz))) l) A K) : WO E C all (⟨some d,.indexAddr t x i,ty,pos,after,none⟩::rest) l A K:=
 bR hd (fun F hF=>by
  show ao (aO E t (ev F x) (ev F i) A)=_;rw[←R.xJ,hF.ev hx,hF.ev hi,hz];show Option.rec (motive:=fun _=>gF) _ _ (R.elemOf E t)=_;rw[ht];show Bool.rec (motive:=fun _=>gF) (.fail 70) (.val (.ptr f s (Nat.add o (Nat.mul m sz))) A) (Nat.blt m n)=_;rw[blt_eq,decide_eq_true hm]) h
theorem aY{t e:TypeId}{x i:Operand}{f s o n:Nat}{k:IntKind}{z:Int}{dt de:bH}(m:Nat)(hd:Nat.blt d C.N=true)(hx:dw l x=some (.ptr f s o))(hi:dw l i=some (.int k z))(ht:E.cf.get t=some dt)(hs:dt.desc=.array n e)(he:E.cf.get e=some de)(hz:z=(m:Int))(hm:m<n)
 (h:WO E C all rest (.put d (.ptr f s (Nat.add o (Nat.mul m de.size))) l) A K) : WO E C all (⟨some d,.indexAddr t x i,ty,pos,after,none⟩::rest) l A K:=
 bR hd (fun F hF=>by
  show ao (aO E t (ev F x) (ev F i) A)=_;rw[hF.ev hx,hF.ev hi,hz];show ao (aO E t (.ptr f s o) (.int k (.ofNat m)) A)=_;simp only[aO,ht,hs,he,blt_eq,decide_eq_true hm,cond_true,ao]) h
theorem cn{t:TypeId}{x i:Operand}{s:List Nat}{k:IntKind}{z:Int}{dt:bH}{b:Nat}(m:Nat)(hd:Nat.blt d C.N=true)(hx:dw l x=some (.str s))(hi:dw l i=some (.int k z))(ht:E.cf.get t=some dt)(hs:dt.desc=.string)(hz:z=(m:Int))(hb:nth s m=some b)
 (h:WO E C all rest (.put d (.int .u8 (b:Int)) l) A K) : WO E C all (⟨some d,.index t x i,ty,pos,after,none⟩::rest) l A K:=
 bR hd (fun F hF=>by
  show ao (iM E t (ev F x) (ev F i) A)=_;rw[hF.ev hx,hF.ev hi,hz];show ao (iM E t (.str s) (.int k (.ofNat m)) A)=_;simp only[iM,ht,hs,hb,ao];rfl) h
theorem md{t e:TypeId}{x i:Operand}{cs:List AV}{k:IntKind}{z:Int}{dt de:bH}{n:Nat}{v:AV}(m:Nat)(hd:Nat.blt d C.N=true)(hx:dw l x=some (.agg cs))(hi:dw l i=some (.int k z))(ht:E.cf.get t=some dt)(hs:dt.desc=.array n e)(he:E.cf.get e=some de)(hz:z=(m:Int))(hm:m<n)
 (hp:qd E e cs (Nat.mul m de.size) A=.val v A) (h:WO E C all rest (.put d v l) A K) : WO E C all (⟨some d,.index t x i,ty,pos,after,none⟩::rest) l A K:=
 bR hd (fun F hF=>by
  show ao (iM E t (ev F x) (ev F i) A)=_;rw[hF.ev hx,hF.ev hi,hz];show ao (iM E t (.agg cs) (.int k (.ofNat m)) A)=_;simp only[iM,ht,hs,he,blt_eq,decide_eq_true hm,cond_true,hp,ao]) h
theorem nY{x:Operand}{i:Nat}{vs:List AV}{v:AV}(hd:Nat.blt d C.N=true)(hx:dw l x=some (.tuple vs))(hn:nth vs i=some v)(h:WO E C all rest (.put d v l) A K): WO E C all (⟨some d,.extract x i,ty,pos,after,none⟩::rest) l A K:=
 bR hd (fun F hF=>by
  show ao (match ev F x with
   | .tuple vs=>(match nth vs i with
    | some v=>.val v A
    | none=>.fail 144)
   | _=>.fail 145)=_
  rw[hF.ev hx];simp only[hn,ao]) h
def bm:AV→Option Nat
 | .slice _ _ _ n _ _=>some n
 | .aj=>some 0
 | .emp _=>some 0
 | _=>none
theorem xL{t:TypeId}(h:R.gM E t=2): ∃d e,E.cf.get t=some d∧d.desc=.slice e:=by
 unfold R.gM at h;split at h
 ·rename_i d hd;split at h
  ·cases h
  ·rename_i e he;exact⟨d,e,hd,he⟩
  ·cases h
 ·cases h
theorem De{t:TypeId}(h:R.gM E t=1): ∃d,E.cf.get t=some d∧d.desc=.string:=by
 unfold R.gM at h;split at h
 ·rename_i d hd;split at h
  ·rename_i he;exact⟨d,hd,he⟩
  ·cases h
  ·cases h
 ·cases h
theorem gP{t:TypeId}{a:Operand}{v:AV}{n:Nat}(hd:Nat.blt d C.N=true)(ha:dw l a=some v)(ht:R.gM E t=2)(hn:bm v=some n)(h:WO E C all rest (.put d (.int .i64 (n:Int)) l) A K):
 WO E C all (⟨some d,.call ⟨.builtin .len,#[a],#[t]⟩,ty,pos,after,none⟩::rest) l A K:=
 bR hd (fun F hF=>by
  obtain⟨dt,e,h1,h2⟩:=xL ht;show ao (eo E t (ev F a) A)=_;rw[hF.ev ha];unfold eo;rw[h1];simp only[h2];cases v<;>simp only[bm,Option.some.injEq,reduceCtorEq] at hn<;>subst hn<;>rfl) h
theorem pJ{t:TypeId}{a:Operand}{s:List Nat}(hd:Nat.blt d C.N=true)(ha:dw l a=some (.str s))(ht:R.gM E t=1)(h:WO E C all rest (.put d (.int .i64 (s.length:Int)) l) A K):
 WO E C all (⟨some d,.call ⟨.builtin .len,#[a],#[t]⟩,ty,pos,after,none⟩::rest) l A K:=
 bR hd (fun F hF=>by
  obtain⟨dt,h1,h2⟩:=De ht;show ao (eo E t (ev F a) A)=_;rw[hF.ev ha];unfold eo;rw[h1];simp only[h2,ey];rfl) h
theorem bE{t t':TypeId}{a b:Operand}{s x:AV}{dt:bH}{Q:AV→AW→Prop}(hd:Nat.blt d C.N=true)(ha:dw l a=some s)(hb:dw l b=some x)(ht:E.cf.get t'=some dt)(hk:(match dt.desc with
 | .slice _|.string=>true
 | _=>false)=true) (hv:∃v A1,dP E t s x A=.val v A1∧Q v A1) (h:∀v A1,Q v A1→WO E C all rest (.put d v l) A1 K) :
 WO E C all (⟨some d,.call ⟨.builtin .append,#[a,b],#[t,t']⟩,ty,pos,after,none⟩::rest) l A K:=by
 obtain⟨v,A1,hv,q⟩:=hv;refine bR hd (fun F hF=>?_) (h v A1 q);show ao (match E.cf.get t' with
  | some d=>(match d.desc with
   | .slice _|.string=>dP E t (ev F a) (ev F b) A
   | _=>.fail 121)
  | none=>.fail 121)=_
 rw[ht,hF.ev ha,hF.ev hb];simp only;split at hk<;>first|(simp only[hv,ao];done)|cases hk
theorem cY{f:FuncId}{args:Array Operand}{cf:Array TypeId}{vs:List AV}{Q:AV→AW→Prop}(hd:Nat.blt d C.N=true)(ha:vZ l args.toList=some vs)(ho:E.uo f vs=none)(hb:R.hasB E f=true)(hc:aD E f vs A Q)
 (h:∀v A1,Q v A1→WO E C all rest (.put d v l) A1 K) : WO E C all (⟨some d,.call ⟨.value (.func f),args,cf⟩,ty,pos,after,none⟩::rest) l A K:=
 xK hd (fun F hF=>by
  show gH E f ([]++qH F args.toList++[]) A=_;rw[←R.uR];simp only[List.nil_append,List.append_nil,hF.qH ha];unfold R.vY;rw[ho,hb]) hc h
theorem wo_orc{f:FuncId}{args:Array Operand}{cf:Array TypeId}{vs:List AV}{v:AV}(hd:Nat.blt d C.N=true)(ha:vZ l args.toList=some vs)(ho:E.uo f vs=some (v,[]))(hv:vC A.aa v=v)(h:WO E C all rest (.put d v l) A K):
 WO E C all (⟨some d,.call ⟨.value (.func f),args,cf⟩,ty,pos,after,none⟩::rest) l A K:=
 bR hd (fun F hF=>by
  show gH E f ([]++qH F args.toList++[]) A=_;simp only[List.nil_append,List.append_nil,hF.qH ha];unfold gH;rw[ho];simp only[hv,oD]) h
end
end Go.AE
namespace Go.Proofs.YtafamggbkobcfaaGreat.Ae
open Go.AE
set_option maxRecDepth 1000000
theorem ext:xF Tryz.prog.funcs.toList=true:=by kernel_rfl
theorem mixed:Tryz.prog.follows .mixedOrders=true:=by kernel_rfl
theorem all:xE (vH Tryz.prog.funcs.toList)=true:=by kernel_rfl
theorem env[bu]:dD (CF Tryz.prog):=CX all ext mixed
end Go.Proofs.YtafamggbkobcfaaGreat.Ae
