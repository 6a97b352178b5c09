/- A part of the proof of the statement CheckTypes. -/
import Derived.Test.YtafamggbkobcfaaGreatAiEnv
namespace Go.AE
set_option linter.unusedVariables false
set_option linter.unusedSimpArgs false
def Wf(A:AW): Prop:=∀g F,A.heap.get g=some F→g<A.aa
structure ac (A A1:AW) (T:Nat→Prop) : Prop where
 wf:Wf A1
 aa:A.aa≤A1.aa
 ae:∀g F,A.heap.get g=some F→¬T g→A1.heap.get g=some F
def ge(A:AW)(S S':Nat→Prop): Prop:=∀g,S' g→S g∨A.aa≤g
def lh(S T:Nat→Prop): Prop:=∀g,S g→¬T g
def pd(A:AW)(S:Nat→Prop): Prop:=∀g,S g→g<A.aa
def ag:Nat→Prop:=fun _=>False
def one(f:Nat): Nat→Prop:=fun g=>g=f
def both(S T:Nat→Prop): Nat→Prop:=fun g=>S g∨T g
theorem ac.refl{A:AW}(h:Wf A)(T:Nat→Prop): ac A A T:=⟨h,Nat.le_refl _,fun _ _ h _=>h⟩
theorem ac.mono{A A1:AW}{T T':Nat→Prop}(h:ac A A1 T)(ht:∀g,T g→T' g): ac A A1 T':=⟨h.wf,h.aa,fun g F hg hn=>h.ae g F hg fun h=>hn (ht g h)⟩
theorem ac.trans{A A1 A2:AW}{T T':Nat→Prop}(hw:Wf A)(h:ac A A1 T)(h':ac A1 A2 T')(ht:ge A T T'): ac A A2 T:=
 ⟨h'.wf,Nat.le_trans h.aa h'.aa,fun g F hg hn=>h'.ae g F (h.ae g F hg hn) fun h=>by
  rcases ht g h with h|h
  ·exact hn h
  ·have:=hw g F hg;omega⟩
theorem ac.same{A A1 A2:AW}{T:Nat→Prop}(h:ac A A1 T)(h':ac A1 A2 T): ac A A2 T:=
 ⟨h'.wf,Nat.le_trans h.aa h'.aa,fun g F hg hn=>h'.ae g F (h.ae g F hg hn) hn⟩
theorem ge.refl(A:AW)(S:Nat→Prop): ge A S S:=fun g h=>.inl h
theorem ge.trans{A A1:AW}{S S1 S2:Nat→Prop}(h:ge A S S1)(h':ge A1 S1 S2)(hn:A.aa≤A1.aa): ge A S S2:=fun g hg=>by
 rcases h' g hg with h1|h1
 ·exact h g h1
 ·exact .inr (Nat.le_trans hn h1)
theorem ge.none(A:AW)(S:Nat→Prop): ge A S ag:=fun g h=>h.elim
theorem ge.BH{A:AW}{S S' T:Nat→Prop}(h:ge A S S')(hd:lh T S)(hu:pd A T): lh T S':=fun g ht hs=>by
 rcases h g hs with h|h
 ·exact hd g ht h
 ·have:=hu g ht;omega
theorem lh.symm{S T:Nat→Prop}(h:lh S T): lh T S:=fun g a b=>h g b a
theorem pd.mono{A A1:AW}{S:Nat→Prop}(h:pd A S)(hn:A.aa≤A1.aa): pd A1 S:=fun g hg=>Nat.lt_of_lt_of_le (h g hg) hn
theorem Wf.put{A:AW}(h:Wf A){f:Nat}{x:eI}(hf:f<A.aa): Wf (A.put f x):=fun g F hg=>by
 rw[AW.aw] at hg;split at hg
 ·rename_i e;subst e;exact hf
 ·exact h g F hg
theorem Wf.add{A:AW}(h:Wf A){x:eI}:Wf (A.add x):=fun g F hg=>by
 rw[AW.add_get] at hg;split at hg
 ·rename_i e;subst e;exact Nat.lt_succ_self _
 ·exact Nat.lt_succ_of_lt (h g F hg)
theorem ac.put{A:AW}(h:Wf A){f:Nat}{x:eI}(hf:f<A.aa): ac A (A.put f x) (one f):=⟨h.put hf,Nat.le_refl _,fun g F hg hn=>by
 rw[AW.aw,if_neg (fun e:g=f=>hn e)];exact hg⟩
theorem ac.add{A:AW}(h:Wf A){x:eI}(T:Nat→Prop): ac A (A.add x) T:=⟨h.add,Nat.le_succ _,fun g F hg hn=>by
 have:=h g F hg;rw[AW.add_get,if_neg (by omega)];exact hg⟩
def AV.av:AV→Nat→Prop
 | .slice f _ _ _ _ _,g=>g=f
 | _,_=>False
def eH(A:AW)(es:Nat)(v:AV)(n:Nat)(cs:List AV): Prop:=
 (v=.aj∧n=0∧cs=[])∨∃f t,v=.slice f t 0 n n false∧A.heap.get f=some (.cells t false es cs)∧cs.length=n*es∧0<n
theorem eH.length{A:AW}{es:Nat}{v:AV}{n:Nat}{cs:List AV}(h:eH A es v n cs): cs.length=n*es:=by
 rcases h with ⟨_,rfl,rfl⟩|⟨_,_,_,_,h,_⟩
 ·simp
 ·exact h
theorem eH.bm{A:AW}{es:Nat}{v:AV}{n:Nat}{cs:List AV}(h:eH A es v n cs): bm v=some n:=by
 rcases h with ⟨rfl,rfl,_⟩|⟨_,_,rfl,_⟩<;>rfl
theorem eH.cells{A:AW}{es:Nat}{v:AV}{n:Nat}{cs:List AV}(h:eH A es v n cs): cellsOf v=some [v]:=by
 rcases h with ⟨rfl,rfl,_⟩|⟨_,_,rfl,_⟩<;>rfl
theorem eH.under{A:AW}{es:Nat}{v:AV}{n:Nat}{cs:List AV}(hw:Wf A)(h:eH A es v n cs): pd A v.av:=fun g hg=>by
 rcases h with ⟨rfl,_,_⟩|⟨f,t,rfl,h1,_⟩
 ·exact hg.elim
 ·cases hg;exact hw _ _ h1
theorem eH.ae{A A1:AW}{es:Nat}{v:AV}{n:Nat}{cs:List AV}{T:Nat→Prop}(h:eH A es v n cs)(ho:ac A A1 T)(hd:lh v.av T): eH A1 es v n cs:=by
 rcases h with ⟨rfl,rfl,rfl⟩|⟨f,t,rfl,h1,h2,h3⟩
 ·exact .inl ⟨rfl,rfl,rfl⟩
 ·exact .inr ⟨f,t,rfl,ho.ae f _ h1 (hd f rfl),h2,h3⟩
theorem eH.src{A:AW}{es:Nat}{v:AV}{n:Nat}{cs:List AV}(h:eH A es v n cs): kl A es v=some (n,cs):=by
 rcases h with ⟨rfl,rfl,rfl⟩|⟨f,t,rfl,h1,h2,h3⟩
 ·rfl
 ·have:takeN (Nat.mul n es) cs=some cs:=by
   rw[br _ _ (by rw[h2];exact Nat.le_refl _),show Nat.mul n es=n*es from rfl,←h2,List.take_length]
  simp only[kl,bU,h1,Nat.beq_refl,cond_true,aB,this]
structure xM (A A1:AW) (es:Nat) (v v':AV) (n:Nat) (cs:List AV) : Prop where
 buf:eH A1 es v' n cs
 Fi:ac A A1 v.av
 grow:ge A v.av v'.av
theorem io{E:Env}{A:AW}{t e:TypeId}{d de:bH}{z:List AV}{v x:AV}{n m:Nat}{cs xs:List AV}(ht:E.cf.get t=some d)(hs:d.desc=.slice e)(he:E.cf.get e=some de)(hz:de.zero=some z)
 (hw:Wf A) (hb:eH A de.size v n cs) (hx:kl A de.size x=some (m,xs)) (hl:xs.length=m*de.size) (h1:1≤de.size) (hr:eL (n+m) de.bytes=true) :
 ∃v' A1,dP E t v x A=.val v' A1∧xM A A1 de.size v v' (n+m) (cs++xs):=by
 unfold dP;simp only[ht,hs,he,hz,hx];by_cases h0:m=0
 ·subst h0;have hxs:xs=[]:=List.eq_nil_of_length_eq_zero (by simpa using hl);subst hxs;simp only[Nat.beq_refl,cond_true,Nat.add_zero,List.append_nil];rcases hb with ⟨rfl,rfl,rfl⟩|⟨f,t',rfl,g1,g2,g3⟩
  ·exact⟨_,_,rfl,.inl ⟨rfl,rfl,rfl⟩,ac.refl hw _,ge.refl _ _⟩
  ·exact⟨_,_,rfl,.inr ⟨f,t',rfl,g1,g2,g3⟩,ac.refl hw _,ge.refl _ _⟩
 ·have e0:Nat.beq m 0=false:=by rw[beq_eq];simp [h0]
  have e1:Nat.ble 1 de.size=true:=Nat.ble_eq_true_of_le h1;simp only[e0,cond_false,e1,cond_true];rcases hb with ⟨rfl,rfl,rfl⟩|⟨f,t',rfl,g1,g2,g3⟩
  ·simp only[ia];rw[Nat.zero_add] at hr;rw[hr];simp only[cond_true,Nat.zero_add,List.nil_append];refine⟨_,A.add (.cells 0 false de.size xs),rfl,.inr ⟨A.aa,0,rfl,by simp,hl,by omega⟩,ac.add hw _,fun g hg=>.inr ?_⟩;cases hg;exact Nat.le_refl _
  ·simp only[gr,g1,Nat.beq_refl,Bool.and_self,cond_true];have e2:Nat.ble (Nat.add n m) n=false:=by
    rw[cT];exact decide_eq_false (by show ¬n+m≤n;omega)
   have e3:takeN (Nat.add 0 (Nat.mul n de.size)) cs=some cs:=by
    have:Nat.add 0 (Nat.mul n de.size)=n*de.size:=Nat.zero_add _;rw[this,br _ _ (by rw[g2];exact Nat.le_refl _),←g2,List.take_length]
   have hr':eL (Nat.add n m) de.bytes=true:=hr;rw[e2,hr',e3];simp only[cond_false,cond_true];refine⟨_,A.put f (.cells (Nat.succ t') false de.size (cs++xs)),rfl,.inr ⟨f,Nat.succ t',rfl,by simp,?_,by omega⟩,(ac.put hw (hw _ _ g1)).mono fun g hg=>?_,fun g hg=>.inl ?_⟩
   ·simp [g2,hl,Nat.add_mul]
   ·exact hg
   ·exact hg
theorem cH{E:Env}{A:AW}{t e:TypeId}{d de:bH}{z:List AV}{v:AV}{n:Nat}{cs xs:List AV}(ht:E.cf.get t=some d)(hs:d.desc=.slice e)(he:E.cf.get e=some de)(hz:de.zero=some z)
 (hw:Wf A) (hb:eH A de.size v n cs) (hl:xs.length=de.size) (h1:1≤de.size) (hr:eL (n+1) de.bytes=true) :
 ∃v' A1,dP E t v (.slice A.aa 0 0 1 1 true) (A.add (.cells 0 false de.size xs))=.val v' A1∧xM A A1 de.size v v' (n+1) (cs++xs):=by
 have o1:ac A (A.add (.cells 0 false de.size xs)) ag:=ac.add hw _;obtain⟨v',A1,h,g⟩:=io (m:=1) (xs:=xs) (x:=.slice A.aa 0 0 1 1 true) ht hs he hz o1.wf (hb.ae o1 fun _ _ h=>h) (by
  have e:takeN (Nat.mul 1 de.size) xs=some xs:=by
   have:Nat.mul 1 de.size=de.size:=Nat.one_mul _;rw[this,br _ _ (by omega),←hl,List.take_length]
  simp only[kl,bU,aB];rw[AW.add_get,if_pos rfl];simp only[Nat.beq_refl,cond_true,e]) (by omega) h1 hr
 exact⟨v',A1,h,g.buf,(o1.mono fun _ h=>h.elim).same g.Fi,fun k hk=>by
  rcases g.grow k hk with h|h
  ·exact .inl h
  ·exact .inr (Nat.le_trans o1.aa h)⟩
theorem cU{n b:Nat}(h:n≤1099511627776)(hb:b≤64): eL n b=true:=by
 have h1:Nat.ble n ju=true:=Nat.ble_eq_true_of_le (Nat.le_trans h (by decide));have h2:Nat.ble (Nat.mul n b) ju=true:=Nat.ble_eq_true_of_le (Nat.le_trans (Nat.mul_le_mul h hb) (by decide));unfold eL;rw[h1,h2];rfl
def zl(E:Env)(C:bC)(l:Kn)(A:AW)(b:Nat): List Seen→Prop
 | []=>True
 | s::seen=>(bit b s.i=true∨((∀F,Kf C l F→dr E F s.o A=.val s.v A)∧dC s.v s.v=true))∧zl E C l A b seen
theorem xN{E:Env}{C:bC}{l:Kn}{A:AW}{b:Nat}{F:Fr}(hF:Kf C l F): ∀{seen:List Seen},zl E C l A b seen→fS E F A b seen=true
 | [],_=>rfl
 | s::seen,h=>by
  have ih:=xN hF h.2;unfold fS;rcases h.1 with hb|⟨hx,hv⟩
  ·rw[hb];exact ih
  ·cases hb:bit b s.i
   ·simp only[cond_false,hx F hF,Nat.beq_refl,cond_true,hv,ih]
   ·exact ih
structure WD (E:Env) (C:bC) (all:List Oper) (bs order:List Nat) (seen:List Seen) (l:Kn) (A:AW) (K:Kn→AW→Prop) : Prop where
 run:∀F,Kf C l F→∃F1 A1 l1,Kf C l1 F1∧K l1 A1∧∃n0,∀n,n0≤n→hH E (fun f args A=>gI E f args A (go E n)) C.N all bs order seen F A=.ok F1 A1
section
variable{E:Env}{C:bC}{all:List Oper}{bs order:List Nat}{seen:List Seen}{l:Kn}{A:AW}{K:Kn→AW→Prop}{i b:Nat}{o:Oper}
theorem aK(h:K l A): WD E C all bs [] seen l A K:=⟨fun F hF=>⟨F,A,l,hF,h,0,fun _ _=>rfl⟩⟩
theorem pe{N:Nat}{F F1:Fr}{A1:AW}(h:Es E N all [o] F A F1 A1): OneV E N all o F A F1 A1:=by
 obtain⟨n0,h⟩:=h;refine⟨n0,fun n hn=>?_⟩;have:=h n hn;simp only[oE] at this;split at this
 ·rename_i F2 A2 h2;cases this;exact h2
 ·cases this
theorem ax(hi:nth all i=some o)(hb:nth bs i=some b)(ha:ib o.op=false)(hm:makes o.op=false)(hr:reads o.op=false)
 (h:WO E C all [o] l A fun l1 A1=>A1=A∧WD E C all bs order seen l1 A K) : WD E C all bs (i::order) seen l A K:=⟨fun F hF=>by
 obtain⟨F1,A1,l1,hF1,⟨rfl,hk⟩,ho⟩:=h.run F hF;obtain⟨n1,ho⟩:=pe ho;obtain⟨F2,A2,l2,hF2,hk2,n2,hd⟩:=hk.run F1 hF1;refine⟨F2,A2,l2,hF2,hk2,n1+n2,fun n hn=>?_⟩;simp only[hH,hi,hb,ho n (by omega),ha,cond_false,hm,Nat.beq_refl,cond_true,hr];split<;>exact hd n (by omega)⟩
def AL(all:List Oper)(l:Kn)(o:Oper): Option Bool:=
 match o.guard with
 | none=>some true
 | some (j,w)=>uS all l j w
theorem tn{F:Fr}(hF:Kf C l F){x:Bool}(h:AL all l o=some x): bV all F o=some x:=by
 obtain⟨dst,op,ty,pos,after,g⟩:=o;unfold AL at h;split at h
 ·rename_i hg;simp only at hg;subst hg;unfold bV;exact h
 ·rename_i j w hg;simp only at hg;subst hg;exact rE hF h
theorem jZ{d:Tmp}(hi:nth all i=some o)(hb:nth bs i=some b)(ha:ib o.op=false)(hm:makes o.op=false)(hr:reads o.op=true)(hg:AL all l o=some true)(hd:o.dst=some d)
 (h:WO E C all [o] l A fun l1 A1=>A1=A∧∃v,l1.find d=some v∧WD E C all bs order (⟨i,o,v⟩::seen) l1 A K) : WD E C all bs (i::order) seen l A K:=⟨fun F hF=>by
 obtain⟨F1,A1,l1,hF1,⟨rfl,v,hv,hk⟩,ho⟩:=h.run F hF;obtain⟨n1,ho⟩:=pe ho;obtain⟨F2,A2,l2,hF2,hk2,n2,hk3⟩:=hk.run F1 hF1;refine⟨F2,A2,l2,hF2,hk2,n1+n2,fun n hn=>?_⟩;have hw:=tn hF hg;simp only[hH,hi,hb,ho n (by omega),ha,cond_false,hm,Nat.beq_refl,cond_true,hr,hw,hd,hF1.get d v hv];exact hk3 n (by omega)⟩
theorem bW(hi:nth all i=some o)(hb:nth bs i=some b)(ha:ib o.op=false)(hm:makes o.op=true)
 (h:WO E C all [o] l A fun l1 A1=>WD E C all bs order seen l1 A1 K) : WD E C all bs (i::order) seen l A K:=⟨fun F hF=>by
 obtain⟨F1,A1,l1,hF1,hk,ho⟩:=h.run F hF;obtain⟨n1,ho⟩:=pe ho;obtain⟨F2,A2,l2,hF2,hk2,n2,hd⟩:=hk.run F1 hF1;refine⟨F2,A2,l2,hF2,hk2,n1+n2,fun n hn=>?_⟩;simp only[hH,hi,hb,ho n (by omega),ha,cond_false,hm,cond_true];exact hd n (by omega)⟩
theorem me(hi:nth all i=some o)(hb:nth bs i=some b)(ha:ib o.op=true)
 (h:WO E C all [o] l A fun l1 A1=>zl E C l1 A1 b seen∧WD E C all bs order seen l1 A1 K) : WD E C all bs (i::order) seen l A K:=⟨fun F hF=>by
 obtain⟨F1,A1,l1,hF1,⟨hs,hk⟩,ho⟩:=h.run F hF;obtain⟨n1,ho⟩:=pe ho;obtain⟨F2,A2,l2,hF2,hk2,n2,hd⟩:=hk.run F1 hF1;refine⟨F2,A2,l2,hF2,hk2,n1+n2,fun n hn=>?_⟩;simp only[hH,hi,hb,ho n (by omega),ha,cond_true,xN hF1 hs];exact hd n (by omega)⟩
theorem aL(t:Tmp){x:Bool}(x':Bool)(ht:l.find t=some (.bool x))(hb:x=x')(h:WD E C all bs order seen (.put t (.bool x') l) A K): WD E C all bs order seen l A K:=⟨fun F hF=>h.run F ⟨hF.mask,fun j w hj=>by
 subst hb;simp only[Kn.find] at hj;cases hb:Nat.beq t j<;>rw[hb] at hj
 ·exact hF.get j w hj
 ·cases hj;rw[←Nat.eq_of_beq_eq_true hb];exact hF.get t _ ht⟩⟩
theorem EF{t:TypeId}{v:AV}{n:Nat}(ht:R.gM E t=2)(hn:bm v=some n): eo E t v A=.val (.int .i64 (n:Int)) A:=by
 obtain⟨dt,e,h1,h2⟩:=xL ht;unfold eo;rw[h1];simp only[h2];cases v<;>simp only[bm,Option.some.injEq,reduceCtorEq] at hn<;>subst hn<;>rfl
theorem xO{t:TypeId}{f s o:Nat}{dt:bH}{ro:Bool}{es:Nat}{cs:List AV}{v:AV}(ht:E.cf.get t=some dt)(hg:dt.agg=false)(hf:A.heap.get f=some (.cells s ro es cs))(hn:nth cs o=some v): fR E t (.ptr f s o) A=.val v A:=by
 simp only[fR,ht,hg,cond_false,hf,Nat.beq_refl,cond_true,hn]
theorem kI{k:IntKind}{n:Int}:dC (.int k n) (.int k n)=true:=by
 show (aT k k && Cz n n)=true;rw[dF,nL];simp
theorem cE{id:Nat}{ops:Array Oper}{k:List Item}{R:AV→AW→Prop}(hd:vF C.rW id=some (order,bs))(h:WD E C ops.toList bs order [] l A fun l1 A1=>WG E C k (.clr C.mask l1) A1 R):
 WG E C (.code (.region id ops true)::k) l A R:=⟨fun F hF=>by
 obtain⟨F1,A1,l1,hF1,hk,n1,hr⟩:=h.run F hF;obtain⟨F',A',v,ho,r,n0,h⟩:=hk.run _ hF1.clear;refine⟨F',A',v,ho,r,n0+n1+1,fun n hn=>?_⟩;obtain⟨m,rfl⟩:∃m,n=m+1:=⟨n-1,by omega⟩;show (match Br E C (fun f args A=>gI E f args A (go E m)) id ops.toList true F A with
  | .ok F A=>go E m C k F.clear A
  | .fail m=>.fail m)=_
 have:=hr m (by omega);simp only[Br,cond_true,hd,this];exact h m (by omega)⟩
end
theorem tp:∀l:List Nat,dW l l=true
 | []=>rfl
 | x::l=>by simp only[dW,Nat.beq_refl,cond_true,tp l]
theorem mF:∀a b:List Nat,dW a b=decide (a=b)
 | [],[]=>by simp [dW,isNil]
 | [],_::_=>by simp [dW,isNil]
 | _::_,[]=>by simp [dW]
 | x::xs,y::ys=>by
  simp only[dW,mF xs ys,beq_eq];by_cases h:x=y
  ·subst h;simp
  ·simp [h]
section
variable{E:Env}{C:bC}{all rest:List Oper}{l:Kn}{A A1:AW}{K:Kn→AW→Prop}{d:Tmp}{ty:TypeId}{pos:String}{after:Array Edge}
theorem tt{s t:TypeId}{x:Operand}{w v:AV}(hd:Nat.blt d C.N=true)(hx:dw l x=some w)(hv:fZ E s t w A=.val v A1)(h:WO E C all rest (.put d v l) A1 K):
 WO E C all (⟨some d,.convert s t x,ty,pos,after,none⟩::rest) l A K:=
 bR hd (fun F hF=>by
  show ao (fZ E s t (ev F x) A)=_;rw[hF.ev hx,hv];rfl) h
theorem tu{t t':TypeId}{a b:Operand}{x y:List Nat}(hd:Nat.blt d C.N=true)(ha:dw l a=some (.str x))(hb:dw l b=some (.str y))(h:WO E C all rest (.put d (.bool (decide (x=y))) l) A K):
 WO E C all (⟨some d,.binOp .eql t a b t',ty,pos,after,none⟩::rest) l A K:=
 bR hd (fun F hF=>by
  show ao (kj E .eql t (ev F a) (ev F b) A)=_;rw[hF.ev ha,hF.ev hb];show ao (iZ (dW x y) A)=_;rw[gN,mF];rfl) h
def isBool(E:Env)(t:TypeId): Bool:=
 match E.cf.get t with
 | some d=>(match d.desc with
  | .bool=>true
  | _=>false)
 | none=>false
theorem qA{t:TypeId}(h:isBool E t=true): ∃d,E.cf.get t=some d∧d.desc=.bool:=by
 unfold isBool at h;split at h
 ·rename_i d hd;split at h
  ·rename_i e;exact⟨d,hd,e⟩
  ·cases h
 ·cases h
theorem pK{t t':TypeId}{a b:Operand}{x y:Bool}(hd:Nat.blt d C.N=true)(ha:dw l a=some (.bool x))(hb:dw l b=some (.bool y))(ht:isBool E t=true)(h:WO E C all rest (.put d (.bool (x == y)) l) A K):
 WO E C all (⟨some d,.binOp .eql t a b t',ty,pos,after,none⟩::rest) l A K:=
 bR hd (fun F hF=>by
  obtain⟨dt,h1,h2⟩:=qA ht;show ao (kj E .eql t (ev F a) (ev F b) A)=_;rw[hF.ev ha,hF.ev hb];simp only[kj,h1,h2,gN,ao]) h
theorem pL{t t':TypeId}{a b:Operand}{x y:Bool}(hd:Nat.blt d C.N=true)(ha:dw l a=some (.bool x))(hb:dw l b=some (.bool y))(ht:isBool E t=true)(h:WO E C all rest (.put d (.bool (!(x == y))) l) A K):
 WO E C all (⟨some d,.binOp .neq t a b t',ty,pos,after,none⟩::rest) l A K:=
 bR hd (fun F hF=>by
  obtain⟨dt,h1,h2⟩:=qA ht;show ao (kj E .neq t (ev F a) (ev F b) A)=_;rw[hF.ev ha,hF.ev hb];simp only[kj,h1,h2,gN,ao]) h
theorem tw{t t':TypeId}{a b:Operand}{x y:List Nat}(hd:Nat.blt d C.N=true)(ha:dw l a=some (.str x))(hb:dw l b=some (.str y))(h:WO E C all rest (.put d (.bool (decide (x≠y))) l) A K):
 WO E C all (⟨some d,.binOp .neq t a b t',ty,pos,after,none⟩::rest) l A K:=
 bR hd (fun F hF=>by
  show ao (kj E .neq t (ev F a) (ev F b) A)=_;rw[hF.ev ha,hF.ev hb];show ao (iZ (!dW x y) A)=_;rw[gN,mF,←decide_not];rfl) h
end
end Go.AE
