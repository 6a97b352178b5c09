/- A part of the proof of the statement CheckTypes. -/
import Derived.Test.YtafamggbkobcfaaGreatAiSy4
import Derived.Test.YtafamggbkobcfaaGreatAiFast
import Derived.Test.YtafamggbkobcfaaGreatAiSyTab
namespace Go.AE
set_option linter.unusedVariables false
set_option linter.unusedSimpArgs false
def Row(A:AW)(es:Nat)(v:AV)(n:Nat)(cs:List AV): Prop:=
 ((v=.aj∨∃z,v=.emp z)∧n=0∧cs=[])∨∃f t o c ex ro all,v=.slice f t o n c ex∧A.heap.get f=some (.cells t ro es all)∧n≤c∧takeN (n*es) (aB o all)=some cs
theorem eH.row{A:AW}{es:Nat}{v:AV}{n:Nat}{cs:List AV}(h:eH A es v n cs): Row A es v n cs:=by
 rcases h with ⟨rfl,rfl,rfl⟩|⟨f,t,rfl,h1,h2,h3⟩
 ·exact .inl ⟨.inl rfl,rfl,rfl⟩
 ·refine .inr ⟨f,t,0,n,false,false,cs,rfl,h1,Nat.le_refl _,?_⟩;rw[show aB 0 cs=cs from rfl,br _ _ (by omega),←h2,List.take_length]
theorem Row.length{A:AW}{es:Nat}{v:AV}{n:Nat}{cs:List AV}(h:Row A es v n cs): cs.length=n*es:=by
 rcases h with ⟨_,rfl,rfl⟩|⟨f,t,o,c,ex,ro,all,rfl,h1,h0,h2⟩
 ·simp
 ·exact (eA _ _ _ h2).2
theorem Row.bm{A:AW}{es:Nat}{v:AV}{n:Nat}{cs:List AV}(h:Row A es v n cs): bm v=some n:=by
 rcases h with ⟨rfl|⟨z,rfl⟩,rfl,rfl⟩|⟨f,t,o,c,ex,ro,all,rfl,h1,h0,h2⟩<;>rfl
theorem Row.ae{A A1:AW}{es:Nat}{v:AV}{n:Nat}{cs:List AV}{T:Nat→Prop}(h:Row A es v n cs)(ho:ac A A1 T)(hd:lh v.av T): Row A1 es v n cs:=by
 rcases h with ⟨hv,rfl,rfl⟩|⟨f,t,o,c,ex,ro,all,rfl,h1,h0,h2⟩
 ·exact .inl ⟨hv,rfl,rfl⟩
 ·exact .inr ⟨f,t,o,c,ex,ro,all,rfl,ho.ae f _ h1 (hd f rfl),h0,h2⟩
theorem Row.src{A:AW}{es:Nat}{v:AV}{n:Nat}{cs:List AV}(h:Row A es v n cs): kl A es v=some (n,cs):=by
 rcases h with ⟨rfl|⟨z,rfl⟩,rfl,rfl⟩|⟨f,t,o,c,ex,ro,all,rfl,h1,h0,h2⟩
 ·rfl
 ·rfl
 ·simp only[kl,bU,h1,Nat.beq_refl,cond_true];rw[show Nat.mul n es=n*es from rfl,h2]
theorem Row.under{A:AW}{es:Nat}{v:AV}{n:Nat}{cs:List AV}(hw:Wf A)(h:Row A es v n cs): pd A v.av:=fun g hg=>by
 rcases h with ⟨rfl|⟨z,rfl⟩,_,_⟩|⟨f,t,o,c,ex,ro,all,rfl,h1,h0,h2⟩
 ·exact hg.elim
 ·exact hg.elim
 ·cases hg;exact hw _ _ h1
theorem mf{α:Type}{l cs:List α}{n i k:Nat}(h:takeN n l=some cs)(hk:i+k≤n): takeN k (aB i l)=takeN k (aB i cs):=by
 obtain⟨h1,h2⟩:=eA _ _ _ h;have hl:n≤l.length:=by
  rw[h1,List.length_take] at h2;omega
 rw[cF,cF,br _ _ (by rw[List.length_drop];omega),br _ _ (by rw[List.length_drop];omega),h1,List.drop_take,List.take_take]
 congr 1
 rw[Nat.min_eq_left (by omega)]
theorem kJ{α:Type}(l:List α)(a b:Nat): aB (a+b) l=aB b (aB a l):=by rw[cF,cF,cF,List.drop_drop]
theorem Row.at{A:AW}{es:Nat}{v:AV}{n:Nat}{cs:List AV}(h:Row A es v n cs){i:Nat}(hi:i<n): ∃f t o c ex ro all,v=.slice f t o n c ex∧A.heap.get f=some (.cells t ro es all)∧
 ∀k j,j+k≤es→takeN k (aB (Nat.add (Nat.add o (Nat.mul i es)) j) all)=takeN k (aB (i*es+j) cs):=by
 rcases h with ⟨_,rfl,rfl⟩|⟨f,t,o,c,ex,ro,all,rfl,h1,h0,h2⟩
 ·omega
 ·refine⟨f,t,o,c,ex,ro,all,rfl,h1,fun k j hk=>?_⟩;have e:Nat.add (Nat.add o (Nat.mul i es)) j=o+(i*es+j):=Nat.add_assoc _ _ _;rw[e,kJ,mf h2];have:i*es+es≤n*es:=by rw[←Nat.succ_mul];exact Nat.mul_le_mul_right es hi
  omega
theorem BM{α:Type}(l:List α)(x:α): takeN 1 l=some [x]→nth l 0=some x:=by
 cases l with
 | nil=>intro h;cases h
 | cons y l=>
  intro h;simp only[takeN,Option.some.injEq,List.cons.injEq,and_true] at h;subst h;rfl
theorem Di{α:Type}(l:List α)(n:Nat): nth l n=nth (aB n l) 0:=by simp [fB,cF]
theorem aR{α:Type}{l:List α}{n:Nat}{x:α}(h:takeN 1 (aB n l)=some [x]): nth l n=some x:=by
 rw[Di];exact BM _ _ h
theorem pM{α β:Type}{f:α→List β}{es:Nat}(hf:∀a,(f a).length=es): ∀{l:List α} {i:Nat} {a:α},l[i]?=some a→∀k j,j+k≤es→takeN k (aB (i*es+j) (l.flatMap f))=takeN k (aB j (f a))
 | [],i,a,h,k,j,hk=>by simp at h
 | x::l,0,a,h,k,j,hk=>by
  simp only[List.getElem?_cons_zero,Option.some.injEq] at h;subst h;have:=hf x;rw[List.flatMap_cons,Nat.zero_mul,Nat.zero_add,cF,cF,br _ _ (by simp;omega),br _ _ (by simp;omega),List.drop_append_of_le_length (by omega),List.take_append_of_le_length (by simp;omega)]
 | x::l,i+1,a,h,k,j,hk=>by
  have ih:=pM hf (l:=l) (i:=i) (a:=a) (by simpa using h) k j hk;rw[←ih,List.flatMap_cons];have e:(i+1)*es+j=(f x).length+(i*es+j):=by rw[hf,Nat.succ_mul];omega
  rw[e,kJ]
  congr 1
  rw[cF,cF,cF,List.drop_append_of_le_length (Nat.le_refl _),List.drop_length,List.nil_append]
theorem tA{α β:Type}{f:α→List β}{es:Nat}(hf:∀a,(f a).length=es): ∀l:List α,(l.flatMap f).length=l.length*es
 | []=>by simp
 | x::l=>by rw[List.flatMap_cons,List.length_append,hf,tA hf l,List.length_cons,Nat.succ_mul];omega
theorem Row.drop{E:Env}{A:AW}{t e:TypeId}{d de:bH}{v:AV}{n k:Nat}{cs:List AV}{kk:IntKind}(ht:E.cf.get t=some d)(hs:d.desc=.slice e)(he:E.cf.get e=some de)(h:Row A de.size v n cs)(hk:k<n):
 ∃r,cQ E t v (some (.int kk (k:Int))) none none A=.val r A∧Row A de.size r (n-k) (cs.drop (k*de.size))∧(∀g,r.av g→v.av g)∧oI r r=true:=by
 unfold cQ;rcases h with ⟨_,rfl,rfl⟩|⟨f,u,o,c,ex,ro,all,rfl,h1,h0,h2⟩
 ·omega
 ·simp only[ht,hs,he,eU,h1,Nat.beq_refl,Bool.and_self,cond_true];have e1:bound (some (.int kk (k:Int))) n 0=some k:=by
   show (bif Nat.ble k n then some k else none)=_;rw[Nat.ble_eq_true_of_le (by omega)];rfl
  have e2:bound none c n=some n:=rfl;have hl:=(eA _ _ _ h2).2;have e3:Nat.beq k c=false:=by rw[beq_eq];exact decide_eq_false (by omega)
  simp only[e2,e1,e3,cond_false];refine⟨_,rfl,.inr ⟨f,u,Nat.add o (Nat.mul k de.size),_,ex,ro,all,rfl,h1,by show n-k≤c-k;omega,?_⟩,fun g h=>h,?_⟩
  ·have h5:k*de.size≤n*de.size:=Nat.mul_le_mul_right _ (by omega);have e6:k*de.size+(n-k)*de.size=n*de.size:=by rw[←Nat.add_mul];congr 1;omega
   have e5:aB (Nat.add o (Nat.mul k de.size)) all=aB (k*de.size) (aB o all):=kJ _ _ _;have:=mf (i:=k*de.size) (k:=(n-k)*de.size) h2 (by omega);rw[e5,this,cF,br _ _ (by rw[List.length_drop];omega),List.take_of_length_le (by rw[List.length_drop];omega)]
  ·simp only[oI,Nat.beq_refl,Bool.and_self,beq_self_eq_true]
def Full(A:AW)(es:Nat)(v:AV)(n:Nat)(cs:List AV): Prop:=Row A es v n cs
theorem Full.row{A:AW}{es:Nat}{v:AV}{n:Nat}{cs:List AV}(h:Full A es v n cs): Row A es v n cs:=h
theorem eH.full{A:AW}{es:Nat}{v:AV}{n:Nat}{cs:List AV}(h:eH A es v n cs): Full A es v n cs:=h.row
theorem Full.ae{A A1:AW}{es:Nat}{v:AV}{n:Nat}{cs:List AV}{T:Nat→Prop}(h:Full A es v n cs)(ho:ac A A1 T)(hd:lh v.av T): Full A1 es v n cs:=Row.ae h ho hd
theorem Full.fS{A:AW}{es:Nat}{v:AV}{n:Nat}{cs:List AV}(h:Full A es v n cs): dC v v=true:=by
 rcases h with ⟨rfl|⟨z,rfl⟩,_,_⟩|⟨f,t,o,c,ex,ro,all,rfl,_,_⟩
 ·rfl
 ·show (z == z)=true;simp
 ·show (Nat.beq f f && Nat.beq t t && Nat.beq o o && Nat.beq n n && Nat.beq c c && (ex == ex))=true;simp only[Nat.beq_refl,beq_self_eq_true,Bool.and_self]
theorem Full.cells{A:AW}{es:Nat}{v:AV}{n:Nat}{cs:List AV}(h:Full A es v n cs): cellsOf v=some [v]:=by
 rcases h with ⟨rfl|⟨z,rfl⟩,_,_⟩|⟨f,t,o,c,ex,ro,all,rfl,_,_⟩<;>rfl
section
variable{E:Env}{A:AW}{t e:TypeId}{d de:bH}{v:AV}{n k:Nat}{cs:List AV}{kk:IntKind}
theorem Full.take(ht:E.cf.get t=some d)(hs:d.desc=.slice e)(he:E.cf.get e=some de)(h:Full A de.size v n cs)(hk:k≤n):
 ∃r,cQ E t v none (some (.int kk (k:Int))) none A=.val r A∧Row A de.size r k (cs.take (k*de.size))∧∀g,r.av g→v.av g:=by
 unfold cQ;rcases h with ⟨rfl|⟨z,rfl⟩,rfl,rfl⟩|⟨f,u,o,c,ex,ro,all,rfl,h1,hc,h2⟩
 ·obtain rfl:k=0:=by omega
  simp only[ht,hs,he];exact⟨.aj,rfl,.inl ⟨.inl rfl,rfl,by simp⟩,fun g h=>h⟩
 ·obtain rfl:k=0:=by omega
  simp only[ht,hs,he];exact⟨.emp z,rfl,.inl ⟨.inr ⟨z,rfl⟩,rfl,by simp⟩,fun g h=>h⟩
 ·simp only[ht,hs,he,eU,h1,Nat.beq_refl,Bool.and_self,cond_true];have e1:bound (some (.int kk (k:Int))) c n=some k:=by
   show (bif Nat.ble k c then some k else none)=_;rw[Nat.ble_eq_true_of_le (Nat.le_trans hk hc)];rfl
  have e2:bound none k 0=some 0:=rfl;simp only[e1,e2];by_cases hn:c=0
  ·subst hn;obtain rfl:k=0:=by omega
   exact⟨_,rfl,.inl ⟨.inr ⟨ex,rfl⟩,rfl,by simp⟩,fun g h=>h.elim⟩
  ·have e3:Nat.beq 0 c=false:=by rw[beq_eq];exact decide_eq_false (by omega)
   rw[e3];refine⟨_,rfl,.inr ⟨f,u,Nat.add o (Nat.mul 0 de.size),Nat.sub c 0,ex,ro,all,rfl,h1,by show k-0≤c-0;omega,?_⟩,fun g h=>h⟩;have e4:Nat.add o (Nat.mul 0 de.size)=o:=by show o+0*de.size=o;omega
   have h5:k*de.size≤n*de.size:=Nat.mul_le_mul_right _ hk;have:=mf (i:=0) (k:=k*de.size) h2 (by omega);rw[e4];rw[show aB 0 (aB o all)=aB o all from rfl,show aB 0 cs=cs from rfl] at this;rw[this,br _ _ (by rw[(eA _ _ _ h2).2];exact h5)]
theorem Full.drop(ht:E.cf.get t=some d)(hs:d.desc=.slice e)(he:E.cf.get e=some de)(h:Full A de.size v n cs)(hk:k≤n):
 ∃r,cQ E t v (some (.int kk (k:Int))) none none A=.val r A∧Full A de.size r (n-k) (cs.drop (k*de.size))∧∀g,r.av g→v.av g:=by
 unfold cQ;rcases h with ⟨rfl|⟨z,rfl⟩,rfl,rfl⟩|⟨f,u,o,c,ex,ro,all,rfl,h1,hc,h2⟩
 ·obtain rfl:k=0:=by omega
  simp only[ht,hs,he];exact⟨.aj,rfl,.inl ⟨.inl rfl,rfl,by simp⟩,fun g h=>h⟩
 ·obtain rfl:k=0:=by omega
  simp only[ht,hs,he];exact⟨.emp z,rfl,.inl ⟨.inr ⟨z,rfl⟩,rfl,by simp⟩,fun g h=>h⟩
 ·simp only[ht,hs,he,eU,h1,Nat.beq_refl,Bool.and_self,cond_true];have e1:bound (some (.int kk (k:Int))) n 0=some k:=by
   show (bif Nat.ble k n then some k else none)=_;rw[Nat.ble_eq_true_of_le hk];rfl
  have e2:bound none c n=some n:=rfl;have hl:=(eA _ _ _ h2).2;simp only[e2,e1];by_cases hn:k=c
  ·subst hn;obtain rfl:k=n:=by omega
   rw[Nat.beq_refl];exact⟨_,rfl,.inl ⟨.inr ⟨ex,rfl⟩,Nat.sub_self _,by rw[←hl,List.drop_length]⟩,fun g h=>h.elim⟩
  ·have e3:Nat.beq k c=false:=by rw[beq_eq];exact decide_eq_false hn
   rw[e3];refine⟨_,rfl,.inr ⟨f,u,Nat.add o (Nat.mul k de.size),Nat.sub c k,ex,ro,all,rfl,h1,by show n-k≤c-k;omega,?_⟩,fun g h=>h⟩;have h5:k*de.size≤n*de.size:=Nat.mul_le_mul_right _ hk;have e6:k*de.size+(n-k)*de.size=n*de.size:=by rw[←Nat.add_mul];congr 1;omega
   have e5:aB (Nat.add o (Nat.mul k de.size)) all=aB (k*de.size) (aB o all):=kJ _ _ _;have:=mf (i:=k*de.size) (k:=(n-k)*de.size) h2 (by omega);rw[e5,this,cF,br _ _ (by rw[List.length_drop];omega),List.take_of_length_le (by rw[List.length_drop];omega)]
end
theorem eH.slice{A:AW}{es:Nat}{v:AV}{n:Nat}{cs:List AV}(h:eH A es v n cs)(hn:0<n): ∃f t,v=.slice f t 0 n n false∧A.heap.get f=some (.cells t false es cs)∧cs.length=n*es:=by
 rcases h with ⟨_,h,_⟩|⟨f,t,h1,h2,h3,_⟩
 ·omega
 ·exact⟨f,t,h1,h2,h3⟩
theorem eH.put{A:AW}{es f t:Nat}{n:Nat}{cs cs':List AV}(h:eH A es (.slice f t 0 n n false) n cs)(hl:cs'.length=cs.length): eH (A.put f (.cells t false es cs')) es (.slice f t 0 n n false) n cs':=by
 rcases h with ⟨h,_⟩|⟨f',t',h1,h2,h3,h4⟩
 ·cases h
 ·cases h1;exact .inr ⟨f,t,rfl,by simp,by omega,h4⟩
def AllRo(A:AW): Prop:=∀f F,A.heap.get f=some F→F.ro=true
open Go.RowKit in
theorem topP[bu]{E:Env}(hE:dD E){f:FuncId}{args:List AV}{A:AW}{μ:Mp}{w:World}{cargs:Array Value}{R:AV→AW→Prop}(h:aD E f args A R)(hr:∀v A1,R v A1→v=.bool true)(hro:AllRo A)(hR:Rel w.heap.size μ A w)(ha:bK μ args cargs.toList):
 Calls E.P f cargs w fun e w'=>e=.returned (.bool true)∧Below w.heap.size w w':=by
 obtain⟨v,A1,r,n0,hc⟩:=h;have hv:=hr v A1 r;subst hv;refine (AG hE n0 f args A (.bool true) A1 μ w cargs (hc n0 (Nat.le_refl _)) hR ha).mono ?_;rintro e w' ⟨cv,μ',rfl,hv,hs⟩;cases hv;exact⟨rfl,hs.os,hs.tape,hs.output,hs.size,fun k hk=>hs.wU k hk fun g F t p hF hf=>by rw[hro g F hF] at hf;cases hf⟩
section
variable{E:Env}{C:bC}{all rest:List Oper}{l:Kn}{A:AW}{K:Kn→AW→Prop}{d:Tmp}{ty:TypeId}{pos:String}{after:Array Edge}
def Dj(l:Kn): Option Operand→Option (Option AV)
 | none=>some none
 | some x=>(match dw l x with
  | some v=>some (some v)
  | none=>none)
theorem pN{F:Fr}(hF:Kf C l F){x:Option Operand}{v:Option AV}(h:Dj l x=some v): vD F x=v:=by
 cases x with
 | none=>exact Option.some.inj h
 | some x=>
  simp only[Dj] at h;split at h
  ·rename_i w hw;cases h;show some (ev F x)=_;rw[hF.ev hw]
  ·cases h
theorem bQ{t:TypeId}{x:Operand}{lo hi mx:Option Operand}{v:AV}{a b c:Option AV}{Q:AV→Prop}(hd:Nat.blt d C.N=true)(hx:dw l x=some v)(h1:Dj l lo=some a)(h2:Dj l hi=some b)(h3:Dj l mx=some c)
 (hv:∃r,cQ E t v a b c A=.val r A∧Q r) (h:∀r,Q r→WO E C all rest (.put d r l) A K) : WO E C all (⟨some d,.slice t x lo hi mx,ty,pos,after,none⟩::rest) l A K:=by
 obtain⟨r,hv,q⟩:=hv;refine bR hd (fun F hF=>?_) (h r q);show ao (cQ E t (ev F x) (vD F lo) (vD F hi) (vD F mx) A)=_;rw[hF.ev hx,pN hF h1,pN hF h2,pN hF h3,hv];rfl
theorem aF(t:Tmp){b:Bool}(b':Bool)(ht:l.find t=some (.bool b))(hb:b=b')(h:WO E C all rest (.put t (.bool b') l) A K): WO E C all rest l A K:=by
 subst hb;exact Et ht (fun e=>e▸h) (fun e=>e▸h)
end
end Go.AE
namespace Go.Proofs.YtafamggbkobcfaaGreat.Ae
open Go.AE
structure Hid (P:Prop) : Prop where
 out:P
theorem gO{P Q:Prop}(k:Q)(h:Hid Q→P:=by
 intro k'
 repeat (first|refine ld ?_|refine jd ?_|refine ma ?_|refine te ?_|refine nW ?_|refine nX ?_|refine ik ?_|refine pH ?_|refine we rfl rfl ?_|refine pI rfl rfl ?_|refine lg rfl rfl rfl ?_|refine mc rfl rfl ?_|refine nY rfl rfl rfl ?_|refine aZ rfl rfl rfl rfl (by assumption) rfl ?_|refine zd rfl rfl rfl ?_|refine ze rfl rfl rfl ?_|refine zf rfl rfl rfl ?_|refine zg rfl rfl rfl ?_|refine zh rfl rfl rfl ?_|refine zi rfl rfl rfl ?_|refine zj rfl rfl ?_|refine pJ rfl rfl rfl ?_|refine gP rfl rfl rfl rfl ?_|refine bq rfl rfl rfl ?_|refine pa rfl rfl rfl ?_|refine wg rfl rfl rfl ?_|refine tu rfl rfl rfl ?_|refine pK rfl rfl rfl rfl ?_|refine pL rfl rfl rfl rfl ?_|refine tw rfl rfl rfl ?_|refine aM rfl ?_|refine zc rfl rfl ?_|refine wd rfl ?_)
 exact k'.out) : P:=h ⟨k⟩
theorem rU{P Q:Prop}(k:Q)(h:Hid Q→P:=by
 intro k'
 repeat (first|refine ld ?_|refine jd ?_|refine ma ?_|refine te ?_|refine nW ?_|refine nX ?_|refine ik ?_|refine pH ?_|refine we rfl rfl ?_|refine pI rfl rfl ?_|refine lg rfl rfl rfl ?_|refine mc rfl rfl ?_|refine nY rfl rfl rfl ?_|refine aZ rfl rfl rfl rfl (by assumption) rfl ?_|refine zd rfl rfl rfl ?_|refine ze rfl rfl rfl ?_|refine zf rfl rfl rfl ?_|refine zg rfl rfl rfl ?_|refine zh rfl rfl rfl ?_|refine zi rfl rfl rfl ?_|refine zj rfl rfl ?_|refine pJ rfl rfl rfl ?_|refine gP rfl rfl rfl rfl ?_|refine bq rfl rfl rfl ?_|refine pa rfl rfl rfl ?_|refine wg rfl rfl rfl ?_|refine tu rfl rfl rfl ?_|refine pK rfl rfl rfl rfl ?_|refine pL rfl rfl rfl rfl ?_|refine tw rfl rfl rfl ?_|refine aM rfl ?_|refine zc rfl rfl ?_|refine wd rfl ?_|refine lf rfl ?_|refine da rfl ?_)
 exact k'.out) : P:=h ⟨k⟩
theorem oP{P Q:Prop}(k:Q)(h:Hid Q→P:=by
 intro k'
 repeat (first|refine pH ?_|refine we rfl rfl ?_|refine pI rfl rfl ?_|refine lg rfl rfl rfl ?_|refine mc rfl rfl ?_|refine nY rfl rfl rfl ?_|refine aZ rfl rfl rfl rfl (by assumption) rfl ?_|refine zd rfl rfl rfl ?_|refine ze rfl rfl rfl ?_|refine zf rfl rfl rfl ?_|refine zg rfl rfl rfl ?_|refine zh rfl rfl rfl ?_|refine zi rfl rfl rfl ?_|refine zj rfl rfl ?_|refine pJ rfl rfl rfl ?_|refine gP rfl rfl rfl rfl ?_|refine bq rfl rfl rfl ?_|refine pa rfl rfl rfl ?_|refine wg rfl rfl rfl ?_|refine tu rfl rfl rfl ?_|refine pK rfl rfl rfl rfl ?_|refine pL rfl rfl rfl rfl ?_|refine tw rfl rfl rfl ?_|refine aM rfl ?_|refine zc rfl rfl ?_|refine wd rfl ?_)
 exact k'.out) : P:=h ⟨k⟩
theorem wG{P Q:Prop}(k:Q)(h:Hid Q→P:=by
 intro k'
 repeat (first|refine ld ?_|refine jd ?_|refine ma ?_|refine te ?_|refine nW ?_|refine nX ?_)
 exact k'.out) : P:=h ⟨k⟩
theorem sQ{P Q:Prop}(k:Q)(h:Hid Q→P:=by
 intro k'
 repeat (first|refine pH ?_|refine ld ?_|refine jd ?_)
 exact k'.out) : P:=h ⟨k⟩
theorem dR {P Q : Prop} (k : Q) (h : Hid Q → P := by
  intro k'
  repeat (first
    | (refine ax rfl rfl rfl rfl rfl ?_
       refine oP ?_;refine ⟨rfl, ?_⟩)
    | (refine jZ rfl rfl rfl rfl rfl rfl rfl ?_
       refine oP ?_;refine ⟨rfl, _, rfl, ?_⟩))
  exact k'.out) : P := h ⟨k⟩
theorem dO {P Q : Prop} (k : Q) (h : Hid Q → P := by
  intro k'
  repeat (first
    | (refine wd_off rfl rfl rfl rfl rfl ?_
       refine oP ?_;refine ⟨rfl, ?_⟩)
    | (refine ax rfl rfl rfl rfl rfl ?_
       refine oP ?_;refine ⟨rfl, ?_⟩)
    | (refine jZ rfl rfl rfl rfl rfl rfl rfl ?_
       refine oP ?_;refine ⟨rfl, _, rfl, ?_⟩))
  exact k'.out) : P := h ⟨k⟩
theorem sK{P Q:Prop}(k:Q)(h:Hid Q→P:=by
 intro k';refine⟨?_,?_⟩
 ·repeat (first|exact trivial|refine⟨.inl (by dsimp only;rfl),?_⟩|refine⟨.inr (stillG rfl rfl rfl (by assumption) (by first|rfl|assumption) (by first|exact kI|exact tC|exact stillB|exact EG|exact stillQ|assumption)),?_⟩|refine⟨.inr (stillA rfl rfl rfl (by assumption) (by first|rfl|assumption) (by assumption)),?_⟩|refine⟨.inr (Dk rfl rfl (by assumption)),?_⟩)
 exact k'.out) : P:=h ⟨k⟩
end Go.Proofs.YtafamggbkobcfaaGreat.Ae
namespace Go.AE
open Go.Proofs.YtafamggbkobcfaaGreat.Ae
set_option linter.unusedVariables false
theorem om{P:Prop}(h:P:=by omega): P:=h
theorem nO{P:Prop}(h:P:=by first|exact fun h=>h|assumption|(intro e;refine absurd (Or.inl e) ?_;assumption)|(intro e;have e:_=_:=e;omega)|(intro e;cases e;omega)): P:=h
theorem nF{P:Prop}(h:P:=by intro g hg;cases hg;omega): P:=h
theorem nA{P:Prop}(h:P:=by first|omega|(intro;intros;first|omega|(repeat (first|omega|refine⟨by omega,?_⟩)))): P:=h
theorem nD{P:Prop}(h:P:=by first|exact fun _ _ h=>h|(intro g hg e;have e:g=_:=e;first|(cases e;omega)|omega|(rcases hg with hg|hg<;>omega)|(cases e;have:=(h.fg hw).1;omega)|(have:=gb g hg;omega))): P:=h
section
variable{A A':AW}{T:Nat→Prop}{f1 f2 f3 f4 f5 f6 f7:Nat}{x1 x2 x3 x4 x5 x6 x7:eI}
theorem ac.k(o:ac A A' T)(c1:A.heap.get f1=some x1)(h1:¬T f1:=by exact nO): A'.heap.get f1=some x1:=o.ae _ _ c1 h1
theorem ac.k2(o:ac A A' T)(c1:A.heap.get f1=some x1)(c2:A.heap.get f2=some x2)(h1:¬T f1:=by exact nO)(h2:¬T f2:=by exact nO): A'.heap.get f1=some x1∧A'.heap.get f2=some x2:=⟨o.k c1 h1,o.k c2 h2⟩
theorem ac.k3(o:ac A A' T)(c1:A.heap.get f1=some x1)(c2:A.heap.get f2=some x2)(c3:A.heap.get f3=some x3)(h1:¬T f1:=by exact nO)(h2:¬T f2:=by exact nO)(h3:¬T f3:=by exact nO): A'.heap.get f1=some x1∧A'.heap.get f2=some x2∧A'.heap.get f3=some x3:=⟨o.k c1 h1,o.k2 c2 c3 h2 h3⟩
theorem ac.k4(o:ac A A' T)(c1:A.heap.get f1=some x1)(c2:A.heap.get f2=some x2)(c3:A.heap.get f3=some x3)(c4:A.heap.get f4=some x4)(h1:¬T f1:=by exact nO)(h2:¬T f2:=by exact nO)(h3:¬T f3:=by exact nO)(h4:¬T f4:=by exact nO): A'.heap.get f1=some x1∧A'.heap.get f2=some x2∧A'.heap.get f3=some x3∧A'.heap.get f4=some x4:=⟨o.k c1 h1,o.k3 c2 c3 c4 h2 h3 h4⟩
theorem ac.k5(o:ac A A' T)(c1:A.heap.get f1=some x1)(c2:A.heap.get f2=some x2)(c3:A.heap.get f3=some x3)(c4:A.heap.get f4=some x4)(c5:A.heap.get f5=some x5)(h1:¬T f1:=by exact nO)(h2:¬T f2:=by exact nO)(h3:¬T f3:=by exact nO)(h4:¬T f4:=by exact nO)(h5:¬T f5:=by exact nO): A'.heap.get f1=some x1∧A'.heap.get f2=some x2∧A'.heap.get f3=some x3∧A'.heap.get f4=some x4∧A'.heap.get f5=some x5:=⟨o.k c1 h1,o.k4 c2 c3 c4 c5 h2 h3 h4 h5⟩
theorem ac.k6(o:ac A A' T)(c1:A.heap.get f1=some x1)(c2:A.heap.get f2=some x2)(c3:A.heap.get f3=some x3)(c4:A.heap.get f4=some x4)(c5:A.heap.get f5=some x5)(c6:A.heap.get f6=some x6)(h1:¬T f1:=by exact nO)(h2:¬T f2:=by exact nO)(h3:¬T f3:=by exact nO)(h4:¬T f4:=by exact nO)(h5:¬T f5:=by exact nO)(h6:¬T f6:=by exact nO): A'.heap.get f1=some x1∧A'.heap.get f2=some x2∧A'.heap.get f3=some x3∧A'.heap.get f4=some x4∧A'.heap.get f5=some x5∧A'.heap.get f6=some x6:=⟨o.k c1 h1,o.k5 c2 c3 c4 c5 c6 h2 h3 h4 h5 h6⟩
theorem eH.k{es n:Nat}{v:AV}{cs:List AV}(h:eH A es v n cs)(o:ac A A' T)(hd:lh v.av T:=by exact nD): eH A' es v n cs:=h.ae o hd
theorem Row.k{es n:Nat}{v:AV}{cs:List AV}(h:Row A es v n cs)(o:ac A A' T)(hd:lh v.av T:=by exact nD): Row A' es v n cs:=h.ae o hd
end
abbrev pv(t:Nat)(v:AV)(k:Kn): Kn:=.put t v k
abbrev pp(t f:Nat)(k:Kn): Kn:=.put t (.ptr f 0 0) k
abbrev pn(t n:Nat)(k:Kn): Kn:=.put t (.int .i64 (n:Int)) k
theorem made0{A:AW}{es:Nat}{cs cs':List AV}(hw:Wf A): ac A ((A.add (.cells 0 false es cs)).put A.aa (.cells 0 false es cs')) ag:=by
 have oa:ac A (A.add (.cells 0 false es cs)) ag:=ac.add hw _;have op:=ac.put (x:=.cells 0 false es cs') oa.wf (f:=A.aa) (Nat.lt_succ_self _);exact⟨op.wf,Nat.le_trans oa.aa op.aa,fun g F hg hn=>op.ae g F (oa.ae g F hg hn) fun e=>by
  have:=hw g F hg;cases e;omega⟩
section
variable{E:Env}{C:bC}{all rest:List Oper}{l:Kn}{A A1:AW}{K:Kn→AW→Prop}{d:Tmp}{ty t:TypeId}{pos:String}{after:Array Edge}{RR:AV→AW→Prop}{todo:List Item}{a x i:Operand}{f s o n m:Nat}{ro:Bool}{cs vs xs y z:List AV}{v:AV}{dt:bH}
theorem yL(l':Kn)(h:WG E C todo l' A RR)(hl:l'.le l:=by repeat (first|exact trivial|refine⟨rfl,?_⟩)): WG E C todo l A RR:=bY l' h hl
theorem wT(t:Tmp){p:Prop}[Decidable p](hp:p)(h:WO E C all rest (.put t (.bool true) l) A K)(ht:l.find t=some (.bool (decide p)):=by exact rfl): WO E C all rest l A K:=aF t true ht (decide_eq_true hp) h
theorem wF(t:Tmp){p:Prop}[Decidable p](hp:¬p)(h:WO E C all rest (.put t (.bool false) l) A K)(ht:l.find t=some (.bool (decide p)):=by exact rfl): WO E C all rest l A K:=aF t false ht (decide_eq_false hp) h
theorem zG{c:Operand}{a b:Code}{k:List Item}{p:Prop}[Decidable p](h1:p→WG E C (.code a::k) l A RR)(h2:¬p→WG E C (.code b::k) l A RR)(hc:dw l c=some (.bool (decide p)):=by exact rfl): WG E C (.code (.cond c a b)::k) l A RR:=cD hc h1 h2
theorem zL(hf:A.heap.get f=some (.cells s ro n vs))(h:WO E C all rest (.put d (.agg vs) l) A K)(hd:Nat.blt d C.N=true:=by exact rfl)(ha:dw l a=some (.ptr f s 0):=by exact rfl)(ht:E.cf.get t=some dt:=by exact rfl)(hg:dt.agg=true:=by exact rfl)(hn:takeN dt.size vs=some vs:=by exact rfl): WO E C all (⟨some d,.load t a,ty,pos,after,none⟩::rest) l A K:=bS hd ha ht hg hf hn h
theorem zK(hf:A.heap.get f=some (.cells s ro n cs))(hn:takeN m (aB o cs)=some vs)(h:WO E C all rest (.put d (.agg vs) l) A K)(hd:Nat.blt d C.N=true:=by exact rfl)(ha:dw l a=some (.ptr f s o):=by exact rfl)(ht:E.cf.get t=some dt:=by exact rfl)(hg:dt.agg=true:=by exact rfl)(hm:dt.size=m:=by exact rfl): WO E C all (⟨some d,.load t a,ty,pos,after,none⟩::rest) l A K:=bS hd ha ht hg hf (by rw[hm];exact hn) h
theorem zE(hf:A.heap.get f=some (.cells s ro n cs))(hn:nth cs o=some v)(h:WO E C all rest (.put d v l) A K)(hd:Nat.blt d C.N=true:=by exact rfl)(ha:dw l a=some (.ptr f s o):=by exact rfl)(ht:E.cf.get t=some dt:=by exact rfl)(hg:dt.agg=false:=by exact rfl): WO E C all (⟨some d,.load t a,ty,pos,after,none⟩::rest) l A K:=aZ hd ha ht hg hf hn h
theorem zP{t':TypeId}{b:Operand}{x y:Int}(h:WO E C all rest (.put d (.int .i64 (x+y)) l) A K)(hd:Nat.blt d C.N=true:=by exact rfl)(ha:dw l a=some (.int .i64 x):=by exact rfl)(hb:dw l b=some (.int .i64 y):=by exact rfl)(h1:-9223372036854775808≤x+y:=by omega)(h2:x+y<9223372036854775808:=by omega): WO E C all (⟨some d,.binOp .add t a b t',ty,pos,after,none⟩::rest) l A K:=il hd ha hb h1 h2 h
theorem zJ{v:AV}(hn:bm v=some n)(h:WO E C all rest (.put d (.int .i64 (n:Int)) l) A K)(hd:Nat.blt d C.N=true:=by exact rfl)(ha:dw l a=some v:=by exact rfl)(ht:R.gM E t=2:=by exact rfl): WO E C all (⟨some d,.call ⟨.builtin .len,#[a],#[t]⟩,ty,pos,after,none⟩::rest) l A K:=gP hd ha ht hn h
theorem zI{sz c:Nat}{ex:Bool}{k:IntKind}{z:Int}(m:Nat)(hv:v=.slice f s o n c ex)(hm:m<n)(h:WO E C all rest (.put d (.ptr f s (Nat.add o (Nat.mul m sz))) l) A K)(hd:Nat.blt d C.N=true:=by exact rfl)(hx:dw l x=some v:=by exact rfl)(hi:dw l i=some (.int k z):=by exact rfl)(ht:R.elemOf E t=some sz:=by exact rfl)(hz:z=(m:Int):=by exact rfl): WO E C all (⟨some d,.indexAddr t x i,ty,pos,after,none⟩::rest) l A K:=bg m hd (hx.trans (congrArg some hv)) hi ht hz hm h
theorem zS(hf:A.heap.get f=some (.cells s false n cs))(h:WO E C all rest l (A.put f (.cells s false n y)) K)(ha:dw l a=some (.ptr f s o):=by exact rfl)(hx:dw l x=some v:=by exact rfl)(hc:cellsOf v=some xs:=by exact rfl)(ht:E.cf.get t=some dt:=by exact rfl)(hl:Nat.beq (len xs) dt.size=true:=by exact rfl)(h0:isNil xs=false:=by exact rfl)(hp:iL o xs cs=some y:=by exact rfl): WO E C all (⟨none,.store t a x,ty,pos,after,none⟩::rest) l A K:=bx ha hx hc ht hl h0 hf hp h
theorem zB(hw:Wf A)(h:∀A',ac A A' ag→A'.heap.get A.aa=some (.cells 0 false n y)→WO E C all rest (.put d (.ptr A.aa 0 0) l) A' K)(hd:Nat.blt d C.N=true:=by exact rfl)(hx:dw l x=some v:=by exact rfl)(ht:E.cf.get t=some dt:=by exact rfl)(hc:cellsOf v=some y:=by exact rfl)(he:kO E dt=n:=by exact rfl): WO E C all (⟨some d,.box t x,ty,pos,after,none⟩::rest) l A K:=by
 subst he;exact bA hd hx ht hc (h _ (ac.add hw _) (by rw[AW.add_get,if_pos rfl]))
theorem zA(hw:Wf A)(h:∀A',ac A A' ag→A'.heap.get A.aa=some (.cells 0 false n y)→WO E C all rest (.put d (.ptr A.aa 0 0) l) A' K)(hd:Nat.blt d C.N=true:=by exact rfl)(ht:E.cf.get t=some dt:=by exact rfl)(hz:dt.zero=some y:=by exact rfl)(he:kO E dt=n:=by exact rfl): WO E C all (⟨some d,.alloc t,ty,pos,after,none⟩::rest) l A K:=by
 subst he;exact aq hd ht hz (h _ (ac.add hw _) (by rw[AW.add_get,if_pos rfl]))
theorem zS2(hw:Wf A)(hf:A.heap.get f=some (.cells 0 false n cs))(h:∀A',ac A A' (one f)→A'.heap.get f=some (.cells 0 false n y)→WO E C all rest l A' K)(ha:dw l a=some (.ptr f 0 o):=by exact rfl)(hx:dw l x=some v:=by exact rfl)(hc:cellsOf v=some xs:=by exact rfl)(ht:E.cf.get t=some dt:=by exact rfl)(hl:Nat.beq (len xs) dt.size=true:=by exact rfl)(h0:isNil xs=false:=by exact rfl)(hp:iL o xs cs=some y:=by exact rfl): WO E C all (⟨none,.store t a x,ty,pos,after,none⟩::rest) l A K:=
 bx ha hx hc ht hl h0 hf hp (h _ (ac.put hw (hw _ _ hf)) (by rw[AW.aw,if_pos rfl]))
theorem zC{f:FuncId}{args:Array Operand}{cf:Array TypeId}{Q:AV→AW→Prop}(ha:vZ l args.toList=some vs)(hc:aD E f vs A Q)(h:∀v A1,Q v A1→WO E C all rest (.put d v l) A1 K)(hd:Nat.blt d C.N=true:=by exact rfl)(ho:E.uo f vs=none:=by exact bF)(hb:R.hasB E f=true:=by exact rfl): WO E C all (⟨some d,.call ⟨.value (.func f),args,cf⟩,ty,pos,after,none⟩::rest) l A K:=cY hd ha ho hb hc h
theorem zM{ty':TypeId}{pos':String}{after':Array Edge}(hw:Wf A)(h:∀A',ac A A' ag→A'.heap.get A.aa=some (.cells 0 false n y)→WO E C all rest (.put d (.ptr A.aa 0 0) l) A' K)(hd:Nat.blt d C.N=true:=by exact rfl)(ht:E.cf.get t=some dt:=by exact rfl)(hz:dt.zero=some z:=by exact rfl)(he:kO E dt=n:=by exact rfl)
 (ha:dw (.put d (.ptr A.aa 0 0) l) a=some (.ptr A.aa 0 0):=by exact rfl) (hx:dw (.put d (.ptr A.aa 0 0) l) x=some v:=by exact rfl) (hc:cellsOf v=some xs:=by exact rfl) (hl:Nat.beq (len xs) dt.size=true:=by exact rfl) (h0:isNil xs=false:=by exact rfl) (hp:iL 0 xs z=some y:=by exact rfl) : WO E C all (⟨some d,.alloc t,ty,pos,after,none⟩::⟨none,.store t a x,ty',pos',after',none⟩::rest) l A K:=by
 subst he;exact aq hd ht hz (bx ha hx hc ht hl h0 (by rw[AW.add_get,if_pos rfl]) hp (h _ (made0 hw) (by rw[AW.aw,if_pos rfl])))
end
theorem aC{P Q:Prop}(k:Q)(h:Hid Q→P:=by intro k';refine dR ?_;refine me rfl rfl rfl ?_;(try refine aM rfl ?_);exact k'.out): P:=h ⟨k⟩
theorem rD{P Q:Prop}(k:Q)(h:Hid Q→P:=by intro k';refine dR ?_;refine jZ rfl rfl rfl rfl rfl rfl rfl ?_;(try refine aM rfl ?_);exact k'.out): P:=h ⟨k⟩
theorem eR{P Q:Prop}(k:Q)(h:Hid Q→P:=by intro k';refine oP ?_;refine⟨rfl,_,rfl,?_⟩;exact k'.out): P:=h ⟨k⟩
theorem eP{P Q:Prop}(k:Q)(h:Hid Q→P:=by intro k';refine oP ?_;refine⟨rfl,?_⟩;exact k'.out): P:=h ⟨k⟩
theorem sA{P Q:Prop}(k:Q)(h:Hid Q→P:=by intro k';refine oP ?_;refine sK ?_;exact k'.out): P:=h ⟨k⟩
theorem tD{P Q:Prop}(k:Q)(h:Hid Q→P:=by intro k';refine gO ?_;refine cE rfl ?_;refine dR ?_;exact k'.out): P:=h ⟨k⟩
theorem eD{P Q:Prop}(k:Q)(h:Hid Q→P:=by intro k';refine dR ?_;refine aK ?_;refine gO ?_;exact k'.out): P:=h ⟨k⟩
theorem wL{S P Q:Prop}(c:S)(k:Q)(h:S→Hid Q→P:=by intro c k';refine gO ?_;refine zL c ?_;refine gO ?_;exact k'.out): P:=h c ⟨k⟩
theorem wK{S T P Q:Prop}(c:S)(d:T)(k:Q)(h:S→T→Hid Q→P:=by intro c d k';refine gO ?_;refine zK c d ?_;refine gO ?_;exact k'.out): P:=h c d ⟨k⟩
theorem wE{S T P Q:Prop}(c:S)(d:T)(k:Q)(h:S→T→Hid Q→P:=by intro c d k';refine gO ?_;refine zE c d ?_;refine gO ?_;exact k'.out): P:=h c d ⟨k⟩
theorem wJ{S P Q:Prop}(c:S)(k:Q)(h:S→Hid Q→P:=by intro c k';refine gO ?_;refine zJ c ?_;refine gO ?_;exact k'.out): P:=h c ⟨k⟩
theorem wI{S T P Q:Prop}(c:S)(d:T)(k:Q)(h:S→T→Hid Q→P:=by intro c d k';refine gO ?_;refine zI _ c d ?_;refine gO ?_;exact k'.out): P:=h c d ⟨k⟩
theorem wP{P Q:Prop}(k:Q)(h:Hid Q→P:=by intro k';refine gO ?_;refine zP ?_;refine gO ?_;exact k'.out): P:=h ⟨k⟩
theorem wS{S P Q:Prop}(c:S)(k:Q)(h:S→Hid Q→P:=by intro c k';refine gO ?_;refine zS c ?_;refine gO ?_;exact k'.out): P:=h c ⟨k⟩
theorem wC{S P Q:Prop}(c:S)(k:Q)(h:S→Hid Q→P:=by intro c k';refine gO ?_;refine zC rfl c ?_;exact k'.out): P:=h c ⟨k⟩
theorem wX{P Q:Prop}(k:Q)(h:Hid Q→P:=by intro k';refine gO ?_;refine ay rfl ?_;refine gO ?_;exact k'.out): P:=h ⟨k⟩
theorem wD{a P Q Q':Prop}(k:a→Q)(k2:¬a→Q')(h:Hid (a→Q)→Hid (¬a→Q')→P:=by intro k k2;refine gO ?_;refine zG ?_ ?_;exact k.out;exact k2.out): P:=h ⟨k⟩ ⟨k2⟩
theorem yT{p:Prop}[Decidable p](h:p): decide p=true:=decide_eq_true h
theorem yF{p:Prop}[Decidable p](h:¬p): decide p=false:=decide_eq_false h
theorem iP{c:Prop}{h:Decidable c}(hc:c){α:Sort _}{t e:α}:ite c t e=t:=if_pos hc
theorem iN{c:Prop}{h:Decidable c}(hc:¬c){α:Sort _}{t e:α}:ite c t e=e:=if_neg hc
theorem dE{P:Prop}(h:P:=by first|decide|exact Nat.le_of_ble_eq_true rfl): P:=h
section
variable{α β:Type _}
theorem lA{l m:List α}:(l++m).length=l.length+m.length:=List.length_append
theorem lC{a:α}{l:List α}:(a::l).length=l.length+1:=List.length_cons
theorem lM{l:List α}(f:α→β): (l.map f).length=l.length:=List.length_map f
theorem lS{a:α}:[a].length=1:=List.length_singleton
theorem aN(l:List α): l++[]=l:=List.append_nil l
theorem aA(l m cs:List α): l++m++cs=l++(m++cs):=List.append_assoc l m cs
theorem mA{f:α→β}{l m:List α}:(l++m).map f=l.map f++m.map f:=List.map_append
theorem gE{l:List α}{i:Nat}(h:i<l.length): l[i]?=some l[i]:=List.getElem?_eq_getElem h
theorem mG{l:List α}{i:Nat}{a:α}(h:l[i]?=some a): a∈l:=List.mem_of_getElem? h
theorem fA{l m:List α}{f:α→List β}:(l++m).flatMap f=l.flatMap f++m.flatMap f:=List.flatMap_append
theorem tL{l:List α}:l.take l.length=l:=List.take_length
theorem tS{i:Nat}{l:List α}(h:i<l.length): l.take (i+1)=l.take i++[l[i]]:=List.take_succ_eq_append_getElem h
end
abbrev pz(t:Nat)(z:Int)(k:Kn): Kn:=.put t (.int .i64 z) k
abbrev pb(t:Nat)(b:Bool)(k:Kn): Kn:=.put t (.bool b) k
abbrev s0(n:Nat): Nat→Prop:=fun g=>n≤g
abbrev s1(n a:Nat): Nat→Prop:=fun g=>n≤g∧g≠a
abbrev s2(n a b:Nat): Nat→Prop:=fun g=>n≤g∧g≠a∧g≠b
abbrev s3(n a b c:Nat): Nat→Prop:=fun g=>n≤g∧g≠a∧g≠b∧g≠c
abbrev s4(n a b c d:Nat): Nat→Prop:=fun g=>n≤g∧g≠a∧g≠b∧g≠c∧g≠d
abbrev gt(A:AW)(f n:Nat)(x:List AV): Prop:=A.heap.get f=some (.cells 0 false n x)
end Go.AE
