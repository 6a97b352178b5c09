/- A part of the proof of the statement CheckTypes. -/
import Derived.Test.YtafamggbkobcfaaGreatAiSyK13
namespace Go.Proofs.YtafamggbkobcfaaGreat.Ae
open Go.AE
set_option linter.unusedVariables false
set_option maxRecDepth 100000
theorem stillQ{f s o:Nat}:dC (.ptr f s o) (.ptr f s o)=true:=by
 show (Nat.beq f f && Nat.beq s s && Nat.beq o o)=true;simp only[Nat.beq_refl,Bool.and_self]
theorem vi{α:Type}:∀{xs l:List α},xs.length≤l.length→over xs l=some (xs++l.drop xs.length)
 | [],l,_=>rfl
 | x::xs,[],h=>by simp at h
 | x::xs,y::l,h=>by
  have ih:=vi (xs:=xs) (l:=l) (by simpa using h);simp only[over,ih];rfl
theorem pV{α:Type}:∀{n:Nat} {xs l:List α},n+xs.length≤l.length→iL n xs l=some (l.take n++xs++l.drop (n+xs.length))
 | 0,xs,l,h=>by
  rw[Nat.zero_add] at h ⊢;exact vi h
 | n+1,xs,[],h=>by simp at h
 | n+1,xs,y::l,h=>by
  have ih:=pV (n:=n) (xs:=xs) (l:=l) (by simp only[lC] at h;omega);simp only[iL,ih];rw[show n+1+xs.length=(n+xs.length)+1 from by omega];rfl
def lE(A:AW)(es:Nat)(v:AV)(n:Nat)(cs:List AV): Prop:=
 (v=.aj∧n=0∧cs=[])∨∃f t c all,v=.slice f t 0 n c false∧A.heap.get f=some (.cells t false es all)∧n≤c∧0<c∧all.length=c*es∧cs=all.take (n*es)
section
variable{A A1:AW}{es n:Nat}{v:AV}{cs:List AV}
theorem lE.row(h:lE A es v n cs): Row A es v n cs:=by
 rcases h with ⟨rfl,rfl,rfl⟩|⟨f,t,c,all,rfl,h1,h2,h3,h4,rfl⟩
 ·exact .inl ⟨.inl rfl,rfl,rfl⟩
 ·refine .inr ⟨f,t,0,c,false,false,all,rfl,h1,h2,?_⟩;exact br _ _ (by show n*es≤all.length;rw[h4];exact Nat.mul_le_mul_right _ h2)
theorem lE.cells(h:lE A es v n cs): cellsOf v=some [v]:=by
 rcases h with ⟨rfl,_,_⟩|⟨f,t,c,all,rfl,_⟩<;>rfl
theorem lE.avs(h:lE A es v n cs): dC v v=true:=by
 rcases h with ⟨rfl,_,_⟩|⟨f,t,c,all,rfl,_⟩
 ·rfl
 ·show (Nat.beq f f && Nat.beq t t && Nat.beq 0 0 && Nat.beq _ _ && Nat.beq c c && (false == false))=true;simp only[Nat.beq_refl,beq_self_eq_true,Bool.and_self]
theorem lE.ae{T:Nat→Prop}(h:lE A es v n cs)(o:ac A A1 T)(hd:lh v.av T): lE A1 es v n cs:=by
 rcases h with ⟨rfl,rfl,rfl⟩|⟨f,t,c,all,rfl,h1,h2,h3,h4,rfl⟩
 ·exact .inl ⟨rfl,rfl,rfl⟩
 ·exact .inr ⟨f,t,c,all,rfl,o.ae f _ h1 (hd f rfl),h2,h3,h4,rfl⟩
structure Grew2 (A A1:AW) (es:Nat) (v v':AV) (n:Nat) (cs:List AV) : Prop where
 cap:lE A1 es v' n cs
 Fi:ac A A1 v.av
 grow:ge A v.av v'.av
theorem jM{E:Env}{t e:TypeId}{d de:bH}{z:List AV}{xs:List AV}(ht:E.cf.get t=some d)(hs:d.desc=.slice e)(he:E.cf.get e=some de)(hz:de.zero=some z)
 (hw:Wf A) (hb:lE A de.size v n cs) (hl:xs.length=de.size) (h1:1≤de.size) (hr:eL (n+1) de.bytes=true) :
 ∃v' A1,dP E t v (.slice A.aa 0 0 1 1 true) (A.add (.cells 0 false de.size xs))=.val v' A1∧Grew2 A A1 de.size v v' (n+1) (cs++xs):=by
 have o1:ac A (A.add (.cells 0 false de.size xs)) ag:=ac.add hw _;have hx:kl (A.add (.cells 0 false de.size xs)) de.size (.slice A.aa 0 0 1 1 true)=some (1,xs):=by
  have e:takeN (Nat.mul 1 de.size) xs=some xs:=by
   have:Nat.mul 1 de.size=de.size:=Nat.one_mul _;rw[this,br _ _ om,←hl,tL]
  simp only[kl,bU,aB];rw[AW.add_get,iP rfl];simp only[Nat.beq_refl,cond_true,e]
 rcases hb with ⟨rfl,rfl,rfl⟩|⟨f,u,c,all,rfl,g1,g2,g3,g4,rfl⟩
 ·obtain⟨v',A1,g,G⟩:=cH (xs:=xs) ht hs he hz hw (.inl ⟨rfl,rfl,rfl⟩) hl h1 hr;refine⟨v',A1,g,?_,G.Fi,G.grow⟩;rcases G.buf with ⟨_,h,_⟩|⟨f,t,rfl,k1,k2,k3⟩
  ·omega
  ·exact .inr ⟨f,t,0+1,_,rfl,k1,Nat.le_refl _,k3,k2,by rw[←k2,tL]⟩
 ·by_cases hc:n<c
  ·have gA:=o1.k g1;unfold dP;simp only[ht,hs,he,hz,hx];have e0:Nat.beq 1 0=false:=rfl;have e1:Nat.ble 1 de.size=true:=Nat.ble_eq_true_of_le h1;have e2:Nat.ble (Nat.add n 1) c=true:=Nat.ble_eq_true_of_le hc;have hmul:(n+1)*de.size≤c*de.size:=Nat.mul_le_mul_right _ hc;rw[Nat.succ_mul] at hmul;have e3:iL (Nat.add 0 (Nat.mul n de.size)) xs all=some (all.take (n*de.size)++xs++all.drop (n*de.size+xs.length)):=by
    have:Nat.add 0 (Nat.mul n de.size)=n*de.size:=Nat.zero_add _;rw[this];exact pV om
   simp only[e0,cond_false,e1,cond_true,gr,gA,Nat.beq_refl,Bool.and_self,e2,e3];have ol:(all.take (n*de.size)).length=n*de.size:=by
    rw[List.length_take];omega
   refine⟨_,(A.add (.cells 0 false de.size xs)).put f (.cells u false de.size (all.take (n*de.size)++xs++all.drop (n*de.size+xs.length))),rfl,.inr ⟨f,u,c,all.take (n*de.size)++xs++all.drop (n*de.size+xs.length),rfl,by rw[AW.aw,iP rfl],hc,g3,?_,?_⟩,?_,fun g hg=>.inl hg⟩
   ·rw[lA,lA,ol,List.length_drop];omega
   ·have hl2:(all.take (n*de.size)++xs).length=(n+1)*de.size:=by
     rw[lA,ol,hl,Nat.succ_mul]
    have:=List.take_left' (l₂:=all.drop (n*de.size+xs.length)) hl2;exact this.symm
   ·have op:=ac.put (x:=.cells u false de.size (all.take (n*de.size)++xs++all.drop (n*de.size+xs.length))) o1.wf (o1.wf _ _ gA);exact (o1.mono fun _ h=>h.elim).same (op.mono fun g hg=>hg)
  ·have hnc:n=c:=om;subst hnc;obtain⟨v',A1,g,G⟩:=cH (xs:=xs) (v:=.slice f u 0 n n false) (cs:=all) ht hs he hz hw (.inr ⟨f,u,rfl,g1,g4,g3⟩) hl h1 hr;refine⟨v',A1,g,?_,G.Fi,G.grow⟩;rw[←g4,tL];rcases G.buf with ⟨_,h,_⟩|⟨f',t',rfl,k1,k2,k3⟩
   ·omega
   ·exact .inr ⟨f',t',n+1,_,rfl,k1,Nat.le_refl _,k3,k2,by rw[←k2,tL]⟩
theorem pk{E:Env}{t e:TypeId}{d de:bH}{m:Nat}{k:IntKind}(ht:E.cf.get t=some d)(hs:d.desc=.slice e)(he:E.cf.get e=some de)(hb:lE A de.size v n cs)(hm:m≤n):
 ∃r,cQ E t v none (some (.int k (m:Int))) none A=.val r A∧lE A de.size r m (cs.take (m*de.size))∧∀g,r.av g→v.av g:=by
 unfold cQ;rcases hb with ⟨rfl,rfl,rfl⟩|⟨f,u,c,all,rfl,g1,g2,g3,g4,rfl⟩
 ·obtain rfl:m=0:=om;simp only[ht,hs,he,fc,dY (Nat.le_refl 0)];exact⟨.aj,rfl,.inl ⟨rfl,rfl,by rw[List.take_nil]⟩,fun g h=>h⟩
 ·have e1:bound none m 0=some 0:=rfl;have e2:Nat.beq 0 c=false:=by
   rw[beq_eq];exact yF om
  simp only[ht,hs,he,eU,g1,Nat.beq_refl,Bool.and_self,cond_true,dY (show m≤c by omega),e1,e2,cond_false];have e3:Nat.add 0 (Nat.mul 0 de.size)=0:=by
   show 0+0*de.size=0;omega
  have e4:Nat.sub m 0=m:=Nat.sub_zero m;have e5:Nat.sub c 0=c:=Nat.sub_zero c;rw[e3,e4,e5];refine⟨_,rfl,.inr ⟨f,u,c,all,rfl,g1,om,g3,g4,?_⟩,fun g h=>h⟩;rw[List.take_take,Nat.min_eq_left (Nat.mul_le_mul_right _ hm)]
end
abbrev BY.set(Y:BY)(vv lv:AV)(vs:List (Str×bM))(ls:List Str): BY:=⟨Y.X,Y.fb,Y.cls,Y.ret,vv,lv,vs,ls⟩
def BY.own(Y:BY)(g:Nat): Prop:=g=Y.fb∨Y.vv.av g∨Y.lv.av g
def BY.mod(Y:BY)(g:Nat): Prop:=g=Y.X.pc∨Y.own g
structure BS (A:AW) (Y:BY) (b:Bool) : Prop where
 bo:BO A Y b
 vc:lE A 3 Y.vv Y.vars.length (Y.vars.flatMap AY)
 lc:lE A 1 Y.lv Y.locks.length (ip Y.locks)
 out:∀g,Y.own g→Y.X.M≤g∧g≠Y.X.pc∧g≠Y.X.fr∧g≠Y.X.fm∧¬Y.X.vn.av g
 n4:¬Y.vv.av Y.fb
 n5:¬Y.lv.av Y.fb
 n6:∀g,Y.vv.av g→¬Y.lv.av g
structure ST (A A1:AW) (Y Y1:BY) (b b1:Bool) : Prop where
 ps:BS A1 Y1 b1
 Fi:ac A A1 Y.mod
 own:ge A Y.own Y1.own
 bad:b=true→b1=true
section
variable{A A1 A2:AW}{Y Y1 Y2:BY}{b b1 b2:Bool}
theorem BS.under(hw:Wf A)(h:BS A Y b): pd A Y.mod:=fun g hg=>by
 rcases hg with rfl|rfl|hg|hg
 ·exact h.bo.lt hw
 ·exact hw _ _ h.bo.cell
 ·exact h.vc.row.under hw g hg
 ·exact h.lc.row.under hw g hg
theorem BS.ae{T:Nat→Prop}(h:BS A Y b)(hw:Wf A)(o:ac A A1 T)(hT:∀g,T g→A.aa≤g): BS A1 Y b:=by
 have nt:∀g,Y.mod g→¬T g:=fun g hg k=>by
  have:=hT g k;have:=h.under hw g hg;omega
 exact⟨h.bo.ae o (h.bo.eO.ae o fun g hg=>h.bo.eO.under hw (hT g hg)) (nt _ (.inr (.inl rfl))) (fun g hg=>nt g (.inr (.inr (.inl hg)))) (fun g hg=>nt g (.inr (.inr (.inr hg)))) fun h=>h,
  h.vc.ae o fun g hg=>nt g (.inr (.inr (.inl hg))),h.lc.ae o fun g hg=>nt g (.inr (.inr (.inr hg))),h.out,h.n4,h.n5,h.n6⟩
theorem BS.quiet(h:BS A Y b)(hw:Wf A)(o:ac A A1 ag): BS A1 Y b:=h.ae hw o fun _ h=>h.elim
theorem ST.refl(hw:Wf A)(h:BS A Y b): ST A A Y Y b b:=⟨h,ac.refl hw _,ge.refl _ _,fun h=>h⟩
theorem ST.then(hw:Wf A)(h:ST A A1 Y Y1 b b1)(e:Y1.X=Y.X)(k:ST A1 A2 Y1 Y2 b1 b2): ST A A2 Y Y2 b b2:=
 ⟨k.ps,⟨k.Fi.wf,Nat.le_trans h.Fi.aa k.Fi.aa,fun g F hg hn=>k.Fi.ae g F (h.Fi.ae g F hg hn) fun hm=>by
  rcases hm with hm|hm
  ·exact hn (.inl (by rw[hm,e]))
  ·rcases h.own g hm with h1|h1
   ·exact hn (.inr h1)
   ·have:=hw g F hg;omega⟩,h.own.trans k.own h.Fi.aa,fun z=>k.bad (h.bad z)⟩
theorem ST.step(hw:Wf A)(h:ST A A1 Y Y1 b b1)(e:Y1.X=Y.X)(k:BT A1 A2 Y1 b1 b2): ST A A2 Y Y1 b b2:=by
 have q:=h.ps;refine h.then hw e ⟨⟨k.ps,q.vc.ae k.Fi fun g hg e=>?_,q.lc.ae k.Fi fun g hg e=>?_,q.out,q.n4,q.n5,q.n6⟩,k.Fi.mono fun g hg=>.inl hg,ge.refl _ _,k.bad⟩
 ·cases e;exact q.bo.n2 hg
 ·cases e;exact q.bo.n3 hg
theorem ST.fresh{T:Nat→Prop}{b0:Bool}(hw:Wf A)(h0:BS A Y b0)(h:ST A A1 Y Y1 b b1)(e:Y1.X=Y.X)(o:ac A1 A2 T)(ht:∀g,T g→A.aa≤g)(hd:∀g,T g→¬Y1.mod g): ST A A2 Y Y1 b b1:=by
 have q:=h.ps;have nt:∀g,Y1.mod g→¬T g:=fun g hm hg=>hd g hg hm;refine⟨⟨q.bo.ae o (q.bo.eO.ae o fun g hg=>by rw[e];exact h0.bo.eO.under hw (ht g hg)) (nt _ (.inr (.inl rfl))) (fun g hg=>nt g (.inr (.inr (.inl hg)))) (fun g hg=>nt g (.inr (.inr (.inr hg)))) fun h=>h,
  q.vc.ae o fun g hg=>nt g (.inr (.inr (.inl hg))),q.lc.ae o fun g hg=>nt g (.inr (.inr (.inr hg))),q.out,q.n4,q.n5,q.n6⟩,⟨o.wf,Nat.le_trans h.Fi.aa o.aa,fun g F hg hn=>?_⟩,h.own,h.bad⟩
 exact o.ae _ _ (h.Fi.ae _ _ hg hn) fun k=>by
  have:=ht g k;have:=hw g F hg;omega
theorem ST.quiet(hw:Wf A)(h:ST A A1 Y Y1 b b1)(o:ac A1 A2 ag): ST A A2 Y Y1 b b1:=
 ⟨h.ps.quiet h.Fi.wf o,h.Fi.same (o.mono fun _ h=>h.elim),h.own,h.bad⟩
theorem ST.dg{F:eI}{f:Nat}(t:ST A A1 Y Y1 b b1)(hw:Wf A)(e:Y1.X=Y.X)(c:A.heap.get f=some F)(p:¬Y.mod f): A1.heap.get f=some F∧¬Y1.mod f:=
 ⟨t.Fi.ae _ _ c p,fun hm=>by
  rcases hm with hm|hm
  ·exact p (.inl (by rw[hm,e]))
  ·rcases t.own f hm with h|h
   ·exact p (.inr h)
   ·have:=hw _ _ c;omega⟩
theorem ST.bl(T:ST A A1 Y Y1 b b1)(h:BS A Y b2){t:Nd}{kv:AV}(N:aI A (fun g=>g<Y.X.M) t kv): aI A1 (fun g=>g<Y.X.M) t kv:=N.ae T.Fi fun g hg e=>by
 rcases e with e|e
 ·have:=h.bo.eO.le;omega
 ·have:=(h.out g e).1;omega
variable{E:Env}{C:bC}{all rest:List Oper}{l:Kn}{K:Kn→AW→Prop}{n f:Nat}{cs cs0:List AV}
theorem gm(hw:Wf A)(h:BS A Y b2)(T:ST A A1 Y Y1 b b1)(e:Y1.X=Y.X)(hf:A1.aa=f)(g:∀A2,A.aa≤f→¬Y1.mod f→ac A1 A2 ag→A2.heap.get f=some (.cells 0 false n cs)→ST A A2 Y Y1 b b1→WO E C all rest l A2 K): WO E C all rest l (A1.add (.cells 0 false n cs)) K:=by
 subst hf;have o:ac A1 (A1.add (.cells 0 false n cs)) ag:=ac.add T.Fi.wf _;exact g _ T.Fi.aa (fun hm=>by have:=T.ps.under T.Fi.wf _ hm;omega) o (by rw[AW.add_get,iP rfl]) (T.quiet hw o)
theorem iK(hw:Wf A)(h:BS A Y b2)(T:ST A A1 Y Y1 b b1)(e:Y1.X=Y.X)(hf:A1.aa=f)(g:∀A2,A.aa≤f→¬Y1.mod f→ac A1 A2 ag→A2.heap.get f=some (.cells 0 false n cs)→ST A A2 Y Y1 b b1→WO E C all rest l A2 K): WO E C all rest l ((A1.add (.cells 0 false n cs0)).put f (.cells 0 false n cs)) K:=by
 subst hf;have o:ac A1 _ ag:=made (es:=n) (cs:=cs0) (cs':=cs) T.Fi.wf;exact g _ T.Fi.aa (fun hm=>by have:=T.ps.under T.Fi.wf _ hm;omega) o (by rw[AW.aw,iP rfl]) (T.quiet hw o)
theorem jk(hw:Wf A)(h:BS A Y b2)(T:ST A A1 Y Y1 b b1)(e:Y1.X=Y.X)(x:A.aa≤f)(p:¬Y1.mod f)(c:A1.heap.get f=some (.cells 0 false n cs0))(g:∀A2,ac A1 A2 (one f)→A2.heap.get f=some (.cells 0 false n cs)→ST A A2 Y Y1 b b1→WO E C all rest l A2 K): WO E C all rest l (A1.put f (.cells 0 false n cs)) K:=by
 have o:=ac.put (x:=.cells 0 false n cs) T.Fi.wf (T.Fi.wf _ _ c);exact g _ o (by rw[AW.aw,iP rfl]) (T.fresh hw h e o (fun g hg=>by cases hg;exact x) fun g hg=>by cases hg;exact p)
theorem ST.tW{v':AV}{vs':List (Str×bM)}{b0:Bool}(hw:Wf A)(h0:BS A Y b0)(T:ST A A1 Y Y1 b b1)(e:Y1.X=Y.X)(o:ac A1 A2 Y1.vv.av)(vc:lE A2 3 v' vs'.length (vs'.flatMap AY))(vg:ge A1 Y1.vv.av v'.av)
 (hl:vs'.length≤1000000000) (nd:b1=false→(vs'.map Prod.fst).Nodup) :
 ST A (A2.put Y1.fb (.cells 0 false 6 [.ptr Y1.X.pc 0 0,.str Y1.cls,.int .i64 Y1.ret.1,.str Y1.ret.2,v',Y1.lv])) Y (Y1.set v' Y1.lv vs' Y1.locks) b b1:=by
 have q:=T.ps;have hcell:=o.ae _ _ q.bo.cell q.n4;have op:=ac.put (x:=.cells 0 false 6 [.ptr Y1.X.pc 0 0,.str Y1.cls,.int .i64 Y1.ret.1,.str Y1.ret.2,v',Y1.lv]) o.wf (o.wf _ _ hcell);have lt1:Y1.fb<A1.aa:=T.Fi.wf _ _ q.bo.cell;have ltp:=q.bo.lt T.Fi.wf;have nfb:¬v'.av Y1.fb:=fun k=>(vg _ k).elim (fun k=>q.n4 k) fun k=>om;have o2:ac A1 _ (fun g=>g=Y1.fb∨Y1.vv.av g):=(o.mono fun g hg=>.inr hg).same (op.mono fun g hg=>.inl hg);have hown:ge A1 Y1.own (Y1.set v' Y1.lv vs' Y1.locks).own:=fun g hg=>by
  rcases hg with hg|hg|hg
  ·exact .inl (.inl hg)
  ·exact (vg g hg).imp (fun h=>.inr (.inl h)) fun h=>h
  ·exact .inl (.inr (.inr hg))
 have hout:∀g,(Y1.set v' Y1.lv vs' Y1.locks).own g→Y1.X.M≤g∧g≠Y1.X.pc∧g≠Y1.X.fr∧g≠Y1.X.fm∧¬Y1.X.vn.av g:=fun g hg=>(hown g hg).elim (q.out g) fun h=>q.bo.eO.under T.Fi.wf h;refine T.then hw e ⟨⟨⟨q.bo.eO.ae o2 fun g hg=>q.out g (hg.elim .inl fun h=>.inr (.inl h)),by rw[AW.aw,iP rfl],?_,?_,q.bo.n1,?_,q.bo.n3,q.bo.hc,hl,q.bo.ll,nd⟩,?_,?_,hout,nfb,q.n5,fun g hg hl=>?_⟩,o2.mono fun g hg=>.inr (hg.elim .inl fun h=>.inr (.inl h)),hown,fun h=>h⟩
 ·exact (vc.ae op fun g hg e=>nfb (by cases e;exact hg)).row
 ·exact (q.bo.ls.ae o2 fun g hg e=>e.elim (fun e=>q.n5 (by rw[←e];exact hg)) fun e=>q.n6 g e hg)
 ·exact fun k=>(vg _ k).elim q.bo.n2 fun k=>by
   have k:A1.aa≤Y1.X.pc:=k;omega
 ·exact vc.ae op fun g hg e=>nfb (by cases e;exact hg)
 ·exact q.lc.ae o2 fun g hg e=>e.elim (fun e=>q.n5 (by rw[←e];exact hg)) fun e=>q.n6 g e hg
 ·rcases vg g hg with h|h
  ·exact q.n6 g h hl
  ·have:=q.lc.row.under T.Fi.wf g hl;omega
theorem ST.setL{v':AV}{ls':List Str}{b0:Bool}(hw:Wf A)(h0:BS A Y b0)(T:ST A A1 Y Y1 b b1)(e:Y1.X=Y.X)(o:ac A1 A2 Y1.lv.av)(vc:lE A2 1 v' ls'.length (ip ls'))(vg:ge A1 Y1.lv.av v'.av)
 (hl:ls'.length≤1000000000) :
 ST A (A2.put Y1.fb (.cells 0 false 6 [.ptr Y1.X.pc 0 0,.str Y1.cls,.int .i64 Y1.ret.1,.str Y1.ret.2,Y1.vv,v'])) Y (Y1.set Y1.vv v' Y1.vars ls') b b1:=by
 have q:=T.ps;have hcell:=o.ae _ _ q.bo.cell q.n5;have op:=ac.put (x:=.cells 0 false 6 [.ptr Y1.X.pc 0 0,.str Y1.cls,.int .i64 Y1.ret.1,.str Y1.ret.2,Y1.vv,v']) o.wf (o.wf _ _ hcell);have lt1:Y1.fb<A1.aa:=T.Fi.wf _ _ q.bo.cell;have ltp:=q.bo.lt T.Fi.wf;have nfb:¬v'.av Y1.fb:=fun k=>(vg _ k).elim (fun k=>q.n5 k) fun k=>om;have o2:ac A1 _ (fun g=>g=Y1.fb∨Y1.lv.av g):=(o.mono fun g hg=>.inr hg).same (op.mono fun g hg=>.inl hg);have hown:ge A1 Y1.own (Y1.set Y1.vv v' Y1.vars ls').own:=fun g hg=>by
  rcases hg with hg|hg|hg
  ·exact .inl (.inl hg)
  ·exact .inl (.inr (.inl hg))
  ·exact (vg g hg).imp (fun h=>.inr (.inr h)) fun h=>h
 have hout:∀g,(Y1.set Y1.vv v' Y1.vars ls').own g→Y1.X.M≤g∧g≠Y1.X.pc∧g≠Y1.X.fr∧g≠Y1.X.fm∧¬Y1.X.vn.av g:=fun g hg=>(hown g hg).elim (q.out g) fun h=>q.bo.eO.under T.Fi.wf h;refine T.then hw e ⟨⟨⟨q.bo.eO.ae o2 fun g hg=>q.out g (hg.elim .inl fun h=>.inr (.inr h)),by rw[AW.aw,iP rfl],?_,?_,q.bo.n1,q.bo.n2,?_,q.bo.hc,q.bo.vl,hl,q.bo.nd⟩,?_,?_,hout,q.n4,nfb,fun g hv hg=>?_⟩,o2.mono fun g hg=>.inr (hg.elim .inl fun h=>.inr (.inr h)),hown,fun h=>h⟩
 ·exact (q.bo.vs.ae o2 fun g hg e=>e.elim (fun e=>q.n4 (by rw[←e];exact hg)) fun e=>q.n6 g hg e)
 ·exact (vc.ae op fun g hg e=>nfb (by cases e;exact hg)).row
 ·exact fun k=>(vg _ k).elim q.bo.n3 fun k=>by
   have k:A1.aa≤Y1.X.pc:=k;omega
 ·exact q.vc.ae o2 fun g hg e=>e.elim (fun e=>q.n4 (by rw[←e];exact hg)) fun e=>q.n6 g hg e
 ·exact vc.ae op fun g hg e=>nfb (by cases e;exact hg)
 ·rcases vg g hg with h|h
  ·exact q.n6 g hv h
  ·have:=q.vc.row.under T.Fi.wf g hv;omega
end
structure Ev where
 cs:List Nd
 hs:Hs
 cls:Str
 ret:bM
 n:Nat
abbrev Vs:=List (Str×bM)
def Ev.cx(E:Ev)(vs:Vs): Cx:=⟨E.cs,E.hs,E.cls,vs⟩
def Ev.ty(E:Ev)(vs:Vs)(t:Nd): Option bM:=cW (E.cx vs) E.n t
def there(hs:Hs)(y:bM): Prop:=y.1≠4∨has hs y.2=true
instance (hs:Hs) (y:bM) : Decidable (there hs y):=by unfold there;exact inferInstance
def eg(t:Nd)(i:Nat): Nd:=t.l.getD i dL
def lF(rec:Vs→Nd→Option Vs): Vs→List Nd→Option Vs
 | vs,[]=>some vs
 | vs,t::l=>match rec vs t with
  | none=>none
  | some vs'=>lF rec vs' l
def wu(E:Ev)(vs:Vs)(t:Nd): Option Vs:=
 if ¬there E.hs (first t) then none else if bN vs t.s≠none then none else if 1<t.l.length then (match E.ty vs (eg t 1) with
  | none=>none
  | some v=>if bI E.hs v (first t) then some (vs++[(t.s,first t)]) else none) else some (vs++[(t.s,first t)])
def yc(E:Ev)(lk:List Str)(vs:Vs)(u:Nd): Prop:=(u.k=30∨u.k=28∨(u.k=27∧u.s∉lk))∧(u.k=28→∃y,E.ty vs (ba u)=some y∧y.1≠3)
open Classical in
noncomputable def yd (E:Ev) (lk:List Str) (vs:Vs) (t:Nd) : Option Vs:=match E.ty vs (ba t) with
 | none=>none
 | some y=>match E.ty vs (eg t 1) with
  | none=>none
  | some v=>if yc E lk vs (ba t)∧bI E.hs v y then some vs else none
def qR(E:Ev)(vs:Vs)(t:Nd)(p:bM→Bool): Option Vs:=match E.ty vs (ba t) with
 | none=>none
 | some y=>if p y=true then some vs else none
noncomputable def cP (E:Ev) : Nat→List Str→Vs→Nd→Option Vs
 | 0,_,_,_=>none
 | m+1,lk,vs,t=>
  if t.k=7 then (match lF (cP E m lk) vs t.l with
   | none=>none
   | some _=>some vs)
  else if t.k=8 then wu E vs t
  else if t.k=9 then yd E lk vs t
  else if t.k=10∨t.k=11 then (match E.ty vs (ba t) with
   | none=>none
   | some y=>if y.1=1∧(t.l.drop 1).all (fun u=>(cP E m lk vs u).isSome)=true then some vs else none)
  else if t.k=12 then (if t.l.length=0 then (if E.ret.1=0 then some vs else none) else qR E vs t fun y=>decide (E.ret.1≠0∧bI E.hs y E.ret))
  else if t.k=13∨t.k=16∨t.k=17∨t.k=18 then qR E vs t fun y=>decide (y.1=4)
  else if t.k=14 then (match cP E m lk vs (ba t) with
   | none=>none
   | some vs1=>if there E.hs (named (eg t 1).s)∧bN vs1 t.s=none then (match cP E m lk (vs1++[(t.s,named (eg t 1).s)]) (eg t 2) with
    | none=>none
    | some _=>some vs1) else none)
  else if t.k=15 then (match bN vs t.s with
   | none=>none
   | some y=>if y.1=4∧t.s∉lk∧lk.length<6 then cP E m (lk++[t.s]) vs (ba t) else none)
  else if t.k=20∨t.k=21 then qR E vs t fun y=>decide (y.1=1∨(t.k=21∧y.1=2))
  else if t.k=22 then (if (ba t).k=29 then (match cK (E.cx vs) (cW (E.cx vs) E.n) (ba t) with
   | none=>none
   | some _=>some vs)
   else (match E.ty vs (ba t) with
    | none=>none
    | some _=>if (ba t).k=33 then some vs else none))
  else some vs
def BY.ev(Y:BY)(n:Nat): Ev:=⟨Y.X.cs,Y.X.hs,Y.cls,Y.ret,n⟩
def nC(k:Nat)(A A1:AW)(Y:BY)(b:Bool)(z:Option Vs): Prop:=∃vv lv ws b1,ST A A1 Y (Y.set vv lv (Y.vars++ws) Y.locks) b b1∧ws.length≤k∧(b=false→match z with
 | none=>b1=true
 | some vs=>b1=false∧vs=Y.vars++ws)
theorem mn{K:FuncId}{A:AW}{X:BX}{b:Bool}{y:bM}(hw:Wf A)(h:PC A X b):
 aD (ES K) 104 [.ptr X.pc 0 0,.agg (bc y)] A fun r A1=>r=.bool (decide (there X.hs y))∧ac A A1 ag:=by
 refine ap rfl rfl rfl ?_;refine gO ?_;refine zB (n:=2) (y:=bc y) hw ?_;intro A1 o1 c3;generalize A.aa=f3 at c3;replace h:=h.quiet o1;obtain⟨fe,hc⟩:=h.cell;refine tD ?_;by_cases h4:y.1=4
 ·refine aL 8 false rfl (yF fun h=>h h4) ?_;refine aC ?_;refine zC rfl (gR h.hi) ?_;rintro r A2 ⟨rfl,rfl⟩;refine sA ?_;refine aC ?_;refine sA ?_;refine eD ?_;refine af rfl ⟨congrArg AV.bool ?_,o1⟩;cases hh:has X.hs y.2 with
  | true=>exact (yT (.inr hh)).symm
  | false=>exact (yF fun h=>h.elim (fun h=>h h4) fun h=>by rw[hh] at h;cases h).symm
 ·refine aL 8 true rfl (yT h4) ?_;refine dO ?_;refine aC ?_;refine sA ?_;refine dO ?_;refine aC ?_;refine sA ?_;refine eD ?_;exact af rfl ⟨congrArg AV.bool (yT (.inl h4)).symm,o1⟩
theorem mo{K:FuncId}{A:AW}{Y:BY}{b:Bool}{t:Nd}{kv:AV}{y:bM}(hw:Wf A)(h:BO A Y b):
 aD (ES K) 123 [.ptr Y.fb 0 0,.agg (au t kv),.agg (bc y)] A fun r A1=>∃b1,BT A A1 Y b b1∧(b=false→b1=decide (bN Y.vars t.s≠none)):=by
 refine ap rfl rfl rfl ?_;have T:=BT.refl hw h;refine gO ?_;refine bA rfl rfl rfl rfl ?_;generalize hf4:A.aa=f4;refine dN (n:=6) (cs:=au t kv) hw h T hf4 ?_;intro A1 x4 p4 o1 c4 T;refine bA rfl rfl rfl rfl ?_;generalize hf5:A1.aa=f5;refine dN (n:=2) (cs:=bc y) hw h T hf5 ?_;intro A2 x5 p5 o2 c5 T;replace c4:=o2.k c4;refine wC (og T.Fi.wf T.ps) ?_;rintro r A3 ⟨o3,w,x,rfl,hf⟩;replace T:=T.quiet o3;replace c4:=o3.k c4;refine oP ?_;refine aq rfl rfl rfl ?_;refine zS (by rw[AW.add_get,iP rfl]) ?_;generalize hf6:A3.aa=f6;refine fG (n:=2) (cs:=bc w) hw h T hf6 ?_;intro A4 x6 p6 o4 c6 T;replace c4:=o4.k c4;refine wL c4 ?_;refine zC rfl (ah T.Fi.wf T.ps) ?_;rintro r A5 ⟨rfl,t5⟩;replace T:=T.then t5;refine gO ?_;refine bd rfl ⟨_,T,fun hb=>?_⟩;have hf:=hf hb;rw[hb,Bool.or_false];cases x with
 | true=>exact (yT (by rw[hf,iP rfl];exact fun h=>by cases h)).symm
 | false=>exact (yF (by rw[hf,iN dE];exact fun h=>h rfl)).symm
theorem Dx{x y:Bool}(h:(x || y)=false): y=false:=(Bool.or_eq_false_iff.1 h).2
theorem zV{b b1:Bool}(h:b=true→b1=true)(e:b1=false): b=false:=by
 cases b
 ·rfl
 ·rw[h rfl] at e;cases e
theorem vj:∀{l:Vs} {n:Str},bN l n=none→n∉l.map Prod.fst
 | [],n,_=>List.not_mem_nil
 | u::l,n,h=>by
  have h:(if u.1=n then some u.2 else bN l n)=none:=h;by_cases e:u.1=n
  ·rw[iP e] at h;cases h
  ·rw[iN e] at h;intro hm;rcases List.mem_cons.1 hm with hm|hm
   ·exact e hm.symm
   ·exact vj h hm
theorem wv{l:Vs}{n:Str}{y:bM}(h:(l.map Prod.fst).Nodup)(hf:bN l n=none): ((l++[(n,y)]).map Prod.fst).Nodup:=by
 rw[mA,List.nodup_append];refine⟨h,List.nodup_cons.2 ⟨List.not_mem_nil,List.nodup_nil⟩,fun a ha c hc e=>?_⟩;cases List.mem_singleton.1 hc;subst e;exact vj hf ha
theorem zW{l:Vs}{n:Str}{b1:Bool}(h:b1=decide (bN l n≠none))(e:b1=false): bN l n=none:=by
 rw[e] at h;exact Decidable.not_not.1 (of_decide_eq_false h.symm)
theorem Dy{E:Ev}{vs:Vs}{t u1:Nd}{y:bM}{b2 b3:Bool}(e1:eg t 1=u1)(hl:(1:Int)<(t.l.length:Int))(z2:(!decide (there E.hs (first t)) || false)=false→match E.ty vs u1 with
 | none=>b2=true
 | some w=>b2=false∧y=w) (bad2:(!decide (there E.hs (first t)) || false)=true→b2=true) (z3:b2=false→b3=decide (bN vs t.s≠none)) (bad3:b2=true→b3=true) :
 match wu E vs t with
  | none=>(!decide (bI E.hs y (first t)) || b3)=true
  | some vs'=>(!decide (bI E.hs y (first t)) || b3)=false∧vs'=vs++[(t.s,first t)]:=by
 unfold wu;have hl:1<t.l.length:=om;by_cases ht:there E.hs (first t)
 ·rw[yT ht] at z2;rw[iN (fun h=>h ht),e1,iP hl];have z2:=z2 rfl;cases hy:E.ty vs u1 with
  | none=>
   rw[hy] at z2;rw[bad3 z2,Bool.or_true];by_cases hf:bN vs t.s≠none
   ·rw[iP hf]
   ·rw[iN hf]
  | some w=>
   rw[hy] at z2;obtain⟨rfl,rfl⟩:b2=false∧y=w:=z2;rw[z3 rfl];by_cases hf:bN vs t.s≠none
   ·rw[iP hf,yT hf,Bool.or_true]
   ·rw[iN hf,yF hf,Bool.or_false];show match (if bI E.hs y (first t) then some (vs++[(t.s,first t)]) else none:Option Vs) with
     | none=>_
     | some _=>_
    by_cases hx:bI E.hs y (first t)
    ·rw[iP hx,yT hx];exact⟨rfl,rfl⟩
    ·rw[iN hx,yF hx];rfl
 ·rw[iP ht];rw[yF ht] at bad2;show _=true;rw[bad3 (bad2 rfl),Bool.or_true]
theorem Dz{E:Ev}{vs:Vs}{t:Nd}{b3:Bool}(hl:¬(1:Int)<(t.l.length:Int))(z3:(!decide (there E.hs (first t)) || false)=false→b3=decide (bN vs t.s≠none))(bad3:(!decide (there E.hs (first t)) || false)=true→b3=true):
 match wu E vs t with
  | none=>b3=true
  | some vs'=>b3=false∧vs'=vs++[(t.s,first t)]:=by
 unfold wu;have hl:¬1<t.l.length:=om;by_cases ht:there E.hs (first t)
 ·rw[yT ht] at z3;rw[iN (fun h=>h ht),iN hl,z3 rfl];by_cases hf:bN vs t.s≠none
  ·rw[iP hf,yT hf]
  ·rw[iN hf,yF hf];exact⟨rfl,rfl⟩
 ·rw[iP ht];rw[yF ht] at bad3;exact bad3 rfl
set_option maxHeartbeats 4000000 in
theorem Cj{K:FuncId}{n:Nat}{A:AW}{Y:BY}{b:Bool}{t:Nd}{kv:AV}(hw:Wf A)(h:BS A Y b)(N:aI A (fun g=>g<Y.X.M) t kv)(h0:0<t.l.length)(hE:∀u,t.l[1]?=some u→Ex u∧sz u≤n)(hvl:Y.vars.length≤999999999):
 aD (ES K) 107 [.ptr Y.fb 0 0,.agg (au t kv)] A fun r A1=>nC 1 A A1 Y b (wu (Y.ev n) Y.vars t):=by
 obtain⟨u0,hu0⟩:∃u,t.l[0]?=some u:=⟨_,gE h0⟩;refine ap rfl rfl rfl ?_;have T:ST A A Y (Y.set Y.vv Y.lv Y.vars Y.locks) b b:=ST.refl hw h;refine gO ?_;refine bA rfl rfl rfl rfl ?_;generalize hf3:A.aa=f3;refine gm (n:=6) (cs:=au t kv) hw h T rfl hf3 ?_;intro A1 x3 p3 o1 c3 T;have hst:=N.bh;have hkv:=N.fS;have N1:=T.bl h N;refine wL c3 ?_;refine zC rfl (eN T.Fi.wf N1 h0) ?_;rintro r A2 ⟨rfl,o2⟩;replace T:=T.quiet hw o2;replace c3:=o2.k c3;replace N1:=N1.k o2;refine oP ?_;refine aq rfl rfl rfl ?_;refine zS (by rw[AW.add_get,iP rfl]) ?_;generalize hf4:A2.aa=f4;refine iK (n:=2) (cs:=bc (first t)) hw h T rfl hf4 ?_;intro A3 x4 p4 o3 c4 T;replace c3:=o3.k c3;replace N1:=N1.k o3;obtain⟨fku0,sku0,oku0,cku0,eku0,rku0,aku0,ku0,hvu0,hsu0,hhu0,hlu0,Nu0,htu0⟩:=bv N1 hu0
 have hku0:takeN 6 (aB (Nat.add oku0 (Nat.mul 0 6)) aku0)=some (au u0 ku0):=(htu0 6 0 (Nat.le_refl _)).trans rfl;have hnu0:=Nu0.bh;refine gO ?_;have hc:=T.ps.bo.cell;obtain⟨fe,hpc⟩:=T.ps.bo.eO.cell;refine tD ?_;refine rD ?_;refine zL c4 ?_;refine eR ?_;refine dR ?_;refine ax rfl rfl rfl rfl rfl ?_
 try refine aM rfl ?_
 refine zI 0 hvu0 hlu0 ?_;refine eP ?_;refine rD ?_;refine zK hhu0 hku0 ?_;refine eR ?_;refine aC ?_;refine zC rfl (mn T.Fi.wf T.ps.bo.eO) ?_;rintro r A4 ⟨rfl,o4⟩;replace T:=T.quiet hw o4;obtain⟨c3,c4⟩:=o4.k2 c3 c4;replace N1:=N1.k o4;replace hhu0:=o4.k hhu0;obtain⟨fe,hpc⟩:=T.ps.bo.eO.cell;refine sA ?_;refine aC ?_;refine zC rfl (ah T.Fi.wf T.ps.bo) ?_;rintro r A5 ⟨rfl,t5⟩;replace T:=T.step hw rfl t5;replace c3:=t5.Fi.ae _ _ c3 fun e=>p3 (.inl e);replace c4:=t5.Fi.ae _ _ c4 fun e=>p4 (.inl e);replace N1:=t5.bl N1;obtain⟨fe,hpc⟩:=T.ps.bo.eO.cell;refine sA ?_;refine eD ?_;have hlv:=N1.bm;have hl9:=N1.len;refine wJ hlv ?_;refine zG (fun hlt=>?_) fun hlt=>?_
 ·have hlt:(1:Int)<(t.l.length:Int):=hlt;obtain⟨u1,hu1⟩:∃u,t.l[1]?=some u:=⟨_,gE om⟩;have e1:eg t 1=u1:=by unfold eg;rw[List.getD_eq_getElem?_getD,hu1];rfl
  obtain⟨fku1,sku1,oku1,cku1,eku1,rku1,aku1,ku1,hvu1,hsu1,hhu1,hlu1,Nu1,htu1⟩:=bv N1 hu1;have hku1:takeN 6 (aB (Nat.add oku1 (Nat.mul 1 6)) aku1)=some (au u1 ku1):=(htu1 6 0 (Nat.le_refl _)).trans rfl;refine wI hvu1 hlu1 ?_;refine wK hhu1 hku1 ?_;refine zC rfl (bT n T.Fi.wf T.ps.bo Nu1 (hE u1 hu1)) ?_;rintro r A6 ⟨y6,b6,rfl,t6,z6⟩;replace T:=T.step hw rfl t6;replace c3:=t6.Fi.ae _ _ c3 fun e=>p3 (.inl e);replace c4:=t6.Fi.ae _ _ c4 fun e=>p4 (.inl e);refine oP ?_;refine aq rfl rfl rfl ?_;refine zS (by rw[AW.add_get,iP rfl]) ?_;generalize hf5:A6.aa=f5;refine iK (n:=2) (cs:=bc y6) hw h T rfl hf5 ?_;intro A7 x5 p5 o7 c5 T;obtain⟨c3,c4⟩:=o7.k2 c3 c4;refine wL c3 ?_;refine wL c4 ?_;refine zC rfl (mo T.Fi.wf T.ps.bo) ?_;rintro r A8 ⟨b8,t8,z8⟩;replace T:=T.step hw rfl t8;replace c3:=t8.Fi.ae _ _ c3 fun e=>p3 (.inl e)
  replace c4:=t8.Fi.ae _ _ c4 fun e=>p4 (.inl e);replace c5:=t8.Fi.ae _ _ c5 fun e=>p5 (.inl e);refine gO ?_;obtain⟨fe,hpc⟩:=T.ps.bo.eO.cell;refine tD ?_;refine rD ?_;refine zL c5 ?_;refine eR ?_;refine rD ?_;refine zL c4 ?_;refine eR ?_;refine rD ?_;refine zL c3 ?_;refine eR ?_;refine aC ?_;refine zC rfl (iu T.Fi.wf T.ps.bo) ?_;rintro r A9 ⟨rfl,o9⟩;replace T:=T.quiet hw o9;obtain⟨c3,c4⟩:=o9.k2 c3 c4;obtain⟨fe,hpc⟩:=T.ps.bo.eO.cell;refine sA ?_;refine aC ?_;refine zC rfl (ah T.Fi.wf T.ps.bo) ?_;rintro r A10 ⟨rfl,t10⟩;replace T:=T.step hw rfl t10;replace c3:=t10.Fi.ae _ _ c3 fun e=>p3 (.inl e);replace c4:=t10.Fi.ae _ _ c4 fun e=>p4 (.inl e);refine sA ?_;refine eD ?_;have hc:=T.ps.bo.cell;obtain⟨fe,hpc⟩:=T.ps.bo.eO.cell;refine tD ?_;refine rD ?_;refine wL c4 ?_;refine⟨rfl,_,rfl,?_⟩;refine dR ?_;refine bW rfl rfl rfl rfl ?_
  refine bq rfl rfl rfl ?_;refine oP ?_;refine me rfl rfl rfl ?_
  try refine aM rfl ?_
  refine bE rfl rfl rfl rfl rfl (jM (xs:=AY (t.s,first t)) (de:=d94) rfl rfl rfl rfl T.Fi.wf T.ps.vc rfl dE (cU (by have:Y.vars.length≤999999999:=hvl;show Y.vars.length+1≤_;omega) dE)) ?_;intro vv' A11 G;have hc':=G.Fi.ae _ _ T.ps.bo.cell T.ps.n4;refine sA ?_;refine aC ?_;refine bx rfl rfl G.cap.cells rfl rfl rfl hc' rfl ?_;refine bG (fun A2=>ST A A2 Y (Y.set vv' Y.lv (Y.vars++[(t.s,first t)]) Y.locks) b _) (T.tW hw h rfl G.Fi (by rw[lA,fA];exact G.cap) G.grow (by rw[lA,lS];omega) ?_) ?_
  ·intro e;exact wv (T.ps.bo.nd e) (zW (z8 (zV t8.bad (Dx e))) (Dx e))
  intro A12 T2;replace T:=T2;refine sA ?_;refine eD ?_;refine bd rfl ⟨vv',Y.lv,[(t.s,first t)],_,T,Nat.le_refl _,fun hb=>?_⟩;subst hb;exact Dy e1 hlt z6 t6.bad z8 t8.bad
 have hlt:¬(1:Int)<(t.l.length:Int):=hlt;refine wL c3 ?_;refine bS (vs:=bc (first t)) rfl rfl rfl rfl c4 rfl ?_;refine oP ?_;refine cY rfl rfl bF rfl (mo T.Fi.wf T.ps.bo) ?_;rintro r A6 ⟨b6,t6,z6⟩;replace T:=T.step hw rfl t6;replace c3:=t6.Fi.ae _ _ c3 fun e=>p3 (.inl e);replace c4:=t6.Fi.ae _ _ c4 fun e=>p4 (.inl e);refine gO ?_;have hc:=T.ps.bo.cell;obtain⟨fe,hpc⟩:=T.ps.bo.eO.cell;refine tD ?_;refine rD ?_;refine wL c4 ?_;refine⟨rfl,_,rfl,?_⟩;refine dR ?_;refine bW rfl rfl rfl rfl ?_;refine bq rfl rfl rfl ?_;refine oP ?_;refine me rfl rfl rfl ?_
 try refine aM rfl ?_
 refine bE rfl rfl rfl rfl rfl (jM (xs:=AY (t.s,first t)) (de:=d94) rfl rfl rfl rfl T.Fi.wf T.ps.vc rfl dE (cU (by have:Y.vars.length≤999999999:=hvl;show Y.vars.length+1≤_;omega) dE)) ?_;intro vv' A7 G;have hc':=G.Fi.ae _ _ T.ps.bo.cell T.ps.n4;refine sA ?_;refine aC ?_;refine bx rfl rfl G.cap.cells rfl rfl rfl hc' rfl ?_;refine bG (fun A2=>ST A A2 Y (Y.set vv' Y.lv (Y.vars++[(t.s,first t)]) Y.locks) b _) (T.tW hw h rfl G.Fi (by rw[lA,fA];exact G.cap) G.grow (by rw[lA,lS];omega) ?_) ?_
 ·intro e;exact wv (T.ps.bo.nd e) (zW (z6 (zV t6.bad e)) e)
 intro A8 T2;replace T:=T2;refine sA ?_;refine eD ?_;refine bd rfl ⟨vv',Y.lv,[(t.s,first t)],_,T,Nat.le_refl _,fun hb=>?_⟩;subst hb;exact Dz (E:=Y.ev n) hlt z6 t6.bad
end Go.Proofs.YtafamggbkobcfaaGreat.Ae
