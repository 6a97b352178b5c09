/- A part of the proof of the statement CheckTypes. -/
import Derived.Test.YtafamggbkobcfaaGreatAiSyK6
import Derived.Test.YtafamggbkobcfaaGreatAiSyT17
namespace Go.Proofs.YtafamggbkobcfaaGreat.Ae
open Go.AE
set_option linter.unusedVariables false
set_option maxRecDepth 100000
theorem oe(cs:List Nd)(n:Str)(k:Int)(a:Str)(l:List Str): gx cs n k (a::l)=match Ae.own cs a n k with
 | some m=>some m
 | none=>if a=cV∧n=ke∧k=3 then some nr else gx cs n k l:=rfl
theorem jj{K:FuncId}{A:AW}{X:BX}{b:Bool}{c n:Str}{k:Int}(hw:Wf A)(h:PC A X b): aD (ES K) 50 [.ptr X.pc 0 0,.str c,.str n,.int .i64 k] A fun r A1=>Du (dM X.cs X.hs c n k) A A1 X.M r:=by
 obtain⟨fe,hc⟩:=h.cell;have hal:=rG X.hs c;have hhl:=h.ht.len;refine ap rfl rfl rfl ?_;refine gO ?_;refine zA (n:=6) (y:=au dL .aj) hw ?_;intro A1 o1 c8;generalize hf8:A.aa=f8 at c8;have x8:=o1.wf _ _ c8;replace hc:=o1.k hc;refine wC (tG o1.wf (h.quiet o1).hi h.ht.xV h.ht.len) ?_;rintro r A2 ⟨hb,o2,hg⟩;have o12:=o1.same o2;replace c8:=o2.k c8;have hlv:=hb.row.bm;refine wJ hlv ?_;unfold dM;generalize nj X.hs c=al at hb hlv hal;refine aE ?_;refine yL (pp 0 X.pc (pv 2 (.str n) (pz 3 k (pp 8 f8 (pv 19 r (pn 20 al.length (pn 21 0 .nil))))))) ?_;refine aV (ι:=Nat) (fun i=>al.length-i) (fun i=>pp 0 X.pc (pv 2 (.str n) (pz 3 k (pp 8 f8 (pv 19 r (pn 20 al.length (pn 21 i .nil))))))) (fun i B=>ac A2 B ag∧i≤al.length∧gx X.cs n k al=gx X.cs n k (al.drop i)) ?_ 0 A2 ⟨ac.refl o2.wf _,Nat.zero_le _,rfl⟩;rintro i B ⟨oB,hi,hp⟩ ih;replace c8:=oB.k c8
 replace hb:=hb.k oB;have o1B:=o12.same oB;have n2:=o2.aa;have nB:=oB.aa;have fin:∀{B:AW} {t:Nd} {kv:AV},ac A B ag→gt B f8 6 (au dL .aj)→ac A (B.put f8 (.cells 0 false 6 (au t kv))) ag:=fun o hB=>ac.fresh hw o (ac.put o.wf (o.wf _ _ hB)) nF;refine wD (fun hlt=>?_) fun hge=>?_
 ·have hlt:i<al.length:=Int.ofNat_lt.1 hlt;have hu:al[i]?=some al[i]:=gE hlt;have hd:al.drop i=al[i]::al.drop (i+1):=List.drop_eq_getElem_cons hlt;generalize hx:al[i]=u at hu hd;rw[hd,oe] at hp;obtain⟨f,t,o,cc,ex,ro,all,hv,hh,_,cw⟩:=cZ hb.row hu;refine wI hv hlt ?_;refine wE hh cw ?_;refine zC rfl (ve o1B.wf (h.quiet o1B)) ?_;rintro r3 A3 ⟨o3,hr⟩;have o13:=o1B.same o3;replace c8:=o3.k c8;have n3:=o3.aa;cases hown:Ae.own X.cs u n k with
  | some m=>
   rw[hown] at hr hp;obtain⟨kv,rfl,N⟩:∃kv,r3=.tuple [.agg (au m kv),.bool true]∧aI A3 (fun g=>g<X.M∨B.aa≤g) m kv:=hr;have w3:=o13.wf;replace N:=N.mono (S':=fun g=>(g<X.M∨B.aa≤g)∧g<A3.aa) fun g hg ⟨F,hF⟩=>⟨hg,w3 g F hF⟩;refine gO ?_;refine zM (n:=6) (y:=au m kv) o13.wf ?_;intro A4 o4 c12;generalize A3.aa=f12 at c12;replace c8:=o4.k c8;replace N:=N.k o4;refine rU ?_;refine wL c12 ?_;refine zS c8 ?_;have op:=ac.put (x:=.cells 0 false 6 (au m kv)) o4.wf (o4.wf _ _ c8);refine gO ?_;refine dz rfl rfl rfl (bk rfl rfl (by rw[AW.aw,iP rfl]) rfl) ⟨fin (t:=m) (kv:=kv) (o13.same o4) c8,?_⟩;simp only[hp];have hMA:X.M≤A.aa:=by have:=h.lt hw;have:=h.le;omega
   refine⟨kv,rfl,(N.ae op fun g hg e=>by cases e;omega).mono fun g hg _=>?_⟩;rcases hg.1 with hg|hg
   ·exact .inl hg
   ·exact .inr om
  | none=>
   rw[hown] at hr hp;have hr:r3=.tuple [.agg (au dL .aj),.bool false]:=hr;subst hr;have hp:gx X.cs n k al=if u=cV∧n=ke∧k=3 then some nr else gx X.cs n k (al.drop (i+1)):=hp
   refine gO ?_;refine aq rfl rfl rfl ?_;refine zS (by rw[AW.add_get,if_pos rfl]) ?_;refine bG (fun A4=>ac A3 A4 ag) (made o13.wf) ?_;rintro A4 o4;replace c8:=o4.k c8;have o14:=o13.same o4;have n4:=o4.aa;refine gO ?_;refine da rfl ?_;refine sQ ?_;refine bX (pp 0 X.pc (.put 2 (.str n) (.put 3 (.int .i64 k) (pp 8 f8 (pv 19 r (pn 20 al.length (pn 21 i (.put 44 (.bool (decide (u=cV∧n=ke∧k=3))) .nil)))))))) ?_ ?_
   ·refine oP ?_;by_cases h1:u=cV
    ·refine wT 37 h1 ?_;refine oP ?_;by_cases h2:n=ke
     ·refine wT 41 h2 ?_;refine oP ?_;exact⟨rfl,rfl,rfl,rfl,rfl,rfl,rfl,rfl,congrArg (fun x=>some (AV.bool x)) (decide_eq_decide.2 ⟨fun h=>⟨h1,h2,h⟩,fun h=>h.2.2⟩),trivial⟩
     ·refine wF 41 h2 ?_;refine oP ?_;exact⟨rfl,rfl,rfl,rfl,rfl,rfl,rfl,rfl,congrArg (fun x=>some (AV.bool x)) (yF fun h=>h2 h.2.1).symm,trivial⟩
    ·refine wF 37 h1 ?_;refine oP ?_;exact⟨rfl,rfl,rfl,rfl,rfl,rfl,rfl,rfl,congrArg (fun x=>some (AV.bool x)) (yF fun h=>h1 h.1).symm,trivial⟩
   refine zG (fun hb=>?_) fun hb=>?_
   ·rw[iP hb] at hp;obtain⟨_,rfl,rfl⟩:=hb;refine gO ?_;refine bG (fun A5=>ac A4 A5 ag∧A5.heap.get A4.aa=some (.cells 0 false 6 (au (nd 6 0 [105,110,116] []) .aj))) ⟨ac.add o14.wf _,by rw[AW.add_get,iP rfl];rfl⟩ ?_;rintro A5 ⟨o5,c47⟩;generalize hf47:A4.aa=f47 at c47;replace c8:=o5.k c8;refine oP ?_;refine zS c8 ?_;have op:=ac.put (x:=.cells 0 false 6 (au nr (.slice f47 0 0 1 1 true))) o5.wf (o5.wf _ _ c8);refine gO ?_;refine dz rfl rfl rfl (bk rfl rfl (by rw[AW.aw,iP rfl]) rfl) ⟨fin (t:=nr) (kv:=.slice f47 0 0 1 1 true) (o14.same o5) c8,?_⟩;simp only[hp];refine⟨.slice f47 0 0 1 1 true,rfl,.mk (cs:=au (nd 6 0 [105,110,116] []) .aj++[]) (.inr ⟨f47,0,0,1,true,false,au (nd 6 0 [105,110,116] []) .aj,rfl,op.ae _ _ c47 fun e=>by have e:f47=f8:=e;omega,Nat.le_refl _,rfl⟩) (fun g hg=>.inr (by cases hg;omega)) dE (.cons (aI.cB rfl) .nil)⟩
   ·rw[iN hb] at hp;refine wP ?_;refine ai ?_;refine yL (pp 0 X.pc (pv 2 (.str n) (pz 3 k (pp 8 f8 (pv 19 r (pn 20 al.length (pn 21 (i+1:Nat) .nil))))))) ?_;exact ih (i+1) A4 om ⟨(oB.same o3).same o4,hlt,hp⟩
 ·have hge:i=al.length:=by
   omega
  rw[hge,List.drop_length] at hp;have hp:gx X.cs n k al=none:=hp;refine ay rfl ?_;refine wS c8 ?_;refine dz rfl rfl rfl (bk rfl rfl (by rw[AW.aw,iP rfl]) rfl) ⟨fin (t:=dL) (kv:=.aj) o1B c8,?_⟩;simp only[hp];rfl
def AY(v:Str×bM): List AV:=[.str v.1,.int .i64 v.2.1,.str v.2.2]
structure BY where
 X:BX
 fb:Nat
 cls:Str
 ret:bM
 vv:AV
 lv:AV
 vars:List (Str×bM)
 locks:List Str
structure BO (A:AW) (Y:BY) (b:Bool) : Prop where
 eO:PC A Y.X b
 cell:A.heap.get Y.fb=some (.cells 0 false 6 [.ptr Y.X.pc 0 0,.str Y.cls,.int .i64 Y.ret.1,.str Y.ret.2,Y.vv,Y.lv])
 vs:Row A 3 Y.vv Y.vars.length (Y.vars.flatMap AY)
 ls:Row A 1 Y.lv Y.locks.length (ip Y.locks)
 n1:Y.fb≠Y.X.pc
 n2:¬Y.vv.av Y.X.pc
 n3:¬Y.lv.av Y.X.pc
 hc:named Y.cls=(4,Y.cls)
 vl:Y.vars.length≤1000000000
 ll:Y.locks.length≤1000000000
 nd:b=false→(Y.vars.map Prod.fst).Nodup
structure BT (A A1:AW) (Y:BY) (b b1:Bool) : Prop where
 ps:BO A1 Y b1
 Fi:ac A A1 (one Y.X.pc)
 bad:b=true→b1=true
section
variable{A A1 A2:AW}{Y:BY}{b b1 b2:Bool}
theorem BO.ae(h:BO A Y b){T:Nat→Prop}(o:ac A A1 T)(hp:PC A1 Y.X b1)(h1:¬T Y.fb)(h2:∀g,Y.vv.av g→¬T g)(h3:∀g,Y.lv.av g→¬T g)(hb:b=true→b1=true): BO A1 Y b1:=
 ⟨hp,o.ae _ _ h.cell h1,h.vs.ae o h2,h.ls.ae o h3,h.n1,h.n2,h.n3,h.hc,h.vl,h.ll,fun z=>h.nd (by cases b;rfl;rw[hb rfl] at z;exact z)⟩
theorem BO.quiet(h:BO A Y b)(o:ac A A1 ag): BO A1 Y b:=h.ae o (h.eO.quiet o) (fun h=>h) (fun _ _ h=>h) (fun _ _ h=>h) fun h=>h
theorem BO.step(hw:Wf A)(h:BO A Y b)(k:ir A A1 Y.X b b1): BT A A1 Y b b1:=by
 exact⟨h.ae k.Fi k.ps (fun e=>h.n1 e) (fun g hg e=>h.n2 (by cases e;exact hg)) (fun g hg e=>h.n3 (by cases e;exact hg)) k.bad,k.Fi,k.bad⟩
theorem BO.lt(hw:Wf A)(h:BO A Y b): Y.X.pc<A.aa:=h.eO.lt hw
theorem BT.refl(hw:Wf A)(h:BO A Y b): BT A A Y b b:=⟨h,ac.refl hw _,fun h=>h⟩
theorem BT.then(h:BT A A1 Y b b1)(k:BT A1 A2 Y b1 b2): BT A A2 Y b b2:=⟨k.ps,h.Fi.same k.Fi,fun z=>k.bad (h.bad z)⟩
theorem BT.quiet(h:BT A A1 Y b b1)(o:ac A1 A2 ag): BT A A2 Y b b1:=⟨h.ps.quiet o,h.Fi.same (o.mono fun _ h=>h.elim),h.bad⟩
theorem BT.after(o:ac A A1 ag)(h:BT A1 A2 Y b b1): BT A A2 Y b b1:=⟨h.ps,(o.mono fun _ h=>h.elim).same h.Fi,h.bad⟩
theorem BT.fresh{T:Nat→Prop}{b0:Bool}(hw:Wf A)(h0:BO A Y b0)(h:BT A A1 Y b b1)(o:ac A1 A2 T)(ht:∀g,T g→A.aa≤g): BT A A2 Y b b1:=by
 have nt:∀g,g<A.aa→¬T g:=fun g hg k=>by
  have:=ht g k;omega
 refine⟨h.ps.ae o (h.ps.eO.ae o fun g hg=>h0.eO.under hw (ht g hg)) (nt _ (hw _ _ h0.cell)) (fun g hg=>nt g (h0.vs.under hw g hg)) (fun g hg=>nt g (h0.ls.under hw g hg)) fun h=>h,⟨o.wf,Nat.le_trans h.Fi.aa o.aa,fun g F hg hn=>?_⟩,h.bad⟩;exact o.ae _ _ (h.Fi.ae _ _ hg hn) (nt g (hw g F hg))
end
theorem rN{x:bM}:dC (.agg (bc x)) (.agg (bc x))=true:=by
 obtain⟨k,s⟩:=x;have h1:oI (.int .i64 k) (.int .i64 k)=true:=kI (k:=.i64) (n:=k);have h2:oI (.str s) (.str s)=true:=tC (s:=s);show lR [.int .i64 k,.str s] [.int .i64 k,.str s]=true;simp only[lR,h1,h2];rfl
theorem ah{K:FuncId}{A:AW}{Y:BY}{b x:Bool}{t:Nd}{kv:AV}(hw:Wf A)(h:BO A Y b):
 aD (ES K) 55 [.ptr Y.fb 0 0,.bool x,.agg (au t kv)] A fun r A1=>r=.bool (x || b)∧BT A A1 Y b (x || b):=by
 have hc:=h.cell;refine ap rfl rfl rfl ?_;refine gO ?_;refine zB (n:=6) (y:=au t kv) hw ?_;intro A1 o1 c5;generalize A.aa=f5 at c5;replace hc:=o1.k hc;have h1:=h.quiet o1;refine tD ?_;refine aC ?_;refine zC rfl (bP o1.wf h1.eO) ?_;rintro r A2 ⟨rfl,t2⟩;refine sA ?_;refine aC ?_;refine sA ?_;refine eD ?_;exact af rfl ⟨rfl,BT.after o1 (h1.step o1.wf t2)⟩
theorem iu{K:FuncId}{A:AW}{Y:BY}{b:Bool}{x y:bM}(hw:Wf A)(h:BO A Y b):
 aD (ES K) 110 [.ptr Y.fb 0 0,.agg (bc x),.agg (bc y)] A fun r A1=>r=.bool (decide (bI Y.X.hs x y))∧ac A A1 ag:=by
 have hc:=h.cell;refine ap rfl rfl rfl ?_;refine gO ?_;refine zB (n:=2) (y:=bc x) hw ?_;intro A1 o1 c4;generalize A.aa=f4 at c4;refine zB (n:=2) (y:=bc y) o1.wf ?_;intro A2 o2 c5;generalize A1.aa=f5 at c5;replace c4:=o2.k c4;replace o2:=o1.same o2;replace hc:=o2.k hc;have h2:=h.quiet o2;obtain⟨fe,hpc⟩:=h2.eO.cell;refine tD ?_;refine rD ?_;refine zL c4 ?_;refine eR ?_;refine rD ?_;refine zL c5 ?_;refine eR ?_;refine aC ?_;refine zC rfl (BN (x:=x) (y:=y) o2.wf h2.eO.hi h.eO.ht.xV h.eO.ht.len) ?_;rintro r A3 ⟨rfl,o3⟩;refine sA ?_;refine aC ?_;refine sA ?_;refine eD ?_;exact af rfl ⟨rfl,o2.same o3⟩
theorem xX:∀{l:List (Str×bM)} {i:Nat} {v:Str×bM},(l.map Prod.fst).Nodup→l[i]?=some v→bN l v.1=some v.2
 | [],i,v,_,h=>by cases h
 | u::l,0,v,_,h=>by
  simp only[List.getElem?_cons_zero,Option.some.injEq] at h;subst h;exact iP rfl
 | u::l,i+1,v,hn,h=>by
  have h:l[i]?=some v:=by simpa using h
  have hn':=List.nodup_cons.1 hn;have hne:¬u.1=v.1:=fun e=>hn'.1 (by rw[e];exact List.mem_map_of_mem (mG h));show (if u.1=v.1 then _ else bN l v.1)=_;rw[iN hne];exact xX hn'.2 h
theorem xY:∀{l:List (Str×bM)} {n:Str},(∀(i:Nat) (v:Str×bM),l[i]?=some v→v.1≠n)→bN l n=none
 | [],n,_=>rfl
 | u::l,n,h=>by
  show (if u.1=n then _ else bN l n)=_;rw[iN (h 0 u rfl)];exact xY fun i v hv=>h (i+1) v (by simpa using hv)
theorem og{K:FuncId}{A:AW}{Y:BY}{b:Bool}{n:Str}(hw:Wf A)(h:BO A Y b):
 aD (ES K) 89 [.ptr Y.fb 0 0,.str n] A fun r A1=>ac A A1 ag∧∃y x,r=.tuple [.agg (bc y),.bool x]∧(b=false→bN Y.vars n=if x=true then some y else none):=by
 have hvl:=h.vl;refine ap rfl rfl rfl ?_;refine gO ?_;refine zA (n:=2) (y:=bc (0,[])) hw ?_;intro A1 o1 c4;generalize hf4:A.aa=f4 at c4;have h1:=h.quiet o1;replace hc:=h1.cell;have fin:∀{y:bM},ac A (A1.put f4 (.cells 0 false 2 (bc y))) ag:=fun {y}=>ac.fresh hw o1 (ac.put o1.wf (o1.wf _ _ c4)) nF;refine wJ h1.vs.bm ?_;refine fd rfl rfl rfl om om ?_;refine gO ?_;refine lZ ?_;refine yL (pp 0 Y.fb (pv 1 (.str n) (pp 4 f4 (pz 6 ((Y.vars.length:Int)-1) .nil)))) ?_;refine aV (ι:=Nat) (fun i=>i) (fun i=>pp 0 Y.fb (pv 1 (.str n) (pp 4 f4 (pz 6 ((i:Int)-1) .nil)))) (fun i B=>B=A1∧i≤Y.vars.length∧∀j v,i≤j→Y.vars[j]?=some v→v.1≠n) ?_ Y.vars.length A1 ⟨rfl,Nat.le_refl _,fun j v hj hv=>absurd (List.getElem?_eq_some_iff.1 hv).1 om⟩;rintro i B ⟨rfl,hi,hno⟩ ih;refine wD (fun hneg=>?_) fun hneg=>?_
 ·have hneg:(i:Int)-1<0:=hneg;have:i=0:=om;subst this;refine wS c4 ?_;refine dz rfl rfl rfl (bk rfl rfl (by rw[AW.aw,iP rfl]) rfl) ⟨fin (y:=(0,[])),(0,[]),false,rfl,fun _=>?_⟩;rw[iN dE];exact xY fun j v hv=>hno j v (Nat.zero_le _) hv
 ·have hneg:¬(i:Int)-1<0:=hneg;obtain⟨j,rfl⟩:∃j,i=j+1:=⟨i-1,om⟩;have hjl:j<Y.vars.length:=om;have hv:Y.vars[j]?=some Y.vars[j]:=gE hjl;generalize hx:Y.vars[j]=v at hv;obtain⟨f,t,o,cc,ex,ro,all,hvv,hh,_,cw⟩:=dT (cl:=AY) (fun _=>rfl) h1.vs hv;have ej:((j+1:Nat) : Int)-1=(j:Int):=om;refine gO ?_;refine bg j rfl (congrArg some hvv) rfl rfl ej hjl ?_;refine oP ?_;refine aZ rfl rfl rfl rfl hh (v:=.str v.1) ?_ ?_
  ·exact aR ((cw 1 0 dE).trans rfl)
  refine wD (fun he=>?_) fun hne=>?_
  ·have he:v.1=n:=he;refine gO ?_;refine bg j rfl (congrArg some hvv) rfl rfl ej hjl ?_;refine oP ?_;refine bS (vs:=bc v.2) rfl rfl rfl rfl hh ?_ ?_
   ·exact (cw 2 1 dE).trans rfl
   refine wS c4 ?_;refine dz rfl rfl rfl (bk rfl rfl (by rw[AW.aw,iP rfl]) rfl) ⟨fin (y:=v.2),v.2,true,rfl,fun hb=>?_⟩;rw[iP rfl,←he];exact xX (h.nd hb) hv
  ·have hne:¬v.1=n:=hne;refine gO ?_;refine fd rfl rfl rfl om om ?_;refine gO ?_;refine oZ rfl (ld (jd ?_));refine bY (pp 0 Y.fb (pv 1 (.str n) (pp 4 f4 (pz 6 ((j:Int)-1) .nil)))) ?_ ⟨rfl,rfl,rfl,congrArg (fun z:Int=>some (AV.int .i64 (z-1))) ej,trivial⟩;refine ih j B (Nat.lt_succ_self _) ⟨rfl,om,fun k w hk hw'=>?_⟩;by_cases e:k=j
   ·subst e;rw[hv] at hw';cases hw';exact hne
   ·exact hno k w om hw'
def BY.cx(Y:BY): Cx:=⟨Y.X.cs,Y.X.hs,Y.cls,Y.vars⟩
def XP(A A1:AW)(Y:BY)(b:Bool)(z:Option bM)(r:AV): Prop:=∃y b1,r=.agg (bc y)∧BT A A1 Y b b1∧(b=false→match z with
 | none=>b1=true
 | some w=>b1=false∧y=w)
section
variable{A A1 A2:AW}{Y:BY}{b b1:Bool}{z:Option bM}{y:bM}{r:AV}
theorem XP.same(T:BT A A1 Y b b)(h:z=some y): XP A A1 Y b z (.agg (bc y)):=⟨y,b,rfl,T,fun hb=>by
 subst h;exact⟨hb,rfl⟩⟩
theorem XP.none(T:BT A A1 Y b true)(h:b=false→z=none): XP A A1 Y b z (.agg (bc y)):=⟨y,true,rfl,T,fun hb=>by
 rw[h hb]⟩
theorem XP.after(T:BT A A1 Y b false)(h:XP A1 A2 Y false z r): XP A A2 Y b z r:=by
 obtain⟨y,b1,e,t,h⟩:=h;exact⟨y,b1,e,T.then t,fun _=>h rfl⟩
theorem XP.mk(T:BT A A1 Y b b1)(h:b=false→match z with
 | .none=>b1=true
 | some w=>b1=false∧y=w) : XP A A1 Y b z (.agg (bc y)):=⟨y,b1,rfl,T,h⟩
theorem BT.tree{S:Nat→Prop}(T:BT A A1 Y b b1)(hS:∀g,S g→g≠Y.X.pc){t:Nd}{kv:AV}(N:aI A S t kv): aI A1 S t kv:=N.ae T.Fi fun g hg e=>hS g hg e
theorem BT.bl(T:BT A A1 Y b b1){t:Nd}{kv:AV}(N:aI A (fun g=>g<Y.X.M) t kv): aI A1 (fun g=>g<Y.X.M) t kv:=N.ae T.Fi fun g hg e=>by
 cases e;have:=T.ps.eO.le;omega
theorem BT.flag(T:BT A A1 Y b false): b=false:=by
 cases b
 ·rfl
 ·exact absurd (T.bad rfl) dE
variable{E:Env}{C:bC}{all rest:List Oper}{l:Kn}{K:Kn→AW→Prop}{n f:Nat}{cs cs0:List AV}
theorem dN(hw:Wf A)(h:BO A Y b)(T:BT A A1 Y b b1)(hf:A1.aa=f)(g:∀A2,A.aa≤f→f≠Y.X.pc→ac A1 A2 ag→A2.heap.get f=some (.cells 0 false n cs)→BT A A2 Y b b1→WO E C all rest l A2 K): WO E C all rest l (A1.add (.cells 0 false n cs)) K:=by
 subst hf;have h1:=T.Fi.aa;have h2:=h.lt hw;have o:ac A1 (A1.add (.cells 0 false n cs)) ag:=ac.add T.Fi.wf _;exact g _ h1 om o (by rw[AW.add_get,iP rfl]) (T.quiet o)
theorem fG(hw:Wf A)(h:BO A Y b)(T:BT A A1 Y b b1)(hf:A1.aa=f)(g:∀A2,A.aa≤f→f≠Y.X.pc→ac A1 A2 ag→A2.heap.get f=some (.cells 0 false n cs)→BT A A2 Y b b1→WO E C all rest l A2 K): WO E C all rest l ((A1.add (.cells 0 false n cs0)).put f (.cells 0 false n cs)) K:=by
 subst hf;have h1:=T.Fi.aa;have h2:=h.lt hw;have o:ac A1 _ ag:=made (es:=n) (cs:=cs0) (cs':=cs) T.Fi.wf;exact g _ h1 om o (by rw[AW.aw,iP rfl]) (T.quiet o)
theorem aJ(hw:Wf A)(h:BO A Y b)(T:BT A A1 Y b b1)(x:A.aa≤f)(c:A1.heap.get f=some (.cells 0 false n cs0))(g:∀A2,ac A1 A2 (one f)→A2.heap.get f=some (.cells 0 false n cs)→BT A A2 Y b b1→WO E C all rest l A2 K): WO E C all rest l (A1.put f (.cells 0 false n cs)) K:=by
 have o:=ac.put (x:=.cells 0 false n cs) T.Fi.wf (T.Fi.wf _ _ c);exact g _ o (by rw[AW.aw,iP rfl]) (T.fresh hw h o fun g hg=>by cases hg;exact x)
end
theorem bv{A:AW}{S:Nat→Prop}{t:Nd}{kv:AV}(h:aI A S t kv){i:Nat}{u:Nd}(hu:t.l[i]?=some u):
 ∃f s o c ex ro all ku,kv=.slice f s o t.l.length c ex∧S f∧A.heap.get f=some (.cells s ro 6 all)∧i<t.l.length∧aI A S u ku∧
  ∀k j,j+k≤6→takeN k (aB (Nat.add (Nat.add o (Nat.mul i 6)) j) all)=takeN k (aB j (au u ku)):=by
 have hi:=(List.getElem?_eq_some_iff.1 hu).1;cases h with
 | mk h1 h2 h3 h4=>
  obtain⟨f,s,o,c,ex,ro,all,rfl,hh,cw⟩:=h1.at hi;obtain⟨ku,g1,g2⟩:=h4.at hu;exact⟨f,s,o,c,ex,ro,all,ku,rfl,h2 f rfl,hh,hi,g1,fun k j hk=>(cw k j hk).trans (g2 k j hk)⟩
theorem Ch{K:FuncId}{A:AW}{Y:BY}{b:Bool}{t:Nd}{kv:AV}{y:bM}(hw:Wf A)(h:BO A Y b):
 aD (ES K) 114 [.ptr Y.fb 0 0,.agg (au t kv),.agg (bc y)] A fun r A1=>XP A A1 Y b (wt Y.cx t.s y) r:=by
 refine ap rfl rfl rfl ?_;have T:=BT.refl hw h;have hlp:=h.lt hw;have hM:=h.eO.le;refine gO ?_;refine bA rfl rfl rfl rfl ?_;generalize hf4:A.aa=f4;refine dN (n:=6) (cs:=au t kv) hw h T hf4 ?_;intro A1 x4 p4 o1 c4 T;have l1:=T.Fi.wf _ _ c4;refine bA rfl rfl rfl rfl ?_;generalize hf5:A1.aa=f5;refine dN (n:=2) (cs:=bc y) hw h T hf5 ?_;intro A2 x5 p5 o2 c5 T;replace c4:=o2.k c4;have l2:=T.Fi.wf _ _ c5;refine aq rfl rfl rfl ?_;generalize hf6:A2.aa=f6;refine dN (n:=2) (cs:=bc (0,[])) hw h T hf6 ?_;intro A3 x6 p6 o3 c6 T;obtain⟨c4,c5⟩:=o3.k2 c4 c5;have l3:=T.Fi.wf _ _ c6;refine sQ ?_;refine bX (pp 0 Y.fb (pp 4 f4 (pp 5 f5 (pp 6 f6 (pb 16 (decide (y.1=3∧t.s=[108,101,110])) .nil))))) ?_ ?_
 ·refine oP ?_;by_cases h1:y.1=3
  ·refine wT 12 h1 ?_;refine oP ?_;exact⟨rfl,rfl,rfl,rfl,rfl,congrArg (fun x=>some (AV.bool x)) (decide_eq_decide.2 ⟨fun h=>⟨h1,h⟩,fun h=>h.2⟩),trivial⟩
  ·refine wF 12 h1 ?_;refine oP ?_;exact⟨rfl,rfl,rfl,rfl,rfl,congrArg (fun x=>some (AV.bool x)) (yF fun h=>h1 h.1).symm,trivial⟩
 refine zG (fun h1=>?_) fun h1=>?_
 ·refine wC (aU T.Fi.wf) ?_;rintro r A4 ⟨rfl,o4⟩;replace T:=T.quiet o4;replace c6:=o4.k c6;refine gO ?_;refine zS c6 ?_;refine aJ (cs:=bc (1,[])) hw h T x6 c6 ?_;intro A5 o5 c6 T;refine gO ?_;refine zT c6 ?_;exact XP.same T (iP h1)
 refine gO ?_;have hc:=T.ps.cell;refine tD ?_;refine bW rfl rfl rfl rfl ?_;refine aq rfl rfl rfl ?_;generalize hf7:A3.aa=f7;refine dN (n:=6) (cs:=au dL .aj) hw h T hf7 ?_;intro A4 x7 p7 o4 c7 T;obtain⟨c4,c5,c6⟩:=o4.k3 c4 c5 c6;have l4:=T.Fi.wf _ _ c7;refine oP ?_;refine aC ?_;refine zC rfl (jj T.Fi.wf T.ps.eO) ?_;rintro r A5 ⟨o5,hr⟩;replace T:=T.quiet o5;obtain⟨c4,c5,c6,c7⟩:=o5.k4 c4 c5 c6 c7;have hz:wt Y.cx t.s y=if y.1≠4 then none else match dM Y.X.cs Y.X.hs y.2 t.s 3 with
  | none=>none
  | some m=>some (first m):=iN h1
 rw[hz];cases hmb:dM Y.X.cs Y.X.hs y.2 t.s 3 with
 | none=>
  rw[hmb] at hr;have hr:r=.tuple [.agg (au dL .aj),.bool false]:=hr;subst hr;refine sA ?_;refine aC ?_;refine zS c7 ?_;refine aJ (cs:=au dL .aj) hw h T x7 c7 ?_;intro A6 o6 cN T2;replace T:=T2;clear T2 cN;obtain⟨c4,c5,c6⟩:=o6.k3 c4 c5 c6;refine sA ?_;refine aC ?_;refine sA ?_;refine eD ?_;by_cases h4:y.1=4
  ·refine aF 34 false rfl (yF fun h=>h h4) ?_;refine wL c4 ?_;refine zC rfl (ah T.Fi.wf T.ps) ?_;rintro r A7 ⟨rfl,t7⟩;replace T:=T.then t7;replace c6:=t7.Fi.k c6;refine rU ?_;refine zC rfl (aU T.Fi.wf) ?_;rintro r A8 ⟨rfl,o8⟩;replace T:=T.quiet o8;replace c6:=o8.k c6;refine gO ?_;refine zS c6 ?_;refine aJ (cs:=bc (6,[])) hw h T x6 c6 ?_;intro A9 o9 c6 T;refine gO ?_;refine zT c6 ?_;exact XP.none T fun _=>if_neg fun h=>h h4
  ·refine wT 34 h4 ?_;refine wL c4 ?_;refine zC rfl (ah T.Fi.wf T.ps) ?_;rintro r A7 ⟨rfl,t7⟩;replace T:=T.then t7;replace c6:=t7.Fi.k c6;refine rU ?_;refine zC rfl (aU T.Fi.wf) ?_;rintro r A8 ⟨rfl,o8⟩;replace T:=T.quiet o8;replace c6:=o8.k c6;refine gO ?_;refine zS c6 ?_;refine aJ (cs:=bc (6,[])) hw h T x6 c6 ?_;intro A9 o9 c6 T;refine gO ?_;refine zT c6 ?_;exact XP.none T fun _=>iP h4
 | some m=>
  rw[hmb] at hr;obtain⟨km,hr,Nm⟩:∃km,r=.tuple [.agg (au m km),.bool true]∧aI A5 (fun g=>g<Y.X.M∨A4.aa≤g) m km:=hr;subst hr;refine sA ?_;refine aC ?_;refine zS c7 ?_;refine aJ (cs:=au m km) hw h T x7 c7 ?_;intro A6 o6 c7 T;obtain⟨c4,c5,c6⟩:=o6.k3 c4 c5 c6;replace Nm:=Nm.k o6;refine sA ?_;refine aC ?_;refine sA ?_;refine eD ?_;by_cases h4:y.1=4
  ·refine aF 34 false rfl (yF fun h=>h h4) ?_;refine wL c4 ?_;refine zC rfl (ah T.Fi.wf T.ps) ?_;rintro r A7 ⟨rfl,t7⟩;replace T:=T.then t7;obtain⟨c6,c7⟩:=t7.Fi.k2 c6 c7;replace Nm:=t7.tree (fun g hg e=>by rcases hg with hg|hg<;>omega) Nm;refine gO ?_;cases b with
   | true=>
    refine rU ?_;refine zC rfl (aU T.Fi.wf) ?_;rintro r A8 ⟨rfl,o8⟩;replace T:=T.quiet o8;replace c6:=o8.k c6;refine gO ?_;refine zS c6 ?_;refine aJ (cs:=bc (6,[])) hw h T x6 c6 ?_;intro A9 o9 c6 T;refine gO ?_;refine zT c6 ?_;exact XP.none T fun h=>by cases h
   | false=>
    refine rU ?_;refine wL c7 ?_;refine zC rfl (eN T.Fi.wf Nm (jg h.eO.mem hmb).1.1) ?_;rintro r A8 ⟨rfl,o8⟩;replace T:=T.quiet o8;replace c6:=o8.k c6;refine gO ?_;refine zS c6 ?_;refine aJ (cs:=bc (first m)) hw h T x6 c6 ?_;intro A9 o9 c6 T;refine gO ?_;refine zT c6 ?_;exact XP.same T (if_neg fun h=>h h4)
  ·refine wT 34 h4 ?_;refine wL c4 ?_;refine zC rfl (ah T.Fi.wf T.ps) ?_;rintro r A7 ⟨rfl,t7⟩;replace T:=T.then t7;replace c6:=t7.Fi.k c6;refine rU ?_;refine zC rfl (aU T.Fi.wf) ?_;rintro r A8 ⟨rfl,o8⟩;replace T:=T.quiet o8;replace c6:=o8.k c6;refine gO ?_;refine zS c6 ?_;refine aJ (cs:=bc (6,[])) hw h T x6 c6 ?_;intro A9 o9 c6 T;refine gO ?_;refine zT c6 ?_;exact XP.none T fun _=>iP h4
set_option maxHeartbeats 4000000 in
theorem zN{K:FuncId}{A:AW}{Y:BY}{b:Bool}{t:Nd}{kv:AV}{S:Nat→Prop}{x y:bM}(hw:Wf A)(h:BO A Y b)(N:aI A S t kv):
 aD (ES K) 115 [.ptr Y.fb 0 0,.agg (au t kv),.agg (bc x),.agg (bc y)] A fun r A1=>XP A A1 Y b (nw t.s x y) r:=by
 refine ap rfl rfl rfl ?_;have T:=BT.refl hw h;refine gO ?_;refine bA rfl rfl rfl rfl ?_;generalize hf5:A.aa=f5;refine dN (n:=6) (cs:=au t kv) hw h T hf5 ?_;intro A1 x5 p5 o1 c5 T;refine bA rfl rfl rfl rfl ?_;generalize hf6:A1.aa=f6;refine dN (n:=2) (cs:=bc x) hw h T hf6 ?_;intro A2 x6 p6 o2 c6 T;replace c5:=o2.k c5;refine bA rfl rfl rfl rfl ?_;generalize hf7:A2.aa=f7;refine dN (n:=2) (cs:=bc y) hw h T hf7 ?_;intro A3 x7 p7 o3 c7 T;obtain⟨c5,c6⟩:=o3.k2 c5 c6;refine aq rfl rfl rfl ?_;generalize hf8:A3.aa=f8;refine dN (n:=2) (cs:=bc (0,[])) hw h T hf8 ?_;intro A4 x8 p8 o4 c8 T;obtain⟨c5,c6,c7⟩:=o4.k3 c5 c6 c7;refine sQ ?_;refine bX (pp 0 Y.fb (pp 5 f5 (pp 6 f6 (pp 7 f7 (pp 8 f8 (pb 9 (decide (dn x y)) .nil)))))) ?_ ?_
 ·refine oP ?_;by_cases h1:x.1=1
  ·refine wT 14 h1 ?_;refine oP ?_;exact⟨rfl,rfl,rfl,rfl,rfl,rfl,congrArg (fun x=>some (AV.bool x)) (decide_eq_decide.2 ⟨fun h=>⟨h1,h⟩,fun h=>h.2⟩),trivial⟩
  ·refine wF 14 h1 ?_;refine oP ?_;exact⟨rfl,rfl,rfl,rfl,rfl,rfl,congrArg (fun x=>some (AV.bool x)) (yF fun h=>h1 h.1).symm,trivial⟩
 refine sQ ?_;refine bX (pp 0 Y.fb (pp 5 f5 (pp 6 f6 (pp 7 f7 (pp 8 f8 (pb 9 (decide (dn x y)) (pb 10 (decide (jh x y)) .nil))))))) ?_ ?_
 ·refine oP ?_;by_cases h1:x.1=2
  ·refine wT 22 h1 ?_;refine oP ?_;exact⟨rfl,rfl,rfl,rfl,rfl,rfl,rfl,congrArg (fun x=>some (AV.bool x)) (decide_eq_decide.2 ⟨fun h=>⟨h1,h⟩,fun h=>h.2⟩),trivial⟩
  ·refine wF 22 h1 ?_;refine oP ?_;exact⟨rfl,rfl,rfl,rfl,rfl,rfl,rfl,congrArg (fun x=>some (AV.bool x)) (yF fun h=>h1 h.1).symm,trivial⟩
 refine gO ?_;have hv:=N.bh;refine zG (fun e1=>?_) fun e1=>?_
 ·refine gO ?_;refine zG (fun _=>?_) fun h=>absurd e1 h;refine gO ?_;by_cases hi:dn x y
  ·refine aF 41 false rfl (congrArg not (yT hi)) ?_;refine wL c5 ?_;refine zC rfl (ah T.Fi.wf T.ps) ?_;rintro r A5 ⟨rfl,t5⟩;replace T:=T.then t5;obtain⟨c6,c8⟩:=t5.Fi.k2 c6 c8;refine wL c6 ?_;refine zS c8 ?_;refine aJ (cs:=bc x) hw h T x8 c8 ?_;intro A6 o6 c8 T;refine gO ?_;refine zT c8 ?_;exact XP.same T ((iP (.inl e1)).trans (iP (.inl hi)))
  ·refine aF 41 true rfl (congrArg not (yF hi)) ?_;refine wL c5 ?_;refine zC rfl (ah T.Fi.wf T.ps) ?_;rintro r A5 ⟨rfl,t5⟩;replace T:=T.then t5;obtain⟨c6,c8⟩:=t5.Fi.k2 c6 c8;refine wL c6 ?_;refine zS c8 ?_;refine aJ (cs:=bc x) hw h T x8 c8 ?_;intro A6 o6 c8 T;refine gO ?_;by_cases hc:jh x y
   ·rw[yT hc] at T;refine zT c8 ?_;exact XP.same T ((iP (.inl e1)).trans (iP (.inr hc)))
   ·rw[yF hc] at T;refine zT c8 ?_;exact XP.none T fun _=>(iP (.inl e1)).trans (if_neg fun h=>h.elim hi hc)
 refine wD (fun e2=>?_) fun e2=>?_
 ·refine gO ?_;refine zG (fun _=>?_) fun h=>absurd e2 h;refine gO ?_;by_cases hi:dn x y
  ·refine aF 41 false rfl (congrArg not (yT hi)) ?_;refine wL c5 ?_;refine zC rfl (ah T.Fi.wf T.ps) ?_;rintro r A5 ⟨rfl,t5⟩;replace T:=T.then t5;obtain⟨c6,c8⟩:=t5.Fi.k2 c6 c8;refine wL c6 ?_;refine zS c8 ?_;refine aJ (cs:=bc x) hw h T x8 c8 ?_;intro A6 o6 c8 T;refine gO ?_;refine zT c8 ?_;exact XP.same T ((iP (.inr (.inl e2))).trans (iP (.inl hi)))
  ·refine aF 41 true rfl (congrArg not (yF hi)) ?_;refine wL c5 ?_;refine zC rfl (ah T.Fi.wf T.ps) ?_;rintro r A5 ⟨rfl,t5⟩;replace T:=T.then t5;obtain⟨c6,c8⟩:=t5.Fi.k2 c6 c8;refine wL c6 ?_;refine zS c8 ?_;refine aJ (cs:=bc x) hw h T x8 c8 ?_;intro A6 o6 c8 T;refine gO ?_;by_cases hc:jh x y
   ·rw[yT hc] at T;refine zT c8 ?_;exact XP.same T ((iP (.inr (.inl e2))).trans (iP (.inr hc)))
   ·rw[yF hc] at T;refine zT c8 ?_;exact XP.none T fun _=>(iP (.inr (.inl e2))).trans (if_neg fun h=>h.elim hi hc)
 refine wD (fun e3=>?_) fun e3=>?_
 ·refine gO ?_;by_cases hi:dn x y
  ·refine aF 41 false rfl (congrArg not (yT hi)) ?_;refine wL c5 ?_;refine zC rfl (ah T.Fi.wf T.ps) ?_;rintro r A5 ⟨rfl,t5⟩;replace T:=T.then t5;obtain⟨c6,c8⟩:=t5.Fi.k2 c6 c8;refine wL c6 ?_;refine zS c8 ?_;refine aJ (cs:=bc x) hw h T x8 c8 ?_;intro A6 o6 c8 T;refine gO ?_;refine zT c8 ?_;exact XP.same T ((iP (.inr (.inr e3))).trans (iP (.inl hi)))
  ·refine aF 41 true rfl (congrArg not (yF hi)) ?_;refine wL c5 ?_;refine zC rfl (ah T.Fi.wf T.ps) ?_;rintro r A5 ⟨rfl,t5⟩;replace T:=T.then t5;obtain⟨c6,c8⟩:=t5.Fi.k2 c6 c8;refine wL c6 ?_;refine zS c8 ?_;refine aJ (cs:=bc x) hw h T x8 c8 ?_;intro A6 o6 c8 T;refine gO ?_;by_cases hc:jh x y
   ·rw[yT hc] at T;refine zT c8 ?_;exact XP.same T ((iP (.inr (.inr e3))).trans (iP (.inr hc)))
   ·rw[yF hc] at T;refine zT c8 ?_;exact XP.none T fun _=>(iP (.inr (.inr e3))).trans (if_neg fun h=>h.elim hi hc)
 refine wD (fun e4=>?_) fun e4=>?_
 ·refine gO ?_;refine zG (fun _=>?_) fun h=>absurd e4 h;refine tD ?_;by_cases hi:dn x y
  ·refine aL 54 false rfl (congrArg not (yT hi)) ?_;refine dR ?_;refine dO ?_;refine rD ?_;refine zL c5 ?_;refine eR ?_;refine aC ?_;refine sA ?_;refine dO ?_;refine aC ?_;refine sA ?_;refine dO ?_;refine aC ?_;refine wC (ah T.Fi.wf T.ps) ?_;rintro r A5 ⟨rfl,t5⟩;replace T:=T.then t5;replace c8:=t5.Fi.k c8;refine sA ?_;refine eD ?_;refine zC rfl (aU T.Fi.wf) ?_;rintro r A6 ⟨rfl,o6⟩;replace T:=T.quiet o6;replace c8:=o6.k c8;refine gO ?_;refine zS c8 ?_;refine aJ (cs:=bc (1,[])) hw h T x8 c8 ?_;intro A7 o7 c8 T;refine gO ?_;refine zT c8 ?_;exact XP.same T ((iN (fun h=>h.elim e1 fun h=>h.elim e2 e3)).trans ((iP (.inl e4)).trans (iP (.inl hi))))
  ·refine aL 54 true rfl (congrArg not (yF hi)) ?_;refine dR ?_;by_cases hc:jh x y
   ·refine aL 58 false rfl (congrArg not (yT hc)) ?_;refine dR ?_;refine dO ?_;refine rD ?_;refine zL c5 ?_;refine eR ?_;refine aC ?_;refine sA ?_;refine dO ?_;refine aC ?_;refine sA ?_;refine dO ?_;refine aC ?_;refine wC (ah T.Fi.wf T.ps) ?_;rintro r A5 ⟨rfl,t5⟩;replace T:=T.then t5;replace c8:=t5.Fi.k c8;refine sA ?_;refine eD ?_;refine zC rfl (aU T.Fi.wf) ?_;rintro r A6 ⟨rfl,o6⟩;replace T:=T.quiet o6;replace c8:=o6.k c8;refine gO ?_;refine zS c8 ?_;refine aJ (cs:=bc (1,[])) hw h T x8 c8 ?_;intro A7 o7 c8 T;refine gO ?_;refine zT c8 ?_;exact XP.same T ((iN (fun h=>h.elim e1 fun h=>h.elim e2 e3)).trans ((iP (.inl e4)).trans (iP (.inr (.inl hc)))))
   ·refine aL 58 true rfl (congrArg not (yF hc)) ?_;refine rD ?_;refine zL c6 ?_;refine eR ?_;refine rD ?_;refine zL c5 ?_;refine eR ?_;refine aC ?_;refine zC rfl (ji T.Fi.wf) ?_;rintro r A5 ⟨rfl,o5⟩;replace T:=T.quiet o5;obtain⟨c5,c7,c8⟩:=o5.k3 c5 c7 c8;refine sA ?_;refine dR ?_;by_cases hr1:ft x
    ·refine aL 61 true rfl (yT hr1) ?_;refine rD ?_;refine zL c7 ?_;refine eR ?_;refine aC ?_;refine zC rfl (ji T.Fi.wf) ?_;rintro r A6 ⟨rfl,o6⟩;replace T:=T.quiet o6;obtain⟨c5,c8⟩:=o6.k2 c5 c8;refine sA ?_;refine dR ?_;by_cases hr2:ft y
     ·refine aL 66 false rfl (congrArg not (yT hr2)) ?_;refine aC ?_;refine wC (ah T.Fi.wf T.ps) ?_;rintro r A7 ⟨rfl,t7⟩;replace T:=T.then t7;replace c8:=t7.Fi.k c8;refine sA ?_;refine eD ?_;refine zC rfl (aU T.Fi.wf) ?_;rintro r A8 ⟨rfl,o8⟩;replace T:=T.quiet o8;replace c8:=o8.k c8;refine gO ?_;refine zS c8 ?_;refine aJ (cs:=bc (1,[])) hw h T x8 c8 ?_;intro A9 o9 c8 T;refine gO ?_;refine zT c8 ?_;exact XP.same T ((iN (fun h=>h.elim e1 fun h=>h.elim e2 e3)).trans ((iP (.inl e4)).trans (iP (.inr (.inr ⟨hr1,hr2⟩)))))
     ·refine aL 66 true rfl (congrArg not (yF hr2)) ?_;refine aC ?_;refine wC (ah T.Fi.wf T.ps) ?_;rintro r A7 ⟨rfl,t7⟩;replace T:=T.then t7;replace c8:=t7.Fi.k c8;refine sA ?_;refine eD ?_;refine zC rfl (aU T.Fi.wf) ?_;rintro r A8 ⟨rfl,o8⟩;replace T:=T.quiet o8;replace c8:=o8.k c8;refine gO ?_;refine zS c8 ?_;refine aJ (cs:=bc (1,[])) hw h T x8 c8 ?_;intro A9 o9 c8 T;refine gO ?_;refine zT c8 ?_;exact XP.none T fun _=>((iN (fun h=>h.elim e1 fun h=>h.elim e2 e3)).trans ((iP (.inl e4)).trans (if_neg fun h=>h.elim hi fun h=>h.elim hc fun h=>hr2 h.2)))
    ·refine aL 61 false rfl (yF hr1) ?_;refine dO ?_;refine aC ?_;refine sA ?_;refine dO ?_;refine aC ?_;refine wC (ah T.Fi.wf T.ps) ?_;rintro r A6 ⟨rfl,t6⟩;replace T:=T.then t6;replace c8:=t6.Fi.k c8;refine sA ?_;refine eD ?_;refine zC rfl (aU T.Fi.wf) ?_;rintro r A7 ⟨rfl,o7⟩;replace T:=T.quiet o7;replace c8:=o7.k c8;refine gO ?_;refine zS c8 ?_;refine aJ (cs:=bc (1,[])) hw h T x8 c8 ?_;intro A8 o8 c8 T;refine gO ?_;refine zT c8 ?_;exact XP.none T fun _=>((iN (fun h=>h.elim e1 fun h=>h.elim e2 e3)).trans ((iP (.inl e4)).trans (if_neg fun h=>h.elim hi fun h=>h.elim hc fun h=>hr1 h.1)))
 refine wD (fun e5=>?_) fun e5=>?_
 ·refine tD ?_;by_cases hi:dn x y
  ·refine aL 54 false rfl (congrArg not (yT hi)) ?_;refine dR ?_;refine dO ?_;refine rD ?_;refine zL c5 ?_;refine eR ?_;refine aC ?_;refine sA ?_;refine dO ?_;refine aC ?_;refine sA ?_;refine dO ?_;refine aC ?_;refine wC (ah T.Fi.wf T.ps) ?_;rintro r A5 ⟨rfl,t5⟩;replace T:=T.then t5;replace c8:=t5.Fi.k c8;refine sA ?_;refine eD ?_;refine zC rfl (aU T.Fi.wf) ?_;rintro r A6 ⟨rfl,o6⟩;replace T:=T.quiet o6;replace c8:=o6.k c8;refine gO ?_;refine zS c8 ?_;refine aJ (cs:=bc (1,[])) hw h T x8 c8 ?_;intro A7 o7 c8 T;refine gO ?_;refine zT c8 ?_;exact XP.same T ((iN (fun h=>h.elim e1 fun h=>h.elim e2 e3)).trans ((iP (.inr e5)).trans (iP (.inl hi))))
  ·refine aL 54 true rfl (congrArg not (yF hi)) ?_;refine dR ?_;by_cases hc:jh x y
   ·refine aL 58 false rfl (congrArg not (yT hc)) ?_;refine dR ?_;refine dO ?_;refine rD ?_;refine zL c5 ?_;refine eR ?_;refine aC ?_;refine sA ?_;refine dO ?_;refine aC ?_;refine sA ?_;refine dO ?_;refine aC ?_;refine wC (ah T.Fi.wf T.ps) ?_;rintro r A5 ⟨rfl,t5⟩;replace T:=T.then t5;replace c8:=t5.Fi.k c8;refine sA ?_;refine eD ?_;refine zC rfl (aU T.Fi.wf) ?_;rintro r A6 ⟨rfl,o6⟩;replace T:=T.quiet o6;replace c8:=o6.k c8;refine gO ?_;refine zS c8 ?_;refine aJ (cs:=bc (1,[])) hw h T x8 c8 ?_;intro A7 o7 c8 T;refine gO ?_;refine zT c8 ?_;exact XP.same T ((iN (fun h=>h.elim e1 fun h=>h.elim e2 e3)).trans ((iP (.inr e5)).trans (iP (.inr (.inl hc)))))
   ·refine aL 58 true rfl (congrArg not (yF hc)) ?_;refine rD ?_;refine zL c6 ?_;refine eR ?_;refine rD ?_;refine zL c5 ?_;refine eR ?_;refine aC ?_;refine zC rfl (ji T.Fi.wf) ?_;rintro r A5 ⟨rfl,o5⟩;replace T:=T.quiet o5;obtain⟨c5,c7,c8⟩:=o5.k3 c5 c7 c8;refine sA ?_;refine dR ?_;by_cases hr1:ft x
    ·refine aL 61 true rfl (yT hr1) ?_;refine rD ?_;refine zL c7 ?_;refine eR ?_;refine aC ?_;refine zC rfl (ji T.Fi.wf) ?_;rintro r A6 ⟨rfl,o6⟩;replace T:=T.quiet o6;obtain⟨c5,c8⟩:=o6.k2 c5 c8;refine sA ?_;refine dR ?_;by_cases hr2:ft y
     ·refine aL 66 false rfl (congrArg not (yT hr2)) ?_;refine aC ?_;refine wC (ah T.Fi.wf T.ps) ?_;rintro r A7 ⟨rfl,t7⟩;replace T:=T.then t7;replace c8:=t7.Fi.k c8;refine sA ?_;refine eD ?_;refine zC rfl (aU T.Fi.wf) ?_;rintro r A8 ⟨rfl,o8⟩;replace T:=T.quiet o8;replace c8:=o8.k c8;refine gO ?_;refine zS c8 ?_;refine aJ (cs:=bc (1,[])) hw h T x8 c8 ?_;intro A9 o9 c8 T;refine gO ?_;refine zT c8 ?_;exact XP.same T ((iN (fun h=>h.elim e1 fun h=>h.elim e2 e3)).trans ((iP (.inr e5)).trans (iP (.inr (.inr ⟨hr1,hr2⟩)))))
     ·refine aL 66 true rfl (congrArg not (yF hr2)) ?_;refine aC ?_;refine wC (ah T.Fi.wf T.ps) ?_;rintro r A7 ⟨rfl,t7⟩;replace T:=T.then t7;replace c8:=t7.Fi.k c8;refine sA ?_;refine eD ?_;refine zC rfl (aU T.Fi.wf) ?_;rintro r A8 ⟨rfl,o8⟩;replace T:=T.quiet o8;replace c8:=o8.k c8;refine gO ?_;refine zS c8 ?_;refine aJ (cs:=bc (1,[])) hw h T x8 c8 ?_;intro A9 o9 c8 T;refine gO ?_;refine zT c8 ?_;exact XP.none T fun _=>((iN (fun h=>h.elim e1 fun h=>h.elim e2 e3)).trans ((iP (.inr e5)).trans (if_neg fun h=>h.elim hi fun h=>h.elim hc fun h=>hr2 h.2)))
    ·refine aL 61 false rfl (yF hr1) ?_;refine dO ?_;refine aC ?_;refine sA ?_;refine dO ?_;refine aC ?_;refine wC (ah T.Fi.wf T.ps) ?_;rintro r A6 ⟨rfl,t6⟩;replace T:=T.then t6;replace c8:=t6.Fi.k c8;refine sA ?_;refine eD ?_;refine zC rfl (aU T.Fi.wf) ?_;rintro r A7 ⟨rfl,o7⟩;replace T:=T.quiet o7;replace c8:=o7.k c8;refine gO ?_;refine zS c8 ?_;refine aJ (cs:=bc (1,[])) hw h T x8 c8 ?_;intro A8 o8 c8 T;refine gO ?_;refine zT c8 ?_;exact XP.none T fun _=>((iN (fun h=>h.elim e1 fun h=>h.elim e2 e3)).trans ((iP (.inr e5)).trans (if_neg fun h=>h.elim hi fun h=>h.elim hc fun h=>hr1 h.1)))
 refine wL c5 ?_;refine zC rfl (ah T.Fi.wf T.ps) ?_;rintro r A5 ⟨rfl,t5⟩;replace T:=T.then t5;replace c8:=t5.Fi.k c8;by_cases hi:dn x y
 ·rw[yT hi] at T;refine wC (aU T.Fi.wf) ?_;rintro r A6 ⟨rfl,o6⟩;replace T:=T.quiet o6;replace c8:=o6.k c8;refine gO ?_;refine zS c8 ?_;refine aJ (cs:=bc (1,[])) hw h T x8 c8 ?_;intro A7 o7 c8 T;refine gO ?_;refine zT c8 ?_;exact XP.same T ((iN (fun h=>h.elim e1 fun h=>h.elim e2 e3)).trans ((iN (fun h=>h.elim e4 e5)).trans (iP hi)))
 ·rw[yF hi] at T;refine wC (aU T.Fi.wf) ?_;rintro r A6 ⟨rfl,o6⟩;replace T:=T.quiet o6;replace c8:=o6.k c8;refine gO ?_;refine zS c8 ?_;refine aJ (cs:=bc (1,[])) hw h T x8 c8 ?_;intro A7 o7 c8 T;refine gO ?_;refine zT c8 ?_;exact XP.none T fun _=>((iN (fun h=>h.elim e1 fun h=>h.elim e2 e3)).trans ((iN (fun h=>h.elim e4 e5)).trans (iN hi)))
end Go.Proofs.YtafamggbkobcfaaGreat.Ae
