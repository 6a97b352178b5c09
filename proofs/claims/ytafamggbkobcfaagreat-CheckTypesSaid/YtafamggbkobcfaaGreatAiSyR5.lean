/- A part of the proof of the statement CheckTypes. -/
import Derived.Test.YtafamggbkobcfaaGreatAiSyR4
namespace Go.Proofs.YtafamggbkobcfaaGreat.Ae
open Go.AE
set_option linter.unusedVariables false
set_option maxRecDepth 100000
theorem ud{K:FuncId}{A:AW}{y:bM}(hw:Wf A): aD (ES K) 66 [.agg (bc y)] A fun r A1=>r=.bool (decide (ft y))∧ac A A1 ag:=by
 refine ap rfl rfl rfl ?_;refine gO ?_;refine zB (n:=2) (y:=bc y) hw ?_;intro A1 o1 c1;generalize A.aa=f1 at c1;refine gO ?_;by_cases h1:y.1=4
 ·refine wT 6 h1 ?_;refine gO ?_;exact af rfl ⟨congrArg AV.bool (yT (.inl h1)).symm,o1⟩
 refine wF 6 h1 ?_;refine gO ?_;by_cases h2:y.1=3
 ·refine wT 11 h2 ?_;refine gO ?_;exact af rfl ⟨congrArg AV.bool (yT (.inr (.inl h2))).symm,o1⟩
 refine wF 11 h2 ?_;refine gO ?_;exact af rfl ⟨congrArg AV.bool (decide_eq_decide.2 ⟨fun h=>.inr (.inr h),fun h=>(h.resolve_left h1).resolve_left h2⟩),o1⟩
def XD(A A1:AW)(Y:DY)(b:Bool)(z:Option bM)(r:AV): Prop:=∃y b1,r=.agg (bc y)∧DT A A1 Y b b1∧(b=false→match z with
 | none=>b1=true
 | some w=>b1=false∧y=w)
theorem XD.ask{A A1:AW}{Y:DY}{p:Prop}[Decidable p]{y w:bM}(T:DT A A1 Y false (!decide p || false))(h:p→y=w): XD A A1 Y false (if p then some w else none) (.agg (bc y)):=by
 refine⟨y,_,rfl,T,fun _=>?_⟩;by_cases hp:p
 ·rw[iP hp,yT hp];exact⟨rfl,h hp⟩
 ·rw[iN hp,yF hp];rfl
theorem XD.tU{A A1:AW}{Y:DY}{b:Bool}{z z':Option bM}{r:AV}(h:XD A A1 Y b z r)(e:z=z'): XD A A1 Y b z' r:=by
 subst e;exact h
theorem op_eq{s:Str}(h:Fd s)(s1:¬s=[43])(s2:¬s=[45])(s3:¬s=[42])(s4:¬s=[47])(s5:¬s=[37])(s6:¬s=[60]): s=[61,61]∨s=[33,61]:=by
 unfold Fd at h;simp only[s1,s2,s3,s4,s5,s6,false_or] at h;exact h
set_option maxHeartbeats 8000000 in
theorem vw{K:FuncId}{A:AW}{Y:DY}{t:Nd}{kv:AV}{x y:bM}{ys:List bM}{S:Nat→Prop}(hw:Wf A)(h:DC A Y false)(N:aI A S t kv)(e0:mU ys 0=x)(e1:mU ys 1=y)(hk:t.k=28∨t.k=30∨t.k=32∨t.k=34∨t.k=35∨t.k=36∨t.k=37)(hop:t.k=34→Fd t.s):
 aD (ES K) 34 [.ptr Y.X.dc 0 0,.agg (au t kv),.agg (bc x),.agg (bc y)] A fun r A1=>XD A A1 Y false (fF Y.cx t ys) r:=by
 refine ap rfl rfl rfl ?_;have T:=DT.refl hw h;have hlp:=h.lt hw;have hM:=h.le;refine gO ?_;refine bA rfl rfl rfl rfl ?_;generalize hf5:A.aa=f5;refine fX (n:=6) (cs:=au t kv) hw h T hf5 ?_;intro A1 x5 p5 o1 c5 T;have l1:=T.Fi.wf _ _ c5;refine bA rfl rfl rfl rfl ?_;generalize hf6:A1.aa=f6;refine fX (n:=2) (cs:=bc x) hw h T hf6 ?_;intro A2 x6 p6 o2 c6 T;replace c5:=o2.k c5;have l2:=T.Fi.wf _ _ c6;refine bA rfl rfl rfl rfl ?_;generalize hf7:A2.aa=f7;refine fX (n:=2) (cs:=bc y) hw h T hf7 ?_;intro A3 x7 p7 o3 c7 T;obtain⟨c5,c6⟩:=o3.k2 c5 c6;have l3:=T.Fi.wf _ _ c7;refine aq rfl rfl rfl ?_;generalize hf8:A3.aa=f8;refine fX (n:=2) (cs:=bc (0,[])) hw h T hf8 ?_;intro A4 x8 p8 o4 c8 T;obtain⟨c5,c6,c7⟩:=o4.k3 c5 c6 c7;have l4:=T.Fi.wf _ _ c8;refine gO ?_;refine aq rfl rfl rfl ?_;refine zS (by rw[AW.add_get,iP rfl]) ?_
 generalize hf9:A4.aa=f9;refine eZ (n:=2) (cs:=bc (1,[])) hw h T hf9 ?_;intro A5 x9 p9 o5 c9 T;obtain⟨c5,c6,c7,c8⟩:=o5.k4 c5 c6 c7 c8;have l5:=T.Fi.wf _ _ c9;refine gO ?_;clear N;refine zG (fun k28=>?_) fun k28=>?_
 ·have k28:t.k=28:=k28;have ez:fF Y.cx t ys=wt Y.cx t.s x:=by
   unfold fF;rw[iP k28,e0]
  refine sQ ?_;refine bX (pp 0 Y.X.dc (pp 5 f5 (pp 6 f6 (pp 7 f7 (pp 8 f8 (pp 9 f9 (pb 26 (decide (x.1=3∧t.s=[108,101,110])) .nil))))))) ?_ ?_
  ·refine oP ?_;by_cases h1:x.1=3
   ·refine wT 22 h1 ?_;refine oP ?_;exact⟨rfl,rfl,rfl,rfl,rfl,rfl,rfl,congrArg (fun x=>some (AV.bool x)) (decide_eq_decide.2 ⟨fun h=>⟨h1,h⟩,fun h=>h.2⟩),trivial⟩
   ·refine wF 22 h1 ?_;refine oP ?_;exact⟨rfl,rfl,rfl,rfl,rfl,rfl,rfl,congrArg (fun x=>some (AV.bool x)) (yF fun h=>h1 h.1).symm,trivial⟩
  refine zG (fun hl=>?_) fun hl=>?_
  ·have hl:x.1=3∧t.s=[108,101,110]:=hl;refine wL c9 ?_;refine zS c8 ?_;refine bD (cs:=bc (1,[])) hw h T x8 c8 ?_;intro A6 o6 c8 T;have e1':fF Y.cx t ys=some (1,[]):=by
    rw[ez];exact iP hl
   refine gO ?_;exact zT c8 (⟨(1,[]),false,rfl,T,fun _=>by rw[e1'];exact⟨rfl,rfl⟩⟩)
  have hl:¬(x.1=3∧t.s=[108,101,110]):=hl;refine wC (jm (c:=x.2) (n:=t.s) (k:=3) T.Fi.wf T.ps) ?_;rintro r34 A6 ⟨o6,hr34⟩;replace T:=T.quiet o6;obtain⟨c5,c6,c8,c9⟩:=o6.k4 c5 c6 c8 c9;have hu34:∃o ko th,r34=.tuple [.agg (au o ko),.bool th]∧match dM Y.X.t.l Y.X.hs x.2 t.s 3 with
   | none=>th=false
   | some o'=>th=true∧o'=o∧aI A6 (fun g=>g<Y.X.M∨A.aa≤g) o ko:=by
   cases hm:dM Y.X.t.l Y.X.hs x.2 t.s 3 with
   | none=>
    rw[hm] at hr34;exact⟨dL,.aj,false,hr34,rfl⟩
   | some o'=>
    rw[hm] at hr34;obtain⟨ko,g1,g2⟩:=hr34;exact⟨o',ko,true,g1,rfl,rfl,g2.mono fun g hg _=>hg.imp (fun h=>h) fun h=>om⟩
  clear hr34;obtain⟨o,ko,th,rfl,h34⟩:=hu34;refine gO ?_;refine aq rfl rfl rfl ?_;refine zS (by rw[AW.add_get,iP rfl]) ?_;generalize hf10:A6.aa=f10;refine eZ (n:=6) (cs:=au o ko) hw h T hf10 ?_;intro A7 x10 p10 o7 c10 T;obtain⟨c5,c6,c8,c9⟩:=o7.k4 c5 c6 c8 c9;refine tD ?_;refine rD ?_;refine zL c6 ?_;refine eR ?_;refine aC ?_;refine zC rfl (dB T.Fi.wf) ?_;rintro r A8 ⟨rfl,o8⟩;replace T:=T.quiet o8;obtain⟨c5,c8,c9,c10⟩:=o8.k4 c5 c8 c9 c10;refine sA ?_;refine dR ?_;by_cases h4:x.1=4
  ·refine aL 40 true rfl (yT h4) ?_;refine aC ?_;cases hm:dM Y.X.t.l Y.X.hs x.2 t.s 3 with
   | none=>
    rw[hm] at h34;have h34:th=false:=h34;subst h34;refine zC rfl (aG T.Fi.wf T.ps) ?_;rintro r A9 ⟨rfl,t9⟩;replace T:=T.then t9;obtain⟨c8,c9⟩:=t9.Fi.k2 c8 c9;refine sA ?_;refine eD ?_;refine rU ?_;refine wL c9 ?_;refine zS c8 ?_;refine bD (cs:=bc (1,[])) hw h T x8 c8 ?_;intro A10 o10 c8 T;refine gO ?_;exact zT c8 (⟨(1,[]),true,rfl,T,fun _=>by rw[ez];unfold wt;rw[iN hl,if_neg fun h=>h h4,show dM Y.cx.cs Y.cx.hs x.2 t.s 3=none from hm]⟩)
   | some o'=>
    rw[hm] at h34;obtain⟨rfl,rfl,No⟩:=h34;replace No:=(No.ae o7 fun _ _ h=>h).ae o8 fun _ _ h=>h;refine zC rfl (aG T.Fi.wf T.ps) ?_;rintro r A9 ⟨rfl,t9⟩;replace T:=T.then t9;replace No:=No.k t9.Fi;obtain⟨c8,c10⟩:=t9.Fi.k2 c8 c10;refine sA ?_;refine eD ?_;refine rU ?_;have hmo:=(jg h.mem hm).1;obtain⟨w,hw0⟩:∃w,o'.l[0]?=some w:=⟨_,gE hmo.1⟩;obtain⟨fk,sk,ok,ck,ek,rk,ak,kw,hvk,hsk,hhk,hlk,Nk,hatk⟩:=bv No hw0;refine wI hvk hlk ?_;refine aZ rfl rfl rfl rfl hhk (v:=.str w.s) (aR ((hatk 1 2 dE).trans rfl)) ?_;refine wC (fP T.Fi.wf) ?_;rintro r A10 ⟨rfl,o10⟩;replace T:=T.quiet o10;replace c8:=o10.k c8;refine oP ?_;refine zS c8 ?_;refine bD (cs:=bc (named w.s)) hw h T x8 c8 ?_;intro A11 o11 c8 T;refine gO ?_;exact zT c8 (⟨named w.s,false,rfl,T,fun _=>by
     rw[ez];unfold wt;rw[iN hl,if_neg fun h=>h h4,show dM Y.cx.cs Y.cx.hs x.2 t.s 3=some o' from hm];refine⟨rfl,?_⟩;unfold first
     rw[aW hw0]⟩)
  ·refine aL 40 false rfl (yF h4) ?_;refine dO ?_;refine aC ?_;refine zC rfl (aG T.Fi.wf T.ps) ?_;rintro r A9 ⟨rfl,t9⟩;replace T:=T.then t9;obtain⟨c8,c9⟩:=t9.Fi.k2 c8 c9;refine sA ?_;refine eD ?_;refine rU ?_;refine wL c9 ?_;refine zS c8 ?_;refine bD (cs:=bc (1,[])) hw h T x8 c8 ?_;intro A10 o10 c8 T;refine gO ?_;exact zT c8 (⟨(1,[]),true,rfl,T,fun _=>by rw[ez];unfold wt;rw[iN hl,iP h4]⟩)
 refine wD (fun k30=>?_) fun k30=>?_
 ·have k30:t.k=30:=k30;have ez:fF Y.cx t ys=if x.1=3∧y.1=1 then some (1,[]) else none:=by
   unfold fF;rw[iN k28,iP k30,e0,e1]
  refine gO ?_;refine dU 4 (pp 0 Y.X.dc (pp 5 f5 (pp 6 f6 (pp 7 f7 (pp 8 f8 (pp 9 f9 (pp 56 Y.X.dc (pb 64 (decide (x.1=3∧y.1=1)) .nil)))))))) ?_ ?_
  ·refine oP ?_;by_cases h1:x.1=3
   ·refine wT 60 h1 ?_;refine oP ?_;exact⟨rfl,rfl,rfl,rfl,rfl,rfl,rfl,rfl,congrArg (fun x=>some (AV.bool x)) (decide_eq_decide.2 ⟨fun h=>⟨h1,h⟩,fun h=>h.2⟩),trivial⟩
   ·refine wF 60 h1 ?_;refine oP ?_;exact⟨rfl,rfl,rfl,rfl,rfl,rfl,rfl,rfl,congrArg (fun x=>some (AV.bool x)) (yF fun h=>h1 h.1).symm,trivial⟩
  refine wC (aG T.Fi.wf T.ps) ?_;rintro r A6 ⟨rfl,t6⟩;replace T:=T.then t6;obtain⟨c8,c9⟩:=t6.Fi.k2 c8 c9;refine wL c9 ?_;refine zS c8 ?_;refine bD (cs:=bc (1,[])) hw h T x8 c8 ?_;intro A7 o7 c8 T;refine gO ?_;exact zT c8 (XD.tU (XD.ask T fun _=>rfl) ez.symm)
 refine wD (fun k32=>?_) fun k32=>?_
 ·have k32:t.k=32:=k32;have ez:fF Y.cx t ys=if x.1=1 then some (3,[]) else none:=by
   unfold fF;rw[iN k28,iN k30,iP k32,e0]
  refine wC (aG T.Fi.wf T.ps) ?_;rintro r A6 ⟨rfl,t6⟩;replace T:=T.then t6;replace c8:=t6.Fi.k c8;refine gO ?_;refine zS c8 ?_;refine bD (cs:=bc (3,[])) hw h T x8 c8 ?_;intro A7 o7 c8 T;refine gO ?_;exact zT c8 (XD.tU (XD.ask T fun _=>rfl) ez.symm)
 refine wD (fun k35=>?_) fun k35=>?_
 ·have k35:t.k=35:=k35;have kc:¬(t.k=36∨t.k=37):=om;have ez:fF Y.cx t ys=if x.1=2∨(x.1=1∧t.s=[45]) then some x else none:=by
   unfold fF;rw[iN k28,iN k30,iN k32,iN kc,iP k35,e0]
  refine gO ?_;refine dU 9 (pp 0 Y.X.dc (pp 5 f5 (pp 6 f6 (pp 7 f7 (pp 8 f8 (pp 9 f9 (pp 80 Y.X.dc (.put 93 (.bool (decide (x.1=2∨(x.1=1∧t.s=[45])))) .nil)))))))) ?_ ?_
  ·refine oP ?_;by_cases h1:x.1=2
   ·refine wT 84 h1 ?_;refine oP ?_;exact⟨rfl,rfl,rfl,rfl,rfl,rfl,rfl,rfl,congrArg (fun x=>some (AV.bool x)) ((yT (.inl h1)).symm),trivial⟩
   refine wF 84 h1 ?_;refine oP ?_;by_cases h2:x.1=1
   ·refine wT 88 h2 ?_;refine oP ?_;exact⟨rfl,rfl,rfl,rfl,rfl,rfl,rfl,rfl,congrArg (fun x=>some (AV.bool x)) (decide_eq_decide.2 ⟨fun h=>.inr ⟨h2,h⟩,fun h=>(h.resolve_left h1).2⟩),trivial⟩
   ·refine wF 88 h2 ?_;refine oP ?_;exact⟨rfl,rfl,rfl,rfl,rfl,rfl,rfl,rfl,congrArg (fun x=>some (AV.bool x)) ((yF fun h=>h.elim h1 fun h=>h2 h.1).symm),trivial⟩
  refine wC (aG T.Fi.wf T.ps) ?_;rintro r A6 ⟨rfl,t6⟩;replace T:=T.then t6;obtain⟨c6,c8⟩:=t6.Fi.k2 c6 c8;refine wL c6 ?_;refine zS c8 ?_;refine bD (cs:=bc x) hw h T x8 c8 ?_;intro A7 o7 c8 T;refine gO ?_;exact zT c8 (XD.tU (XD.ask T fun _=>rfl) ez.symm)
 refine wD (fun k36=>?_) fun k36=>?_
 ·have k36:t.k=36:=k36;have ez:fF Y.cx t ys=if ((x.1=4∨x.1=5)∧has Y.cx.hs t.s=true) then some (4,t.s) else none:=by
   unfold fF;rw[iN k28,iN k30,iN k32,iP (.inl k36),e0,iN (show ¬t.k=37 by omega)]
  refine sQ ?_;refine zG (fun _=>?_) fun h=>absurd k36 h;refine sQ ?_;refine ce (fun l1 B=>((pp 0 Y.X.dc (pp 5 f5 (pp 6 f6 (pp 7 f7 (pp 8 f8 (pp 9 f9 .nil)))))) : Kn).le l1∧DT A5 B Y false (!decide ((x.1=4∨x.1=5)∧has Y.cx.hs t.s=true) || false)) ?_ ?_
  ·intro k' hk';have hw9:=T.Fi.wf;have h9:=T.ps;have T9:=DT.refl hw9 h9;refine gO ?_;obtain⟨a0,hc⟩:=T.ps.cell;refine tD ?_;refine rD ?_;refine zL c6 ?_;refine eR ?_;refine aC ?_
   try refine aM rfl ?_
   refine zC rfl (dB T9.Fi.wf) ?_;rintro r A6 ⟨rfl,o6⟩;replace T9:=T9.quiet o6;obtain⟨c5,c6,hc⟩:=o6.k3 c5 c6 hc;refine sA ?_;refine dR ?_;by_cases h4:x.1=4
   ·refine aL 104 true rfl (yT h4) ?_;refine dO ?_
    try refine aL 109 true rfl rfl ?_
    refine aC ?_
    try refine aM rfl ?_
    refine zC rfl (gS T9.ps.ri T9.ps.ht.len) ?_;rintro r A' ⟨rfl,e'⟩;obtain rfl:A6=A':=e'.symm;refine sA ?_;refine aC ?_;refine zC rfl (aG T9.Fi.wf T9.ps) ?_;rintro r B ⟨rfl,tB⟩;refine sA ?_;refine eD ?_;refine hk' _ _ ⟨⟨rfl,rfl,rfl,rfl,rfl,rfl,trivial⟩,?_⟩;have:=T9.then tB;rw[show decide ((x.1=4∨x.1=5)∧has Y.cx.hs t.s=true)=_ from (decide_eq_decide.2 (by rw[fW];exact⟨fun h=>h.2,fun h=>⟨.inl h4,h⟩⟩) : _=decide ((0:Int)≤ix (Y.X.hs.map Prod.fst) t.s 0))];exact this
   refine aL 104 false rfl (yF h4) ?_;refine dR ?_;by_cases h5:x.1=5
   ·refine aL 109 true rfl (yT h5) ?_;refine aC ?_
    try refine aM rfl ?_
    refine zC rfl (gS T9.ps.ri T9.ps.ht.len) ?_;rintro r A' ⟨rfl,e'⟩;obtain rfl:A6=A':=e'.symm;refine sA ?_;refine aC ?_;refine zC rfl (aG T9.Fi.wf T9.ps) ?_;rintro r B ⟨rfl,tB⟩;refine sA ?_;refine eD ?_;refine hk' _ _ ⟨⟨rfl,rfl,rfl,rfl,rfl,rfl,trivial⟩,?_⟩;have:=T9.then tB;rw[show decide ((x.1=4∨x.1=5)∧has Y.cx.hs t.s=true)=_ from (decide_eq_decide.2 (by rw[fW];exact⟨fun h=>h.2,fun h=>⟨.inr h5,h⟩⟩) : _=decide ((0:Int)≤ix (Y.X.hs.map Prod.fst) t.s 0))];exact this
   refine aL 109 false rfl (yF h5) ?_;refine dO ?_;refine aC ?_;refine sA ?_;refine dO ?_;refine aC ?_;refine zC rfl (aG T9.Fi.wf T9.ps) ?_;rintro r B ⟨rfl,tB⟩;refine sA ?_;refine eD ?_;refine hk' _ _ ⟨⟨rfl,rfl,rfl,rfl,rfl,rfl,trivial⟩,?_⟩;have:=T9.then tB;rw[show decide ((x.1=4∨x.1=5)∧has Y.cx.hs t.s=true)=_ from (yF fun h=>h.1.elim h4 h5:_=false)];exact this
  rintro l1 A6 ⟨hl,t6⟩;refine bY (pp 0 Y.X.dc (pp 5 f5 (pp 6 f6 (pp 7 f7 (pp 8 f8 (pp 9 f9 .nil)))))) ?_ hl;clear hl;replace T:=T.then t6;obtain⟨c5,c8⟩:=t6.Fi.k2 c5 c8;refine gO ?_;refine zG (fun _=>?_) fun h=>absurd k36 h;refine gO ?_;refine zS c8 ?_;refine bD (cs:=bc (4,t.s)) hw h T x8 c8 ?_;intro A7 o7 c8 T;refine gO ?_;exact zT c8 (XD.tU (XD.ask T fun _=>rfl) ez.symm)
 refine wD (fun k37=>?_) fun k37=>?_
 ·have k37:t.k=37:=k37;have ez:fF Y.cx t ys=if ((x.1=4∨x.1=5)∧has Y.cx.hs t.s=true) then some (1,[]) else none:=by
   unfold fF;rw[iN k28,iN k30,iN k32,iP (.inr k37),e0,iP k37]
  refine sQ ?_;refine ce (fun l1 B=>((pp 0 Y.X.dc (pp 5 f5 (pp 6 f6 (pp 7 f7 (pp 8 f8 (pp 9 f9 .nil)))))) : Kn).le l1∧DT A5 B Y false (!decide ((x.1=4∨x.1=5)∧has Y.cx.hs t.s=true) || false)) ?_ ?_
  ·intro k' hk';have hw9:=T.Fi.wf;have h9:=T.ps;have T9:=DT.refl hw9 h9;refine gO ?_;obtain⟨a0,hc⟩:=T.ps.cell;refine tD ?_;refine rD ?_;refine zL c6 ?_;refine eR ?_;refine aC ?_
   try refine aM rfl ?_
   refine zC rfl (dB T9.Fi.wf) ?_;rintro r A6 ⟨rfl,o6⟩;replace T9:=T9.quiet o6;obtain⟨c5,c6,hc⟩:=o6.k3 c5 c6 hc;refine sA ?_;refine dR ?_;by_cases h4:x.1=4
   ·refine aL 104 true rfl (yT h4) ?_;refine dO ?_
    try refine aL 109 true rfl rfl ?_
    refine aC ?_
    try refine aM rfl ?_
    refine zC rfl (gS T9.ps.ri T9.ps.ht.len) ?_;rintro r A' ⟨rfl,e'⟩;obtain rfl:A6=A':=e'.symm;refine sA ?_;refine aC ?_;refine zC rfl (aG T9.Fi.wf T9.ps) ?_;rintro r B ⟨rfl,tB⟩;refine sA ?_;refine eD ?_;refine hk' _ _ ⟨⟨rfl,rfl,rfl,rfl,rfl,rfl,trivial⟩,?_⟩;have:=T9.then tB;rw[show decide ((x.1=4∨x.1=5)∧has Y.cx.hs t.s=true)=_ from (decide_eq_decide.2 (by rw[fW];exact⟨fun h=>h.2,fun h=>⟨.inl h4,h⟩⟩) : _=decide ((0:Int)≤ix (Y.X.hs.map Prod.fst) t.s 0))];exact this
   refine aL 104 false rfl (yF h4) ?_;refine dR ?_;by_cases h5:x.1=5
   ·refine aL 109 true rfl (yT h5) ?_;refine aC ?_
    try refine aM rfl ?_
    refine zC rfl (gS T9.ps.ri T9.ps.ht.len) ?_;rintro r A' ⟨rfl,e'⟩;obtain rfl:A6=A':=e'.symm;refine sA ?_;refine aC ?_;refine zC rfl (aG T9.Fi.wf T9.ps) ?_;rintro r B ⟨rfl,tB⟩;refine sA ?_;refine eD ?_;refine hk' _ _ ⟨⟨rfl,rfl,rfl,rfl,rfl,rfl,trivial⟩,?_⟩;have:=T9.then tB;rw[show decide ((x.1=4∨x.1=5)∧has Y.cx.hs t.s=true)=_ from (decide_eq_decide.2 (by rw[fW];exact⟨fun h=>h.2,fun h=>⟨.inr h5,h⟩⟩) : _=decide ((0:Int)≤ix (Y.X.hs.map Prod.fst) t.s 0))];exact this
   refine aL 109 false rfl (yF h5) ?_;refine dO ?_;refine aC ?_;refine sA ?_;refine dO ?_;refine aC ?_;refine zC rfl (aG T9.Fi.wf T9.ps) ?_;rintro r B ⟨rfl,tB⟩;refine sA ?_;refine eD ?_;refine hk' _ _ ⟨⟨rfl,rfl,rfl,rfl,rfl,rfl,trivial⟩,?_⟩;have:=T9.then tB;rw[show decide ((x.1=4∨x.1=5)∧has Y.cx.hs t.s=true)=_ from (yF fun h=>h.1.elim h4 h5:_=false)];exact this
  rintro l1 A6 ⟨hl,t6⟩;refine bY (pp 0 Y.X.dc (pp 5 f5 (pp 6 f6 (pp 7 f7 (pp 8 f8 (pp 9 f9 .nil)))))) ?_ hl;clear hl;replace T:=T.then t6;obtain⟨c5,c8,c9⟩:=t6.Fi.k3 c5 c8 c9;refine gO ?_;refine zG (fun h=>absurd h k36) fun _=>?_;refine wL c9 ?_;refine zS c8 ?_;refine bD (cs:=bc (1,[])) hw h T x8 c8 ?_;intro A7 o7 c8 T;refine gO ?_;exact zT c8 (XD.tU (XD.ask T fun _=>rfl) ez.symm)
 refine wD (fun k34=>?_) fun k34=>?_
 ·have k34:t.k=34:=k34;have kc:¬(t.k=36∨t.k=37):=fun h=>h.elim k36 k37;have ez:fF Y.cx t ys=nw t.s x y:=by
   unfold fF;rw[iN k28,iN k30,iN k32,iN kc,iN k35,e0,e1]
  refine sQ ?_;refine bX (pp 0 Y.X.dc (pp 5 f5 (pp 6 f6 (pp 7 f7 (pp 8 f8 (pp 9 f9 (pb 12 (decide (dn x y)) .nil))))))) ?_ ?_
  ·refine oP ?_;by_cases h1:x.1=1
   ·refine wT 133 h1 ?_;refine oP ?_;exact⟨rfl,rfl,rfl,rfl,rfl,rfl,rfl,congrArg (fun x=>some (AV.bool x)) (decide_eq_decide.2 ⟨fun h=>⟨h1,h⟩,fun h=>h.2⟩),trivial⟩
   ·refine wF 133 h1 ?_;refine oP ?_;exact⟨rfl,rfl,rfl,rfl,rfl,rfl,rfl,congrArg (fun x=>some (AV.bool x)) ((yF fun h=>h1 h.1).symm),trivial⟩
  refine sQ ?_;refine bX (pp 0 Y.X.dc (pp 5 f5 (pp 6 f6 (pp 7 f7 (pp 8 f8 (pp 9 f9 (pb 12 (decide (dn x y)) (pb 13 (decide (jh x y)) .nil)))))))) ?_ ?_
  ·refine oP ?_;by_cases h1:x.1=2
   ·refine wT 141 h1 ?_;refine oP ?_;exact⟨rfl,rfl,rfl,rfl,rfl,rfl,rfl,rfl,congrArg (fun x=>some (AV.bool x)) (decide_eq_decide.2 ⟨fun h=>⟨h1,h⟩,fun h=>h.2⟩),trivial⟩
   ·refine wF 141 h1 ?_;refine oP ?_;exact⟨rfl,rfl,rfl,rfl,rfl,rfl,rfl,rfl,congrArg (fun x=>some (AV.bool x)) ((yF fun h=>h1 h.1).symm),trivial⟩
  refine wD (fun s1=>?_) fun s1=>?_
  ·have s1:t.s=[43]:=s1;refine sQ ?_;refine zG (fun _=>?_) fun h=>absurd s1 h;refine gO ?_;have ez2:nw t.s x y=if dn x y∨jh x y then some x else none:=iP (.inl s1)
   refine dU 2 (pp 0 Y.X.dc (pp 5 f5 (pp 6 f6 (pp 7 f7 (pp 8 f8 (pp 9 f9 (pp 168 Y.X.dc (pb 172 (decide (dn x y∨jh x y)) .nil)))))))) ?_ ?_
   ·refine oP ?_;by_cases h1:dn x y
    ·refine wT 170 h1 ?_;refine oP ?_;exact⟨rfl,rfl,rfl,rfl,rfl,rfl,rfl,rfl,congrArg (fun x=>some (AV.bool x)) ((yT (.inl h1)).symm),trivial⟩
    ·refine wF 170 h1 ?_;refine oP ?_;exact⟨rfl,rfl,rfl,rfl,rfl,rfl,rfl,rfl,congrArg (fun x=>some (AV.bool x)) (decide_eq_decide.2 ⟨.inr,fun h=>h.resolve_left h1⟩),trivial⟩
   refine wC (aG T.Fi.wf T.ps) ?_;rintro r A6 ⟨rfl,t6⟩;replace T:=T.then t6;obtain⟨c6,c8⟩:=t6.Fi.k2 c6 c8;refine wL c6 ?_;refine zS c8 ?_;refine bD (cs:=bc x) hw h T x8 c8 ?_;intro A7 o7 c8 T;refine gO ?_;exact zT c8 (XD.tU (XD.ask T fun _=>rfl) (ez.trans ez2).symm)
  refine wD (fun s2=>?_) fun s2=>?_
  ·have s2:t.s=[45]:=s2;refine sQ ?_;refine zG (fun _=>?_) fun h=>absurd s2 h;refine gO ?_;have ez2:nw t.s x y=if dn x y∨jh x y then some x else none:=iP (.inr (.inl s2))
   refine dU 2 (pp 0 Y.X.dc (pp 5 f5 (pp 6 f6 (pp 7 f7 (pp 8 f8 (pp 9 f9 (pp 168 Y.X.dc (pb 172 (decide (dn x y∨jh x y)) .nil)))))))) ?_ ?_
   ·refine oP ?_;by_cases h1:dn x y
    ·refine wT 170 h1 ?_;refine oP ?_;exact⟨rfl,rfl,rfl,rfl,rfl,rfl,rfl,rfl,congrArg (fun x=>some (AV.bool x)) ((yT (.inl h1)).symm),trivial⟩
    ·refine wF 170 h1 ?_;refine oP ?_;exact⟨rfl,rfl,rfl,rfl,rfl,rfl,rfl,rfl,congrArg (fun x=>some (AV.bool x)) (decide_eq_decide.2 ⟨.inr,fun h=>h.resolve_left h1⟩),trivial⟩
   refine wC (aG T.Fi.wf T.ps) ?_;rintro r A6 ⟨rfl,t6⟩;replace T:=T.then t6;obtain⟨c6,c8⟩:=t6.Fi.k2 c6 c8;refine wL c6 ?_;refine zS c8 ?_;refine bD (cs:=bc x) hw h T x8 c8 ?_;intro A7 o7 c8 T;refine gO ?_;exact zT c8 (XD.tU (XD.ask T fun _=>rfl) (ez.trans ez2).symm)
  refine wD (fun s3=>?_) fun s3=>?_
  ·have s3:t.s=[42]:=s3;refine sQ ?_;refine gO ?_;have ez2:nw t.s x y=if dn x y∨jh x y then some x else none:=iP (.inr (.inr s3))
   refine dU 2 (pp 0 Y.X.dc (pp 5 f5 (pp 6 f6 (pp 7 f7 (pp 8 f8 (pp 9 f9 (pp 168 Y.X.dc (pb 172 (decide (dn x y∨jh x y)) .nil)))))))) ?_ ?_
   ·refine oP ?_;by_cases h1:dn x y
    ·refine wT 170 h1 ?_;refine oP ?_;exact⟨rfl,rfl,rfl,rfl,rfl,rfl,rfl,rfl,congrArg (fun x=>some (AV.bool x)) ((yT (.inl h1)).symm),trivial⟩
    ·refine wF 170 h1 ?_;refine oP ?_;exact⟨rfl,rfl,rfl,rfl,rfl,rfl,rfl,rfl,congrArg (fun x=>some (AV.bool x)) (decide_eq_decide.2 ⟨.inr,fun h=>h.resolve_left h1⟩),trivial⟩
   refine wC (aG T.Fi.wf T.ps) ?_;rintro r A6 ⟨rfl,t6⟩;replace T:=T.then t6;obtain⟨c6,c8⟩:=t6.Fi.k2 c6 c8;refine wL c6 ?_;refine zS c8 ?_;refine bD (cs:=bc x) hw h T x8 c8 ?_;intro A7 o7 c8 T;refine gO ?_;exact zT c8 (XD.tU (XD.ask T fun _=>rfl) (ez.trans ez2).symm)
  refine gO ?_;have n1:¬(t.s=[43]∨t.s=[45]∨t.s=[42]):=fun h=>h.elim s1 fun h=>h.elim s2 s3;refine zG (fun s4=>?_) fun s4=>?_
  ·have s4:t.s=[47]:=s4;refine sQ ?_;refine zG (fun _=>?_) fun h=>absurd s4 h;refine gO ?_;have n2:¬(t.s=[61,61]∨t.s=[33,61]):=by
    rw[s4];decide
   have ez2:nw t.s x y=if dn x y then some (1,[]) else none:=(iN n1).trans (iN n2)
   refine zC rfl (aG T.Fi.wf T.ps) ?_;rintro r A6 ⟨rfl,t6⟩;replace T:=T.then t6;obtain⟨c8,c9⟩:=t6.Fi.k2 c8 c9;refine wL c9 ?_;refine zS c8 ?_;refine bD (cs:=bc (1,[])) hw h T x8 c8 ?_;intro A7 o7 c8 T;refine gO ?_;exact zT c8 (XD.tU (XD.ask T fun _=>rfl) (ez.trans ez2).symm)
  refine wD (fun s5=>?_) fun s5=>?_
  ·have s5:t.s=[37]:=s5;refine sQ ?_;refine zG (fun _=>?_) fun h=>absurd s5 h;refine gO ?_;have n2:¬(t.s=[61,61]∨t.s=[33,61]):=by
    rw[s5];decide
   have ez2:nw t.s x y=if dn x y then some (1,[]) else none:=(iN n1).trans (iN n2)
   refine zC rfl (aG T.Fi.wf T.ps) ?_;rintro r A6 ⟨rfl,t6⟩;replace T:=T.then t6;obtain⟨c8,c9⟩:=t6.Fi.k2 c8 c9;refine wL c9 ?_;refine zS c8 ?_;refine bD (cs:=bc (1,[])) hw h T x8 c8 ?_;intro A7 o7 c8 T;refine gO ?_;exact zT c8 (XD.tU (XD.ask T fun _=>rfl) (ez.trans ez2).symm)
  refine wD (fun s6=>?_) fun s6=>?_
  ·have s6:t.s=[60]:=s6;refine sQ ?_;refine gO ?_;have n2:¬(t.s=[61,61]∨t.s=[33,61]):=by
    rw[s6];decide
   have ez2:nw t.s x y=if dn x y then some (1,[]) else none:=(iN n1).trans (iN n2)
   refine zC rfl (aG T.Fi.wf T.ps) ?_;rintro r A6 ⟨rfl,t6⟩;replace T:=T.then t6;obtain⟨c8,c9⟩:=t6.Fi.k2 c8 c9;refine wL c9 ?_;refine zS c8 ?_;refine bD (cs:=bc (1,[])) hw h T x8 c8 ?_;intro A7 o7 c8 T;refine gO ?_;exact zT c8 (XD.tU (XD.ask T fun _=>rfl) (ez.trans ez2).symm)
  have n2:t.s=[61,61]∨t.s=[33,61]:=op_eq (hop k34) s1 s2 s3 s4 s5 s6;have ez2:nw t.s x y=if dn x y∨jh x y∨(ft x∧ft y) then some (1,[]) else none:=(iN n1).trans (iP n2)
  refine sQ ?_;refine ce (fun l1 B=>((pp 0 Y.X.dc (pp 5 f5 (pp 6 f6 (pp 7 f7 (pp 8 f8 (pp 9 f9 .nil)))))) : Kn).le l1∧DT A5 B Y false (!decide (dn x y∨jh x y∨(ft x∧ft y)) || false)) ?_ ?_
  ·intro k' hk';have hw9:=T.Fi.wf;have h9:=T.ps;have T9:=DT.refl hw9 h9;refine tD ?_;by_cases h1:dn x y
   ·refine aL 150 true rfl (yT h1) ?_;refine dO ?_;refine aC ?_;refine sA ?_;refine dO ?_;refine aC ?_;refine sA ?_;refine dO ?_;refine aC ?_;refine zC rfl (aG T9.Fi.wf T9.ps) ?_;rintro r B ⟨rfl,tB⟩;refine sA ?_;refine eD ?_;refine hk' _ _ ⟨⟨rfl,rfl,rfl,rfl,rfl,rfl,trivial⟩,?_⟩;have:=T9.then tB;rw[show decide (dn x y∨jh x y∨(ft x∧ft y))=_ from (yT (.inl h1) : _=true)];exact this
   refine aL 150 false rfl (yF h1) ?_;refine dR ?_;by_cases h2:jh x y
   ·refine aL 153 true rfl (yT h2) ?_;refine dO ?_;refine aC ?_;refine sA ?_;refine dO ?_;refine aC ?_;refine sA ?_;refine dO ?_;refine aC ?_;refine zC rfl (aG T9.Fi.wf T9.ps) ?_;rintro r B ⟨rfl,tB⟩;refine sA ?_;refine eD ?_;refine hk' _ _ ⟨⟨rfl,rfl,rfl,rfl,rfl,rfl,trivial⟩,?_⟩;have:=T9.then tB;rw[show decide (dn x y∨jh x y∨(ft x∧ft y))=_ from (yT (.inr (.inl h2)) : _=true)];exact this
   refine aL 153 false rfl (yF h2) ?_;refine rD ?_;refine zL c6 ?_;refine eR ?_;refine aC ?_
   try refine aM rfl ?_
   refine zC rfl (ud T9.Fi.wf) ?_;rintro r A6 ⟨rfl,o6⟩;replace T9:=T9.quiet o6;obtain⟨c5,c7⟩:=o6.k2 c5 c7;refine sA ?_;refine dR ?_;by_cases h3:ft x
   ·refine aL 156 true rfl (yT h3) ?_;refine rD ?_;refine zL c7 ?_;refine eR ?_;refine aC ?_
    try refine aM rfl ?_
    refine zC rfl (ud T9.Fi.wf) ?_;rintro r A7 ⟨rfl,o7⟩;replace T9:=T9.quiet o7;replace c5:=o7.k c5;refine sA ?_;refine aC ?_;refine zC rfl (aG T9.Fi.wf T9.ps) ?_;rintro r B ⟨rfl,tB⟩;refine sA ?_;refine eD ?_;refine hk' _ _ ⟨⟨rfl,rfl,rfl,rfl,rfl,rfl,trivial⟩,?_⟩;have:=T9.then tB;rw[show decide (dn x y∨jh x y∨(ft x∧ft y))=_ from (decide_eq_decide.2 ⟨fun h=>((h.resolve_left h1).resolve_left h2).2,fun h=>.inr (.inr ⟨h3,h⟩)⟩:_=decide (ft y))];exact this
   refine aL 156 false rfl (yF h3) ?_;refine dO ?_;refine aC ?_;refine sA ?_;refine dO ?_;refine aC ?_;refine zC rfl (aG T9.Fi.wf T9.ps) ?_;rintro r B ⟨rfl,tB⟩;refine sA ?_;refine eD ?_;refine hk' _ _ ⟨⟨rfl,rfl,rfl,rfl,rfl,rfl,trivial⟩,?_⟩;have:=T9.then tB;rw[show decide (dn x y∨jh x y∨(ft x∧ft y))=_ from (yF fun h=>h.elim h1 fun h=>h.elim h2 fun h=>h3 h.1:_=false)];exact this
  rintro l1 A6 ⟨hl,t6⟩;refine bY (pp 0 Y.X.dc (pp 5 f5 (pp 6 f6 (pp 7 f7 (pp 8 f8 (pp 9 f9 .nil)))))) ?_ hl;clear hl;replace T:=T.then t6;obtain⟨c8,c9⟩:=t6.Fi.k2 c8 c9;refine wL c9 ?_;refine zS c8 ?_;refine bD (cs:=bc (1,[])) hw h T x8 c8 ?_;intro A7 o7 c8 T;refine gO ?_;exact zT c8 (XD.tU (XD.ask T fun _=>rfl) (ez.trans ez2).symm)
 exact absurd hk (by have a1:¬t.k=28:=k28;have a2:¬t.k=30:=k30;have a3:¬t.k=32:=k32;have a4:¬t.k=35:=k35;have a5:¬t.k=36:=k36;have a6:¬t.k=37:=k37;have a7:¬t.k=34:=k34;omega)
end Go.Proofs.YtafamggbkobcfaaGreat.Ae
