/- A part of the proof of the statement CheckTypes. -/
import Derived.Test.YtafamggbkobcfaaGreatAiSyP8
namespace Go.Proofs.YtafamggbkobcfaaGreat.Ae
open Go.AE
set_option linter.unusedVariables false
set_option maxRecDepth 100000
set_option maxHeartbeats 16000000 in
theorem Cb{K:FuncId}{m:Nat}(hE:jS Ex K 16 m)(hU:jS Ex K 99 m): jS Ex K 130 (m+1):=by
 intro A fp lv L p dp b hw h hn h0 h13 h12;refine ap rfl rfl rfl ?_;have hlen:=h.ok.len;refine gO ?_;refine zA (n:=6) (y:=au dL .aj) hw ?_;intro A1 o1 c1;have nf1:A.aa≠fp:=by
  have:=(h.fg hw).1;omega
 have l1:A.aa≤A.aa:=Nat.le_refl _;have m1:=o1.wf _ _ c1;generalize hf1:A.aa=f1 at c1 nf1 m1 l1;have T:=(PT.refl hw h).quiet o1;refine wC (cJ T.Fi.wf T.ps) ?_;rintro r A2 ⟨rfl,o2⟩;replace T:=T.quiet o2;replace c1:=o2.k c1;have m2:=o2.aa;refine gO ?_;refine zM (n:=5) (y:=fT (cur L p)) T.Fi.wf ?_;intro A3 o3 c2;have nf2:A2.aa≠fp:=by
  have:=(h.fg hw).1;have:=T.Fi.aa;omega
 generalize hf2:A2.aa=f2 at c2 nf2;replace T:=T.quiet o3;replace c1:=o3.k c1;have xc2:=T.Fi.wf _ _ c2;refine gO ?_;refine zM (n:=6) (y:=au (nd 0 (cur L p).a [] []) .aj) T.Fi.wf ?_;intro A4 o4 c3;have nf3:A3.aa≠fp:=by
  have:=(h.fg hw).1;have:=T.Fi.aa;omega
 generalize hf3:A3.aa=f3 at c3 nf3;replace T:=T.quiet o4;obtain⟨c1,c2⟩:=o4.k2 c1 c2;have xc3:=T.Fi.wf _ _ c3;have hnx:=fun e=>T.ps.next (show (cur L p).k≠6 from e);have hc:=T.ps.cell;cases b with
 | true=>
  refine rU ?_;refine zL c3 ?_;refine zS c1 ?_;have oR:=ac.put (x:=.cells 0 false 6 (au (nd 0 (cur L p).a [] []) .aj)) T.Fi.wf (T.Fi.wf _ _ c1);refine gO ?_;refine zR ?_;refine⟨(nd 0 (cur L p).a [] []),.aj,p,true,rfl,?_,T.fresh hw h oR nF,dE,?_⟩
  ·exact (((aI.cB rfl:aI A4 (s2 A1.aa f2 f3) (nd 0 (cur L p).a [] []) .aj).q (S':=s0 A1.aa)).k oR).q
  ·exact fun z=>by cases z
 | false=>
  have hd12:=h12 rfl;refine rU ?_;clear hc;refine wD (fun hk=>?_) fun hk3=>?_
  ·replace hk:(cur L p).k=3:=hk;refine tD ?_;refine aC ?_;refine zS2 (y:=au (nd 23 (cur L p).a [] []) .aj) T.Fi.wf c3 ?_;intro A5 o5 c3;replace T:=T.fresh hw h o5 nF;obtain⟨c1,c2⟩:=o5.k2 c1 c2;refine sA ?_;refine aC ?_;refine zS2 (y:=au (.mk 23 (cur L p).a [] (cur L p).i (0,0) []) .aj) T.Fi.wf c3 ?_;intro A6 o6 c3;replace T:=T.fresh hw h o6 nF;replace c1:=o6.k c1;refine sA ?_;refine aK ?_;have hq1:=hnx om;have hc:=T.ps.cell;refine wP ?_;refine zS hc ?_;refine bG (fun A7=>PT A6 A7 fp lv L p dp false (p+1) false) (PT.put T.Fi.wf T.ps (q:=p+1) hq1 (Nat.le_succ _) fun h=>h) ?_;intro A7 t7;clear hc;replace T:=T.then t7;obtain⟨c1,c3⟩:=t7.Fi.k2 c1 c3;refine wL c3 ?_;refine zS c1 ?_;have oR:=ac.put (x:=.cells 0 false 6 (au (.mk 23 (cur L p).a [] (cur L p).i (0,0) []) .aj)) T.Fi.wf (T.Fi.wf _ _ c1);refine gO ?_;refine zR ?_
   refine⟨(.mk 23 (cur L p).a [] (cur L p).i (0,0) []),.aj,(p+1),false,rfl,?_,T.fresh hw h oR nF,dE,?_⟩
   ·exact (((aI.cB rfl:aI A7 (s2 A1.aa f2 f3) (.mk 23 (cur L p).a [] (cur L p).i (0,0) []) .aj).q (S':=s0 A1.aa)).k oR).q
   ·exact fun z=>by
     exact⟨om,.leaf om⟩
  refine wD (fun hk=>?_) fun hk4=>?_
  ·replace hk:(cur L p).k=4:=hk;refine tD ?_;refine aC ?_;refine zS2 (y:=au (nd 24 (cur L p).a [] []) .aj) T.Fi.wf c3 ?_;intro A5 o5 c3;replace T:=T.fresh hw h o5 nF;obtain⟨c1,c2⟩:=o5.k2 c1 c2;refine sA ?_;refine aC ?_;refine zS2 (y:=au (.mk 24 (cur L p).a [] 0 (cur L p).x []) .aj) T.Fi.wf c3 ?_;intro A6 o6 c3;replace T:=T.fresh hw h o6 nF;replace c1:=o6.k c1;refine sA ?_;refine aK ?_;have hq1:=hnx om;have hc:=T.ps.cell;refine wP ?_;refine zS hc ?_;refine bG (fun A7=>PT A6 A7 fp lv L p dp false (p+1) false) (PT.put T.Fi.wf T.ps (q:=p+1) hq1 (Nat.le_succ _) fun h=>h) ?_;intro A7 t7;clear hc;replace T:=T.then t7;obtain⟨c1,c3⟩:=t7.Fi.k2 c1 c3;refine wL c3 ?_;refine zS c1 ?_;have oR:=ac.put (x:=.cells 0 false 6 (au (.mk 24 (cur L p).a [] 0 (cur L p).x []) .aj)) T.Fi.wf (T.Fi.wf _ _ c1);refine gO ?_;refine zR ?_
   refine⟨(.mk 24 (cur L p).a [] 0 (cur L p).x []),.aj,(p+1),false,rfl,?_,T.fresh hw h oR nF,dE,?_⟩
   ·exact (((aI.cB rfl:aI A7 (s2 A1.aa f2 f3) (.mk 24 (cur L p).a [] 0 (cur L p).x []) .aj).q (S':=s0 A1.aa)).k oR).q
   ·exact fun z=>by
     exact⟨om,.leaf om⟩
  refine wD (fun hk=>?_) fun hk1=>?_
  ·replace hk:(cur L p).k=1:=hk;refine tD ?_;refine aC ?_;refine zS2 (y:=au (nd 27 (cur L p).a [] []) .aj) T.Fi.wf c3 ?_;intro A5 o5 c3;replace T:=T.fresh hw h o5 nF;obtain⟨c1,c2⟩:=o5.k2 c1 c2;refine sA ?_;refine aC ?_;refine zS2 (y:=au (nd 27 (cur L p).a (cur L p).s []) .aj) T.Fi.wf c3 ?_;intro A6 o6 c3;replace T:=T.fresh hw h o6 nF;replace c1:=o6.k c1;refine sA ?_;refine aK ?_;have hq1:=hnx om;have hc:=T.ps.cell;refine wP ?_;refine zS hc ?_;refine bG (fun A7=>PT A6 A7 fp lv L p dp false (p+1) false) (PT.put T.Fi.wf T.ps (q:=p+1) hq1 (Nat.le_succ _) fun h=>h) ?_;intro A7 t7;clear hc;replace T:=T.then t7;obtain⟨c1,c3⟩:=t7.Fi.k2 c1 c3;refine wL c3 ?_;refine zS c1 ?_;have oR:=ac.put (x:=.cells 0 false 6 (au (nd 27 (cur L p).a (cur L p).s []) .aj)) T.Fi.wf (T.Fi.wf _ _ c1);refine gO ?_;refine zR ?_
   refine⟨(nd 27 (cur L p).a (cur L p).s []),.aj,(p+1),false,rfl,?_,T.fresh hw h oR nF,dE,?_⟩
   ·exact (((aI.cB rfl:aI A7 (s2 A1.aa f2 f3) (nd 27 (cur L p).a (cur L p).s []) .aj).q (S':=s0 A1.aa)).k oR).q
   ·exact fun z=>by
     exact⟨om,.leaf om⟩
  refine wC (cj T.Fi.wf T.ps) ?_;rintro r A5 ⟨rfl,o5⟩;replace T:=T.quiet o5;obtain⟨c1,c3⟩:=o5.k2 c1 c3;have m5:=o5.aa;refine wD (fun hk=>?_) fun _=>?_
  ·have hk:=(iU hk).2.1;refine gO ?_;refine zS2 (y:=au (nd 25 (cur L p).a [] []) .aj) T.Fi.wf c3 ?_;intro A6 o6 c3;replace T:=T.fresh hw h o6 nF;replace c1:=o6.k c1;refine gO ?_;have hq1:=hnx hk;have hc:=T.ps.cell;refine wP ?_;refine zS hc ?_;refine bG (fun A7=>PT A6 A7 fp lv L p dp false (p+1) false) (PT.put T.Fi.wf T.ps (q:=p+1) hq1 (Nat.le_succ _) fun h=>h) ?_;intro A7 t7;clear hc;replace T:=T.then t7;obtain⟨c1,c3⟩:=t7.Fi.k2 c1 c3;refine wL c3 ?_;refine zS c1 ?_;have oR:=ac.put (x:=.cells 0 false 6 (au (nd 25 (cur L p).a [] []) .aj)) T.Fi.wf (T.Fi.wf _ _ c1);refine gO ?_;refine zR ?_;refine⟨(nd 25 (cur L p).a [] []),.aj,(p+1),false,rfl,?_,T.fresh hw h oR nF,dE,?_⟩
   ·exact (((aI.cB rfl:aI A7 (s2 A1.aa f2 f3) (nd 25 (cur L p).a [] []) .aj).q (S':=s0 A1.aa)).k oR).q
   ·exact fun z=>by
     exact⟨om,.leaf om⟩
  refine wC (cj T.Fi.wf T.ps) ?_;rintro r A6 ⟨rfl,o6⟩;replace T:=T.quiet o6;obtain⟨c1,c3⟩:=o6.k2 c1 c3;have m6:=o6.aa;refine wD (fun hk=>?_) fun _=>?_
  ·have hk:=(iU hk).2.1;refine gO ?_;refine zS2 (y:=au (nd 26 (cur L p).a [] []) .aj) T.Fi.wf c3 ?_;intro A7 o7 c3;replace T:=T.fresh hw h o7 nF;replace c1:=o7.k c1;refine gO ?_;have hq1:=hnx hk;have hc:=T.ps.cell;refine wP ?_;refine zS hc ?_;refine bG (fun A8=>PT A7 A8 fp lv L p dp false (p+1) false) (PT.put T.Fi.wf T.ps (q:=p+1) hq1 (Nat.le_succ _) fun h=>h) ?_;intro A8 t8;clear hc;replace T:=T.then t8;obtain⟨c1,c3⟩:=t8.Fi.k2 c1 c3;refine wL c3 ?_;refine zS c1 ?_;have oR:=ac.put (x:=.cells 0 false 6 (au (nd 26 (cur L p).a [] []) .aj)) T.Fi.wf (T.Fi.wf _ _ c1);refine gO ?_;refine zR ?_;refine⟨(nd 26 (cur L p).a [] []),.aj,(p+1),false,rfl,?_,T.fresh hw h oR nF,dE,?_⟩
   ·exact (((aI.cB rfl:aI A8 (s2 A1.aa f2 f3) (nd 26 (cur L p).a [] []) .aj).q (S':=s0 A1.aa)).k oR).q
   ·exact fun z=>by
     exact⟨om,.leaf om⟩
  refine wC (bz T.Fi.wf T.ps) ?_;rintro r A7 (⟨rfl,i7,t7⟩|⟨rfl,i7,t7⟩)
  ·replace T:=T.then t7;obtain⟨c1,c3⟩:=t7.Fi.k2 c1 c3;have m7:=t7.Fi.aa;refine rU ?_;refine zC rfl (gv T.Fi.wf T.ps h0 om) ?_;rintro r A8 ⟨rfl,b8,s8,o8,z8,y8⟩;replace T:PT A A8 fp lv L p (dp+1) false (p+1) b8:=⟨s8,T.Fi.same o8,T.le,fun h=>z8 (T.bad h)⟩;obtain⟨c1,c3⟩:=o8.k2 c1 c3;have m8:=o8.aa;refine wC (hE T.Fi.wf T.ps om om om fun z=>y8 (az (fun h=>h) z)) ?_;rintro r A9 ⟨u9,ku9,q9,b9,rfl,N9,t9,l9,x9⟩;replace T:=T.then t9;obtain⟨c1,c3⟩:=t9.Fi.k2 c1 c3;replace N9:=N9.q (S':=s2 A1.aa f2 f3);refine oP ?_;refine zS2 (y:=au u9 ku9) T.Fi.wf c3 ?_;intro A10 o10 c3;replace T:=T.fresh hw h o10 nF;replace c1:=o10.k c1;replace N9:=N9.k o10;refine wC (kd T.Fi.wf T.ps h0 om) ?_;rintro r A11 ⟨rfl,s11,o11⟩;replace T:PT A A11 fp lv L p dp false q9 b9:=⟨s11,T.Fi.same o11,T.le,T.bad⟩;obtain⟨c1,c3⟩:=o11.k2 c1 c3;replace N9:=N9.k o11
   refine wC (bn T.Fi.wf T.ps) ?_;rintro r A12 ⟨rfl,q12,b12,t12,g12⟩;replace T:=T.then t12;obtain⟨c1,c3⟩:=t12.Fi.k2 c1 c3;replace N9:=N9.k t12.Fi;refine wL c3 ?_;refine zS c1 ?_;have oR:=ac.put (x:=.cells 0 false 6 (au u9 ku9)) T.Fi.wf (T.Fi.wf _ _ c1);refine gO ?_;refine zR ?_;refine⟨u9,ku9,q12,b12,rfl,?_,T.fresh hw h oR nF,l9,?_⟩
   ·exact ((N9.q (S':=s0 A1.aa)).k oR).q
   ·exact fun z=>by
     have w_g12:=g12 z;replace z:=az t12.bad z;have w_x9:=x9 z;exact⟨om,w_x9.2⟩
  replace T:=T.then t7;obtain⟨c1,c3⟩:=t7.Fi.k2 c1 c3;have m7:=t7.Fi.aa;refine rU ?_;refine zC rfl (bz T.Fi.wf T.ps) ?_;rintro r A8 (⟨rfl,i8,t8⟩|⟨rfl,i8,t8⟩)
  ·replace T:=T.then t8;obtain⟨c1,c3⟩:=t8.Fi.k2 c1 c3;have m8:=t8.Fi.aa;refine rU ?_;refine zC rfl (gv T.Fi.wf T.ps h0 om) ?_;rintro r A9 ⟨rfl,b9,s9,o9,z9,y9⟩;replace T:PT A A9 fp lv L p (dp+1) false (p+1) b9:=⟨s9,T.Fi.same o9,T.le,fun h=>z9 (T.bad h)⟩;obtain⟨c1,c3⟩:=o9.k2 c1 c3;have m9:=o9.aa;refine wC (hU T.Fi.wf T.ps om om om fun z=>y9 (az (fun h=>h) z)) ?_;rintro r A10 ⟨u10,ku10,q10,b10,rfl,N10,t10,l10,x10⟩;replace T:=T.then t10;obtain⟨c1,c3⟩:=t10.Fi.k2 c1 c3;have m10:=t10.Fi.aa;replace N10:=N10.q (S':=s2 A1.aa f2 f3);refine gO ?_;refine zM (n:=6) (y:=au u10 ku10) T.Fi.wf ?_;intro A11 o11 c4;have w10:=T.Fi.wf;have nf4:A10.aa≠fp:=by
    have:=(h.fg hw).1;have:=T.Fi.aa;omega
   generalize hf4:A10.aa=f4 at c4 nf4;replace N10:=N10.mono (S':=s3 A1.aa f2 f3 f4) fun g hg ⟨F,hF⟩=>by
    have:=w10 g F hF;exact⟨om,om,om,om⟩
   replace T:=T.quiet o11;obtain⟨c1,c3⟩:=o11.k2 c1 c3;replace N10:=N10.k o11;have xc4:=T.Fi.wf _ _ c4;refine wC (kd T.Fi.wf T.ps h0 om) ?_;rintro r A12 ⟨rfl,s12,o12⟩;replace T:PT A A12 fp lv L p dp false q10 b10:=⟨s12,T.Fi.same o12,T.le,T.bad⟩;obtain⟨c1,c3,c4⟩:=o12.k3 c1 c3 c4;replace N10:=N10.k o12;have m12:=o12.aa;refine gO ?_;refine zS2 (y:=au (nd 33 (cur L p).a [] []) .aj) T.Fi.wf c3 ?_;intro A13 o13 c3;replace T:=T.fresh hw h o13 nF;obtain⟨c1,c4⟩:=o13.k2 c1 c4;replace N10:=N10.k o13;have m13:=o13.aa;refine wL c3 ?_;refine wL c4 ?_;refine zC rfl (bf (S:=s3 A1.aa f2 f3 f4) T.Fi.wf (aI.cB rfl:aI A13 (s3 A1.aa f2 f3 f4) (nd 33 (cur L p).a [] []) .aj) N10 nA dE) ?_;rintro r A14 ⟨kv14,rfl,N14,o14⟩;replace T:=T.quiet o14;replace c1:=o14.k c1;replace N14:aI A14 (s3 A1.aa f2 f3 f4) (nd 33 (cur L p).a [] [u10]) kv14:=N14;refine wS c1 ?_
   have oR:=ac.put (x:=.cells 0 false 6 (au (nd 33 (cur L p).a [] [u10]) kv14)) T.Fi.wf (T.Fi.wf _ _ c1);refine gO ?_;refine zR ?_;refine⟨(nd 33 (cur L p).a [] [u10]),kv14,q10,b10,rfl,?_,T.fresh hw h oR nF,dE,?_⟩
   ·exact ((N14.q (S':=s0 A1.aa)).k oR).q
   ·exact fun z=>by
     have w_x10:=x10 z;exact⟨om,.one (.inr (.inr (.inl rfl))) w_x10.2⟩
  replace T:=T.then t8;obtain⟨c1,c3⟩:=t8.Fi.k2 c1 c3;have m8:=t8.Fi.aa;refine rU ?_;refine zC rfl (bz T.Fi.wf T.ps) ?_;rintro r A9 (⟨rfl,i9,t9⟩|⟨rfl,i9,t9⟩)
  ·replace T:=T.then t9;obtain⟨c1,c3⟩:=t9.Fi.k2 c1 c3;have m9:=t9.Fi.aa;refine rU ?_;refine zC rfl (bz T.Fi.wf T.ps) ?_;rintro r A10 (⟨rfl,i10,t10⟩|⟨rfl,i10,t10⟩)
   ·replace T:=T.then t10;obtain⟨c1,c3⟩:=t10.Fi.k2 c1 c3;have m10:=t10.Fi.aa;refine rU ?_;refine zS2 (y:=au (nd 32 (cur L p).a [] []) .aj) T.Fi.wf c3 ?_;intro A11 o11 c3;replace T:=T.fresh hw h o11 nF;replace c1:=o11.k c1;have m11:=o11.aa;refine wC (bn T.Fi.wf T.ps) ?_;rintro r A12 ⟨rfl,q12,b12,t12,g12⟩;replace T:=T.then t12;obtain⟨c1,c3⟩:=t12.Fi.k2 c1 c3;have m12:=t12.Fi.aa;have le12:=t12.le;refine wC (gv T.Fi.wf T.ps h0 om) ?_;rintro r A13 ⟨rfl,b13,s13,o13,z13,y13⟩;replace T:PT A A13 fp lv L p (dp+1) false q12 b13:=⟨s13,T.Fi.same o13,T.le,fun h=>z13 (T.bad h)⟩;obtain⟨c1,c3⟩:=o13.k2 c1 c3;have m13:=o13.aa;refine gO ?_;have N0:=(aI.cB rfl:aI A13 (s2 A1.aa f2 f3) (nd 32 (cur L p).a [] []) .aj);have hv:=N0.bh;refine cE rfl ?_;refine rD ?_;refine zL c3 ?_;refine eR ?_;refine aC ?_
    refine zC rfl (hE T.Fi.wf T.ps om om om fun z=>y13 (az (fun h=>h) z)) ?_;rintro r A14 ⟨u14,ku14,q14,b14,rfl,N14,t14,l14,x14⟩;replace T:=T.then t14;obtain⟨c1,c3⟩:=t14.Fi.k2 c1 c3;replace N0:=N0.k t14.Fi;have m14:=t14.Fi.aa;replace N14:=N14.q (S':=s2 A1.aa f2 f3);refine sA ?_;refine aC ?_;refine zC rfl (bf (S:=s2 A1.aa f2 f3) T.Fi.wf N0 N14 nA dE) ?_;rintro r A15 ⟨kv15,rfl,N15,o15⟩;replace T:=T.quiet o15;obtain⟨c1,c3⟩:=o15.k2 c1 c3;replace N15:aI A15 (s2 A1.aa f2 f3) (nd 32 (cur L p).a [] [u14]) kv15:=N15;refine sA ?_;refine aC ?_;refine zS2 (y:=au (nd 32 (cur L p).a [] [u14]) kv15) T.Fi.wf c3 ?_;intro A16 o16 c3;replace T:=T.fresh hw h o16 nF;replace c1:=o16.k c1;replace N15:=N15.k o16;refine sA ?_;refine aK ?_;clear hv;refine wC (kd T.Fi.wf T.ps h0 om) ?_;rintro r A17 ⟨rfl,s17,o17⟩
    replace T:PT A A17 fp lv L p dp false q14 b14:=⟨s17,T.Fi.same o17,T.le,T.bad⟩;obtain⟨c1,c3⟩:=o17.k2 c1 c3;replace N15:=N15.k o17;refine wC (bn T.Fi.wf T.ps) ?_;rintro r A18 ⟨rfl,q18,b18,t18,g18⟩;replace T:=T.then t18;obtain⟨c1,c3⟩:=t18.Fi.k2 c1 c3;replace N15:=N15.k t18.Fi;refine wL c3 ?_;refine zS c1 ?_;have oR:=ac.put (x:=.cells 0 false 6 (au (nd 32 (cur L p).a [] [u14]) kv15)) T.Fi.wf (T.Fi.wf _ _ c1);refine gO ?_;refine zR ?_;refine⟨(nd 32 (cur L p).a [] [u14]),kv15,q18,b18,rfl,?_,T.fresh hw h oR nF,dE,?_⟩
    ·exact ((N15.q (S':=s0 A1.aa)).k oR).q
    ·exact fun z=>by
      have w_g18:=g18 z;replace z:=az t18.bad z;have w_x14:=x14 z;replace z:=az t14.bad z;replace z:=az z13 z;have w_g12:=g12 z;exact⟨om,.one (.inr (.inl rfl)) w_x14.2⟩
   replace T:=T.then t10;obtain⟨c1,c3⟩:=t10.Fi.k2 c1 c3;refine rU ?_;refine zC rfl (dK T.Fi.wf T.ps) ?_;rintro r A11 ⟨s11,q11,b11,rfl,t11,g11⟩;replace T:=T.then t11;obtain⟨c1,c3⟩:=t11.Fi.k2 c1 c3;refine gO ?_;refine zS2 (y:=au (nd 31 (cur L p).a [] []) .aj) T.Fi.wf c3 ?_;intro A12 o12 c3;replace T:=T.fresh hw h o12 nF;replace c1:=o12.k c1;refine gO ?_;refine zS2 (y:=au (nd 31 (cur L p).a s11 []) .aj) T.Fi.wf c3 ?_;intro A13 o13 c3;replace T:=T.fresh hw h o13 nF;replace c1:=o13.k c1;refine wL c3 ?_;refine zS c1 ?_;have oR:=ac.put (x:=.cells 0 false 6 (au (nd 31 (cur L p).a s11 []) .aj)) T.Fi.wf (T.Fi.wf _ _ c1);refine gO ?_;refine zR ?_;refine⟨(nd 31 (cur L p).a s11 []),.aj,q11,b11,rfl,?_,T.fresh hw h oR nF,dE,?_⟩
   ·exact (((aI.cB rfl:aI A13 (s2 A1.aa f2 f3) (nd 31 (cur L p).a s11 []) .aj).q (S':=s0 A1.aa)).k oR).q
   ·exact fun z=>by
     have w_g11:=g11 z;exact⟨om,.new w_g11.2⟩
  replace T:=T.then t9;obtain⟨c1,c3⟩:=t9.Fi.k2 c1 c3;refine rU ?_;refine zC rfl (iq T.Fi.wf T.ps) ?_;rintro r A10 ⟨rfl,t10⟩;replace T:=T.then t10;obtain⟨c1,c3⟩:=t10.Fi.k2 c1 c3;refine wL c3 ?_;refine zS c1 ?_;have oR:=ac.put (x:=.cells 0 false 6 (au (nd 0 (cur L p).a [] []) .aj)) T.Fi.wf (T.Fi.wf _ _ c1);refine gO ?_;refine zR ?_;refine⟨(nd 0 (cur L p).a [] []),.aj,p,true,rfl,?_,T.fresh hw h oR nF,dE,?_⟩
  ·exact (((aI.cB rfl:aI A10 (s2 A1.aa f2 f3) (nd 0 (cur L p).a [] []) .aj).q (S':=s0 A1.aa)).k oR).q
  ·exact fun z=>by cases z
theorem exprs{K:FuncId}:∀n,jS Ex K 16 n∧jS Ex K 99 n
 | 0=>⟨fun hw h hn _ _ _=>absurd hn (by have:=h.lt;omega),fun hw h hn _ _ _=>absurd hn (by have:=h.lt;omega)⟩
 | m+1=>by
  obtain⟨hE,hU⟩:=exprs (K:=K) m;have hP:jS Ex K 120 (m+1):=Ca (Cb hE hU) hE (BZ hE);have hU1:jS Ex K 99 (m+1):=BW hP fun hw h hn h0 h13 h12=>hU hw h om h0 h13 h12;exact⟨BV (Dp (BU hU1)),hU1⟩
section
variable{E:Env}{C:bC}{all rest:List Oper}{l:Kn}{A:AW}{K:Kn→AW→Prop}{d:Tmp}{ty:TypeId}{pos:String}{after:Array Edge}
theorem zy{a b:Operand}{k:IntKind}{x y:Int}{ts:Array TypeId}(hd:Nat.blt d C.N=true)(ha:dw l a=some (.int k x))(hb:dw l b=some (.int k y))(h:WO E C all rest (.put d (.int k (if y<x then y else x)) l) A K):
 WO E C all (⟨some d,.call ⟨.builtin .min,#[a,b],ts⟩,ty,pos,after,none⟩::rest) l A K:=
 bR hd (fun F hF=>by
  show ao (match qe min2 (ev F a) [ev F b] with
   | some v=>.val v A
   | none=>.fail 125)=_
  rw[hF.ev ha,hF.ev hb];show ao (.val (.int k (bif Bp y x then y else x)) A)=_;rw[iQ];by_cases h:y<x
  ·rw[iP h,yT h];rfl
  ·rw[iN h,yF h];rfl) h
end
inductive St:Nat→Nd→Prop
 | block {n:Nat} {a:Int} {s:Str} {i:Int} {x:Nat×Nat} {l:List Nd}:(∀e,e∈l→St n e)→St (n+1) (.mk 7 a s i x l)
 | var0 {n:Nat} {a:Int} {s:Str} {i:Int} {x:Nat×Nat} {t:Nd}:small t.s→St (n+1) (.mk 8 a s i x [t])
 | var1 {n:Nat} {a:Int} {s:Str} {i:Int} {x:Nat×Nat} {t e:Nd}:small t.s→Ex e→St (n+1) (.mk 8 a s i x [t,e])
 | assign {n:Nat} {a:Int} {s:Str} {i:Int} {x:Nat×Nat} {e f:Nd}:Ex e→Ex f→St (n+1) (.mk 9 a s i x [e,f])
 | if1 {n:Nat} {a:Int} {s:Str} {i:Int} {x:Nat×Nat} {e t:Nd}:Ex e→St n t→St (n+1) (.mk 10 a s i x [e,t])
 | if2 {n:Nat} {a:Int} {s:Str} {i:Int} {x:Nat×Nat} {e t u:Nd}:Ex e→St n t→St n u→St (n+1) (.mk 10 a s i x [e,t,u])
 | while {n:Nat} {a:Int} {s:Str} {i:Int} {x:Nat×Nat} {e t:Nd}:Ex e→St n t→St (n+1) (.mk 11 a s i x [e,t])
 | ret0 {n:Nat} {a:Int} {s:Str} {i:Int} {x:Nat×Nat}:St (n+1) (.mk 12 a s i x [])
 | ret1 {n:Nat} {a:Int} {s:Str} {i:Int} {x:Nat×Nat} {e:Nd}:Ex e→St (n+1) (.mk 12 a s i x [e])
 | one {n:Nat} {k a:Int} {s:Str} {i:Int} {x:Nat×Nat} {e:Nd}:(k=13∨k=16∨k=17∨k=18∨k=20∨k=21∨k=22)→Ex e→St (n+1) (.mk k a s i x [e])
 | try {n:Nat} {a:Int} {s:Str} {i:Int} {x:Nat×Nat} {b t c:Nd}:St n b→small t.s→St n c→St (n+1) (.mk 14 a s i x [b,t,c])
 | sync {n:Nat} {a:Int} {s:Str} {i:Int} {x:Nat×Nat} {b:Nd}:St n b→St (n+1) (.mk 15 a s i x [b])
 | yield {n:Nat} {a:Int} {s:Str} {i:Int} {x:Nat×Nat}:St (n+1) (.mk 19 a s i x [])
theorem St.up:∀{n:Nat} {t:Nd},St n t→St (n+1) t
 | _,_,.block h=>.block fun e he=>(h e he).up
 | _,_,.var0 h1=>.var0 h1
 | _,_,.var1 h1 h2=>.var1 h1 h2
 | _,_,.assign h1 h2=>.assign h1 h2
 | _,_,.if1 h1 h2=>.if1 h1 h2.up
 | _,_,.if2 h1 h2 h3=>.if2 h1 h2.up h3.up
 | _,_,.while h1 h2=>.while h1 h2.up
 | _,_,.ret0=>.ret0
 | _,_,.ret1 h1=>.ret1 h1
 | _,_,.one h1 h2=>.one h1 h2
 | _,_,.try h1 h2 h3=>.try h1.up h2 h3.up
 | _,_,.sync h1=>.sync h1.up
 | _,_,.yield=>.yield
theorem St.mono{n m:Nat}{t:Nd}(h:St n t)(hm:n≤m): St m t:=by
 obtain⟨k,rfl⟩:=Nat.exists_eq_add_of_le hm;clear hm
 induction k with
 | zero=>exact h
 | succ k ih=>exact ih.up
theorem jS.mono{P Q:Nd→Prop}{K F:FuncId}{n:Nat}(h:jS P K F n)(hq:∀t,P t→Q t): jS Q K F n:=fun hw hp hn h0 h13 h12=>(h hw hp hn h0 h13 h12).mono fun r A1 ⟨t,kv,q,b1,e,N,T,l,x⟩=>⟨t,kv,q,b1,e,N,T,l,fun z=>⟨(x z).1,hq t (x z).2⟩⟩
set_option maxHeartbeats 8000000 in
theorem zz{K:FuncId}{m kk:Nat}(hS:jS (St kk) K 118 m): jS (St (kk+1)) K 98 (m+1):=by
 intro A fp lv L p dp b hw h hn h0 h13 h12;refine ap rfl rfl rfl ?_;have hlen:=h.ok.len;refine gO ?_;refine aq rfl rfl rfl ?_;refine bG (fun A1=>ac A A1 ag∧A1.heap.get A.aa=some (.cells 0 false 6 (au dL .aj))) ⟨ac.add hw _,by rw[AW.add_get,iP rfl];rfl⟩ ?_;rintro A1 ⟨o1,c1⟩;have nf1:A.aa≠fp:=by
  have:=(h.fg hw).1;omega
 have l1:A.aa≤A.aa:=Nat.le_refl _;have m1:=o1.wf _ _ c1;generalize hf1:A.aa=f1 at c1 nf1 m1 l1;have T:=(PT.refl hw h).quiet o1;refine wC (bn T.Fi.wf T.ps) ?_;rintro r A2 ⟨rfl,q2,b2,t2,g2⟩;replace T:=T.then t2;replace c1:=t2.Fi.k c1;have m2:=t2.Fi.aa;refine gO ?_;refine zM (n:=6) (y:=au (nd 7 (cur L p).a [] []) .aj) T.Fi.wf ?_;intro A3 o3 c2;have nf2:A2.aa≠fp:=by
  have:=(h.fg hw).1;have:=T.Fi.aa;omega
 generalize hf2:A2.aa=f2 at c2 nf2;replace T:=T.quiet o3;replace c1:=o3.k c1;have xc2:=T.Fi.wf _ _ c2;have N0:=(aI.cB rfl:aI A3 (s1 A1.aa f2) (nd 7 (cur L p).a [] []) .aj);refine wC (gv T.Fi.wf T.ps h0 om) ?_;rintro r A4 ⟨rfl,b4,s4,o4,z4,y4⟩;replace T:PT A A4 fp lv L p (dp+1) b q2 b4:=⟨s4,T.Fi.same o4,T.le,fun h=>z4 (T.bad h)⟩;obtain⟨c1,c2⟩:=o4.k2 c1 c2;replace N0:=N0.k o4;have m4:=o4.aa;refine gO ?_;refine aE ?_;refine yL (pp 0 fp (pp 2 f1 (pp 3 f2 .nil))) ?_;refine aV (ι:=Nat×Bool×List Nd×AV) (fun i=>(L.length-i.1)+(if i.2.1=true then 0 else 1)) (fun i=>(pp 0 fp (pp 2 f1 (pp 3 f2 .nil))))
  (fun i B=>PT A B fp lv L p (dp+1) b i.1 i.2.1∧gt B f1 6 (au dL .aj)∧gt B f2 6 (au (Nd.app (nd 7 (cur L p).a [] []) i.2.2.1) i.2.2.2)∧aI B (s1 A1.aa f2) (Nd.app (nd 7 (cur L p).a [] []) i.2.2.1) i.2.2.2∧i.2.2.1.length≤(i.1-p)+1∧A4.aa≤B.aa∧(i.2.1=false→p<i.1∧i.2.2.1.length≤i.1-p∧dp+1≤12∧∀e∈i.2.2.1,St kk e)) ?_
  (q2,b4,[],.aj) A4 ⟨T,c1,c2,N0,Nat.zero_le _,Nat.le_refl _,?_⟩
 rotate_left
 ·exact fun z=>by
   have z0:=z;replace z:=az z4 z;have w_g2:=g2 z;replace z:=az t2.bad z;exact⟨om,Nat.zero_le _,y4 z0,fun e he=>absurd he (List.not_mem_nil)⟩
 clear N0 c1 c2 T;rintro ⟨q,b',es,kv⟩ A5 ⟨T,c1,c2,N,hes,mm,hx⟩ ih;replace T:PT A A5 fp lv L p (dp+1) b q b':=T;replace c2:gt A5 f2 6 (au (Nd.app (nd 7 (cur L p).a [] []) es) kv):=c2;replace N:aI A5 (s1 A1.aa f2) (Nd.app (nd 7 (cur L p).a [] []) es) kv:=N;replace hes:es.length≤(q-p)+1:=hes;replace hx:b'=false→p<q∧es.length≤q-p∧dp+1≤12∧∀e∈es,St kk e:=hx;have hql:=T.ps.lt;have hpl:=T.le;refine sQ ?_;have hc:=T.ps.cell;refine ce (fun l1 B=>∃x,(pp 0 fp (pp 2 f1 (pp 3 f2 (pb 18 x .nil)))).le l1∧(x=true→b'=false)∧ac A5 B ag) ?_ ?_
 ·intro k' hk';refine gO ?_;cases b' with
  | true=>
   refine gO ?_;exact hk' _ _ ⟨false,⟨rfl,rfl,rfl,rfl,trivial⟩,(fun h=>by cases h),ac.refl T.Fi.wf _⟩
  | false=>
   refine wC (cj T.Fi.wf T.ps) ?_;rintro r B ⟨rfl,oB⟩;refine gO ?_;exact hk' _ _ ⟨!decide (np false (cur L q) [125]),⟨rfl,rfl,rfl,rfl,trivial⟩,fun _=>rfl,oB⟩
 rintro l1 A6 ⟨x,hle,hi,o6⟩;refine bY _ ?_ hle;clear hc;replace T:=T.quiet o6;obtain⟨c1,c2⟩:=o6.k2 c1 c2;replace N:=N.k o6;have m6:=o6.aa;cases x with
 | false=>
  refine rU ?_;refine ay rfl ?_;refine wC (kd T.Fi.wf T.ps h0 om) ?_;rintro r A7 ⟨rfl,s7,o7⟩;replace T:PT A A7 fp lv L p dp b q b':=⟨s7,T.Fi.same o7,T.le,T.bad⟩;obtain⟨c1,c2⟩:=o7.k2 c1 c2;replace N:=N.k o7;refine wC (bn T.Fi.wf T.ps) ?_;rintro r A8 ⟨rfl,q8,b8,t8,g8⟩;replace T:=T.then t8;obtain⟨c1,c2⟩:=t8.Fi.k2 c1 c2;replace N:=N.k t8.Fi;refine wL c2 ?_;refine zS c1 ?_;have oR:=ac.put (x:=.cells 0 false 6 (au (Nd.app (nd 7 (cur L p).a [] []) es) kv)) T.Fi.wf (T.Fi.wf _ _ c1);refine gO ?_;refine zR ?_;refine⟨(Nd.app (nd 7 (cur L p).a [] []) es),kv,q8,b8,rfl,?_,T.fresh hw h oR nF,(by rw[mj];show es.length≤8200;omega),?_⟩
  ·exact ((N.q (S':=s0 A1.aa)).k oR).q
  ·exact fun z=>by
    have w_g8:=g8 z;replace z:=az t8.bad z;have hpz:=(hx z).1;exact⟨om,.block (hx z).2.2.2⟩
 | true=>
  obtain rfl:=hi rfl;obtain⟨hpq',hes',hd12,hall⟩:=hx rfl;refine rU ?_;have hv:=N.bh;refine cE rfl ?_;refine rD ?_;refine zL c2 ?_;refine eR ?_;refine aC ?_;refine zC rfl (hS T.Fi.wf T.ps om om om fun z=>hd12) ?_;rintro r A7 ⟨u7,ku7,q7,b7,rfl,N7,t7,l7,x7⟩;replace T:=T.then t7;obtain⟨c1,c2⟩:=t7.Fi.k2 c1 c2;replace N:=N.k t7.Fi;have m7:=t7.Fi.aa;have le7:=t7.le;replace N7:=N7.q (S':=s1 A1.aa f2);refine sA ?_;refine aC ?_;refine zC rfl (bf (S:=s1 A1.aa f2) T.Fi.wf N N7 nA (by rw[mj];show es.length<9000;omega)) ?_;rintro r A8 ⟨kv8,rfl,N8,o8⟩;replace T:=T.quiet o8;obtain⟨c1,c2⟩:=o8.k2 c1 c2;have m8:=o8.aa;replace N8:aI A8 (s1 A1.aa f2) ((Nd.app (nd 7 (cur L p).a [] []) es).push u7) kv8:=N8;refine sA ?_;refine aC ?_;refine zS2 (y:=au ((Nd.app (nd 7 (cur L p).a [] []) es).push u7) kv8) T.Fi.wf c2 ?_;intro A9 o9 c2;replace T:=T.fresh hw h o9 nF
  replace c1:=o9.k c1;replace N8:=N8.k o9;have m9:=o9.aa;refine sA ?_;refine aK ?_;clear hv;rw[kK] at c2 N8;refine gO ?_;refine ai ?_;refine yL (pp 0 fp (pp 2 f1 (pp 3 f2 .nil))) ?_;refine ih (q7,b7,es++[u7],kv8) A9 ?_ ⟨T,c1,c2,N8,by simp only[lA,lS];omega,om,fun z=>?_⟩
  ·have hb:=x7;cases b7
   ·have:=(hb rfl).1;simp only[Bool.false_eq_true,if_false];omega
   ·simp only[Bool.false_eq_true,if_true,if_false];omega
  ·have:=(x7 z).1;exact⟨by simp only;omega,by simp only[lA,lS];omega,hd12,fun e he=>(List.mem_append.1 he).elim (hall e) fun h=>by cases List.mem_singleton.1 h;exact (x7 z).2⟩
def WFn(P:Nd→Prop)(K:FuncId)(F:FuncId)(n:Nat): Prop:=∀{A:AW} {fp:Nat} {lv:AV} {L:List Tk} {p:Nat} {dp:Int} {b:Bool},Wf A→PS A fp lv L p dp b→L.length-p≤n→0≤dp→dp≤12→(b=false→dp≤12)→
 aD (ES K) F [.ptr fp 0 0] A fun r A1=>EPost P A A1 fp lv L p dp b r
set_option maxHeartbeats 4000000 in
theorem lY{K:FuncId}{m kk:Nat}(hS:jS (St kk) K 118 m): WFn (St kk) K 128 m:=by
 intro A fp lv L p dp b hw h hn h0 h13 h12;refine ap rfl rfl rfl ?_;refine gO ?_;refine zA (n:=6) (y:=au dL .aj) hw ?_;intro A1 o1 c1;have nf1:A.aa≠fp:=by
  have:=(h.fg hw).1;omega
 have l1:A.aa≤A.aa:=Nat.le_refl _;have m1:=o1.wf _ _ c1;generalize hf1:A.aa=f1 at c1 nf1 m1 l1;have T:=(PT.refl hw h).quiet o1;refine wC (gv T.Fi.wf T.ps h0 om) ?_;rintro r A2 ⟨rfl,b2,s2,o2,z2,y2⟩;replace T:PT A A2 fp lv L p (dp+1) b p b2:=⟨s2,T.Fi.same o2,T.le,fun h=>z2 (T.bad h)⟩;replace c1:=o2.k c1;have m2:=o2.aa;refine wC (hS T.Fi.wf T.ps om om om fun z=>y2 (az (fun h=>h) z)) ?_;rintro r A3 ⟨u3,ku3,q3,b3,rfl,N3,t3,l3,x3⟩;replace T:=T.then t3;replace c1:=t3.Fi.k c1;replace N3:=N3.q (S':=s0 A1.aa);refine gO ?_;refine zM (n:=6) (y:=au u3 ku3) T.Fi.wf ?_;intro A4 o4 c2;have w3:=T.Fi.wf;have nf2:A3.aa≠fp:=by
  have:=(h.fg hw).1;have:=T.Fi.aa;omega
 generalize hf2:A3.aa=f2 at c2 nf2;replace N3:=N3.mono (S':=s1 A1.aa f2) fun g hg ⟨F,hF⟩=>by
  have:=w3 g F hF;exact⟨om,om⟩
 replace T:=T.quiet o4;replace c1:=o4.k c1;replace N3:=N3.k o4;refine wC (kd T.Fi.wf T.ps h0 om) ?_;rintro r A5 ⟨rfl,s5,o5⟩;replace T:PT A A5 fp lv L p dp b q3 b3:=⟨s5,T.Fi.same o5,T.le,T.bad⟩;obtain⟨c1,c2⟩:=o5.k2 c1 c2;replace N3:=N3.k o5;refine wL c2 ?_;refine zS c1 ?_;have oR:=ac.put (x:=.cells 0 false 6 (au u3 ku3)) T.Fi.wf (T.Fi.wf _ _ c1);refine gO ?_;refine zR ?_;refine⟨u3,ku3,q3,b3,rfl,?_,T.fresh hw h oR nF,l3,?_⟩
 ·exact ((N3.q (S':=s0 A1.aa)).k oR).q
 ·exact fun z=>by
   have w_x3:=x3 z;exact⟨om,w_x3.2⟩
end Go.Proofs.YtafamggbkobcfaaGreat.Ae
