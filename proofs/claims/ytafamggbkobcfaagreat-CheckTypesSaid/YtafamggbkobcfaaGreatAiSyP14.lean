/- A part of the proof of the statement CheckTypes. -/
import Derived.Test.YtafamggbkobcfaaGreatAiSyP12
namespace Go.Proofs.YtafamggbkobcfaaGreat.Ae
open Go.AE
set_option linter.unusedVariables false
set_option maxRecDepth 100000
inductive Pa:Nd→Prop
 | mk {a:Int} {s:Str} {i:Int} {x:Nat×Nat} {t:Nd}:small t.s→Pa (.mk 5 a s i x [t])
inductive Mb:Nd→Prop
 | field {a:Int} {s:Str} {i:Int} {x:Nat×Nat} {t:Nd}:small t.s→Mb (.mk 3 a s i x [t])
 | meth {a:Int} {s:Str} {i:Int} {x:Nat×Nat} {t b:Nd} {ps:List Nd}:small t.s→(∀e,e∈ps→Pa e)→St 20000 b→Mb (.mk 4 a s i x (t::(ps++[b])))
inductive Cl:Nd→Prop
 | mk {a:Int} {s:Str} {i:Int} {x:Nat×Nat} {t:Nd} {ms:List Nd}:nm s→(t.s=[]∨nm t.s)→(∀e,e∈ms→Mb e)→Cl (.mk 2 a s i x (t::ms))
inductive Pr:Nd→Prop
 | mk {a:Int} {s:Str} {i:Int} {x:Nat×Nat} {cs:List Nd}:(∀e,e∈cs→Cl e)→Pr (.mk 1 a s i x cs)
set_option maxHeartbeats 16000000 in
theorem xS{K:FuncId}{n:Nat}(hK:jS (St 20000) K 98 n): jS Mb K 70 n:=by
 intro A fp lv L p dp b hw h hn h0 h13 h12;refine ap rfl rfl rfl ?_;have hlen:=h.ok.len;refine gO ?_;refine aq rfl rfl rfl ?_;refine bG (fun A1=>ac A A1 ag∧A1.heap.get A.aa=some (.cells 0 false 6 (au dL .aj))) ⟨ac.add hw _,by rw[AW.add_get,iP rfl];rfl⟩ ?_;rintro A1 ⟨o1,c1⟩;have nf1:A.aa≠fp:=by
  have:=(h.fg hw).1;omega
 have l1:A.aa≤A.aa:=Nat.le_refl _;have m1:=o1.wf _ _ c1;generalize hf1:A.aa=f1 at c1 nf1 m1 l1;have T:=(PT.refl hw h).quiet o1;refine gO ?_;refine cY rfl rfl bF rfl (cJ T.Fi.wf T.ps) ?_;rintro r A2 ⟨rfl,o2⟩;replace T:=T.quiet o2;replace c1:=o2.k c1;have m2:=o2.aa;refine gO ?_;refine dx rfl rfl rfl ?_;refine wC (bz T.Fi.wf T.ps) ?_;rintro r A3 (⟨rfl,i3,t3⟩|⟨rfl,i3,t3⟩)
 ·replace T:=T.then t3;replace c1:=t3.Fi.k c1;have m3:=t3.Fi.aa;refine rU ?_;refine zC rfl (ph T.Fi.wf T.ps) ?_;rintro r A4 ⟨u4,q4,b4,rfl,e4,sm4,t4,g4⟩;replace T:=T.then t4;replace c1:=t4.Fi.k c1;have m4:=t4.Fi.aa;have N4:aI A4 (s0 A1.aa) u4 .aj:=aI.cB e4;refine gO ?_;refine zM (n:=6) (y:=au u4 .aj) T.Fi.wf ?_;intro A5 o5 c2;have w4:=T.Fi.wf;have nf2:A4.aa≠fp:=by
   have:=(h.fg hw).1;have:=T.Fi.aa;omega
  generalize hf2:A4.aa=f2 at c2 nf2;replace N4:=N4.mono (S':=s1 A1.aa f2) fun g hg ⟨F,hF⟩=>by
   have:=w4 g F hF;exact⟨om,om⟩
  replace T:=T.quiet o5;replace c1:=o5.k c1;replace N4:=N4.k o5;have xc2:=T.Fi.wf _ _ c2;refine gO ?_;have hv:=N4.bh;refine tD ?_;refine rD ?_;refine zL c2 ?_;refine eR ?_;refine bW rfl rfl rfl rfl ?_;refine zA (n:=6) (y:=au dL .aj) T.Fi.wf ?_;intro A6 o6 c3;have w5:=T.Fi.wf;have nf3:A5.aa≠fp:=by
   have:=(h.fg hw).1;have:=T.Fi.aa;omega
  generalize hf3:A5.aa=f3 at c3 nf3;replace N4:=N4.mono (S':=s2 A1.aa f2 f3) fun g hg ⟨F,hF⟩=>by
   have:=w5 g F hF;exact⟨om,om,om⟩
  replace T:=T.quiet o6;obtain⟨c1,c2⟩:=o6.k2 c1 c2;replace N4:=N4.k o6;have xc3:=T.Fi.wf _ _ c3;refine oP ?_;refine aC ?_;refine zC rfl (dK T.Fi.wf T.ps) ?_;rintro r A7 ⟨s7,q7,b7,rfl,t7,g7⟩;replace T:=T.then t7;obtain⟨c1,c2,c3⟩:=t7.Fi.k3 c1 c2 c3;replace N4:=N4.k t7.Fi;have m7:=t7.Fi.aa;refine sA ?_;refine aC ?_;refine zC rfl (bf (S:=s2 A1.aa f2 f3) T.Fi.wf (aI.cB rfl:aI A7 (s2 A1.aa f2 f3) (.mk 3 (cur L p).a s7 1 (0,0) []) .aj) N4 nA dE) ?_;rintro r A8 ⟨kv8,rfl,N8,o8⟩;replace T:=T.quiet o8;obtain⟨c1,c3⟩:=o8.k2 c1 c3;replace N8:aI A8 (s2 A1.aa f2 f3) (.mk 3 (cur L p).a s7 1 (0,0) [u4]) kv8:=N8;refine sA ?_;refine aC ?_;refine zS2 (y:=au (.mk 3 (cur L p).a s7 1 (0,0) [u4]) kv8) T.Fi.wf c3 ?_;intro A9 o9 c3;replace T:=T.fresh hw h o9 nF;replace c1:=o9.k c1;replace N8:=N8.k o9;refine sA ?_;refine aK ?_;clear hv
  refine wC (bn T.Fi.wf T.ps) ?_;rintro r A10 ⟨rfl,q10,b10,t10,g10⟩;replace T:=T.then t10;obtain⟨c1,c3⟩:=t10.Fi.k2 c1 c3;replace N8:=N8.k t10.Fi;refine wL c3 ?_;refine zS c1 ?_;have oR:=ac.put (x:=.cells 0 false 6 (au (.mk 3 (cur L p).a s7 1 (0,0) [u4]) kv8)) T.Fi.wf (T.Fi.wf _ _ c1);refine gO ?_;refine zR ?_;refine⟨(.mk 3 (cur L p).a s7 1 (0,0) [u4]),kv8,q10,b10,rfl,?_,T.fresh hw h oR nF,dE,?_⟩
  ·exact ((N8.q (S':=s0 A1.aa)).k oR).q
  ·exact fun z=>by
    have w_g10:=g10 z;replace z:=az t10.bad z;have w_g7:=g7 z;replace z:=az t7.bad z;have w_g4:=g4 z;exact⟨om,.field sm4⟩
 replace T:=T.then t3;replace c1:=t3.Fi.k c1;have m3:=t3.Fi.aa;refine rU ?_;refine zC rfl (cj T.Fi.wf T.ps) ?_;rintro r A4 ⟨rfl,o4⟩;replace T:=T.quiet o4;replace c1:=o4.k c1;have m4:=o4.aa;refine wC (ph T.Fi.wf T.ps) ?_;rintro r A5 ⟨u5,q5,b5,rfl,e5,sm5,t5,g5⟩;replace T:=T.then t5;replace c1:=t5.Fi.k c1;have m5:=t5.Fi.aa;have N5:aI A5 (s0 A1.aa) u5 .aj:=aI.cB e5;refine gO ?_;refine zM (n:=6) (y:=au u5 .aj) T.Fi.wf ?_;intro A6 o6 c2;have w5:=T.Fi.wf;have nf2:A5.aa≠fp:=by
  have:=(h.fg hw).1;have:=T.Fi.aa;omega
 generalize hf2:A5.aa=f2 at c2 nf2;replace N5:=N5.mono (S':=s1 A1.aa f2) fun g hg ⟨F,hF⟩=>by
  have:=w5 g F hF;exact⟨om,om⟩
 replace T:=T.quiet o6;replace c1:=o6.k c1;replace N5:=N5.k o6;have xc2:=T.Fi.wf _ _ c2;refine wC (dK T.Fi.wf T.ps) ?_;rintro r A7 ⟨s7,q7,b7,rfl,t7,g7⟩;replace T:=T.then t7;obtain⟨c1,c2⟩:=t7.Fi.k2 c1 c2;replace N5:=N5.k t7.Fi;have m7:=t7.Fi.aa;refine oP ?_;refine sQ ?_;refine ce (fun l1 B=>∃x q2,(pp 0 fp (pp 2 f1 (pz 3 (cur L p).a (pp 7 f2 (pv 8 (.str s7) (pb 38 x .nil)))))).le l1∧PT A7 B fp lv L q7 dp b7 q2 b7) ?_ ?_
 ·intro k' hk';refine gO ?_;by_cases hv:np b (cur L p) [118,111,105,100]
  ·refine aF 35 false rfl (congrArg not (yT hv)) ?_;refine gO ?_;exact hk' _ _ ⟨false,_,⟨rfl,rfl,rfl,rfl,rfl,rfl,trivial⟩,PT.refl T.Fi.wf T.ps⟩
  ·refine aF 35 true rfl (congrArg not (yF hv)) ?_;refine wC (bz T.Fi.wf T.ps) ?_;rintro r B (⟨rfl,iB,tB⟩|⟨rfl,iB,tB⟩)
   ·refine gO ?_;exact hk' _ _ ⟨true,_,⟨rfl,rfl,rfl,rfl,rfl,rfl,trivial⟩,tB⟩
   ·refine gO ?_;exact hk' _ _ ⟨false,_,⟨rfl,rfl,rfl,rfl,rfl,rfl,trivial⟩,tB⟩
 rintro l1 A8 ⟨x,q8,hle,t8⟩;refine bY _ ?_ hle;replace T:=T.then t8;obtain⟨c1,c2⟩:=t8.Fi.k2 c1 c2;replace N5:=N5.k t8.Fi;have m8:=t8.Fi.aa;have le8:=t8.le;refine fh rfl (fun _=>?_) fun _=>?_
 ·refine wL c2 ?_;refine zC rfl (bf (S:=s1 A1.aa f2) T.Fi.wf (aI.cB rfl:aI A8 (s1 A1.aa f2) (nd 3 (cur L p).a s7 []) .aj) N5 nA dE) ?_;rintro r A9 ⟨kv9,rfl,N9,o9⟩;replace T:=T.quiet o9;replace c1:=o9.k c1;replace N9:aI A9 (s1 A1.aa f2) (nd 3 (cur L p).a s7 [u5]) kv9:=N9;refine wS c1 ?_;have oR:=ac.put (x:=.cells 0 false 6 (au (nd 3 (cur L p).a s7 [u5]) kv9)) T.Fi.wf (T.Fi.wf _ _ c1);refine gO ?_;refine zR ?_;refine⟨(nd 3 (cur L p).a s7 [u5]),kv9,q8,b7,rfl,?_,T.fresh hw h oR nF,dE,?_⟩
  ·exact ((N9.q (S':=s0 A1.aa)).k oR).q
  ·exact fun z=>by
    have w_g7:=g7 z;replace z:=az t7.bad z;have w_g5:=g5 z;exact⟨om,.field sm5⟩
 refine wL c2 ?_;refine zC rfl (bf (S:=s1 A1.aa f2) T.Fi.wf (aI.cB rfl:aI A8 (s1 A1.aa f2) (nd 4 (cur L p).a s7 []) .aj) N5 nA dE) ?_;rintro r A9 ⟨kv9,rfl,N9,o9⟩;replace T:=T.quiet o9;replace c1:=o9.k c1;have m9:=o9.aa;replace N9:aI A9 (s1 A1.aa f2) (nd 4 (cur L p).a s7 [u5]) kv9:=N9;refine oP ?_;refine zM (n:=6) (y:=au (nd 4 (cur L p).a s7 [u5]) kv9) T.Fi.wf ?_;intro A10 o10 c3;have w9:=T.Fi.wf;have nf3:A9.aa≠fp:=by
  have:=(h.fg hw).1;have:=T.Fi.aa;omega
 generalize hf3:A9.aa=f3 at c3 nf3;replace N9:=N9.mono (S':=s2 A1.aa f2 f3) fun g hg ⟨F,hF⟩=>by
  have:=w9 g F hF;exact⟨om,om,om⟩
 replace T:=T.quiet o10;replace c1:=o10.k c1;replace N9:=N9.k o10;have xc3:=T.Fi.wf _ _ c3;refine wC (bn T.Fi.wf T.ps) ?_;rintro r A11 ⟨rfl,q11,b11,t11,g11⟩;replace T:=T.then t11;obtain⟨c1,c3⟩:=t11.Fi.k2 c1 c3;replace N9:=N9.k t11.Fi;have m11:=t11.Fi.aa;refine gO ?_;refine aE ?_;refine yL (pp 0 fp (pp 2 f1 (pp 9 f3 .nil))) ?_;refine aV (ι:=Nat×Bool×List Nd×AV) (fun i=>(L.length-i.1)+(if i.2.1=true then 0 else 1)) (fun i=>(pp 0 fp (pp 2 f1 (pp 9 f3 .nil))))
  (fun i B=>PT A B fp lv L p dp b i.1 i.2.1∧gt B f1 6 (au dL .aj)∧gt B f3 6 (au (Nd.app (nd 4 (cur L p).a s7 [u5]) i.2.2.1) i.2.2.2)∧aI B (s2 A1.aa f2 f3) (Nd.app (nd 4 (cur L p).a s7 [u5]) i.2.2.1) i.2.2.2∧i.2.2.1.length≤(i.1-p)+1∧A11.aa≤B.aa∧(i.2.1=false→p<i.1∧i.2.2.1.length≤i.1-p∧∀e∈i.2.2.1,Pa e)) ?_
  (q11,b11,[],kv9) A11 ⟨T,c1,c3,N9,Nat.zero_le _,Nat.le_refl _,?_⟩
 rotate_left
 ·exact fun z=>by
   have w_g11:=g11 z;replace z:=az t11.bad z;have w_g7:=g7 z;replace z:=az t7.bad z;have w_g5:=g5 z;replace z:=az t5.bad z;exact⟨om,Nat.zero_le _,fun e he=>absurd he (List.not_mem_nil)⟩
 clear N9 c1 c2 c3 T;rintro ⟨q,b',es,kv⟩ A12 ⟨T,c1,c3,N,hes,mm,hx⟩ ih;replace T:PT A A12 fp lv L p dp b q b':=T;replace c3:gt A12 f3 6 (au (Nd.app (nd 4 (cur L p).a s7 [u5]) es) kv):=c3;replace N:aI A12 (s2 A1.aa f2 f3) (Nd.app (nd 4 (cur L p).a s7 [u5]) es) kv:=N;replace hes:es.length≤(q-p)+1:=hes;replace hx:b'=false→p<q∧es.length≤q-p∧∀e∈es,Pa e:=hx;have hql:=T.ps.lt;have hpl:=T.le;refine sQ ?_;have hc:=T.ps.cell;refine ce (fun l1 B=>∃x,(pp 0 fp (pp 2 f1 (pp 9 f3 (pb 60 x .nil)))).le l1∧(x=true→b'=false)∧ac A12 B ag) ?_ ?_
 ·intro k' hk';refine gO ?_;cases b' with
  | true=>
   refine gO ?_;exact hk' _ _ ⟨false,⟨rfl,rfl,rfl,rfl,trivial⟩,(fun h=>by cases h),ac.refl T.Fi.wf _⟩
  | false=>
   refine wC (cj T.Fi.wf T.ps) ?_;rintro r B ⟨rfl,oB⟩;refine gO ?_;exact hk' _ _ ⟨!decide (np false (cur L q) [41]),⟨rfl,rfl,rfl,rfl,trivial⟩,fun _=>rfl,oB⟩
 rintro l1 A13 ⟨x,hle,hi,o13⟩;refine bY _ ?_ hle;clear hc;replace T:=T.quiet o13;obtain⟨c1,c3⟩:=o13.k2 c1 c3;replace N:=N.k o13;have m13:=o13.aa;cases x with
 | false=>
  refine rU ?_;refine ay rfl ?_;refine wC (bn T.Fi.wf T.ps) ?_;rintro r A14 ⟨rfl,q14,b14,t14,g14⟩;replace T:=T.then t14;obtain⟨c1,c3⟩:=t14.Fi.k2 c1 c3;replace N:=N.k t14.Fi;have m14:=t14.Fi.aa;refine gO ?_;have hv:=N.bh;refine cE rfl ?_;refine rD ?_;refine zL c3 ?_;refine eR ?_;refine aC ?_;have hpq:=T.le;refine zC rfl (hK T.Fi.wf T.ps om h0 h13 fun z=>h12 (az T.bad z)) ?_;rintro r A15 ⟨u15,ku15,q15,b15,rfl,N15,t15,l15,x15⟩;replace T:=T.then t15;obtain⟨c1,c3⟩:=t15.Fi.k2 c1 c3;replace N:=N.k t15.Fi;have m15:=t15.Fi.aa;replace N15:=N15.q (S':=s2 A1.aa f2 f3);refine sA ?_;refine aC ?_;refine zC rfl (bf (S:=s2 A1.aa f2 f3) T.Fi.wf N N15 nA (by rw[mj];show es.length+1<9000;omega)) ?_;rintro r A16 ⟨kv16,rfl,N16,o16⟩;replace T:=T.quiet o16;replace c1:=o16.k c1
  replace N16:aI A16 (s2 A1.aa f2 f3) ((Nd.app (nd 4 (cur L p).a s7 [u5]) es).push u15) kv16:=N16;refine sA ?_;refine aC ?_;refine zS2 (y:=au ((Nd.app (nd 4 (cur L p).a s7 [u5]) es).push u15) kv16) T.Fi.wf c1 ?_;intro A17 o17 c1;replace T:=T.fresh hw h o17 nF;replace N16:=N16.k o17;refine sA ?_;refine aK ?_;clear hv;refine gO ?_;refine zT c1 ?_;refine⟨((Nd.app (nd 4 (cur L p).a s7 [u5]) es).push u15),kv16,q15,b15,rfl,N16.mono fun g hg _=>om,T,(by rw[zx,mj,lA];show es.length+1+1≤8200;omega),?_⟩;exact fun z=>by
   have w_x15:=x15 z;replace z:=az t15.bad z;replace z:=az t14.bad z;exact⟨om,.meth sm5 (hx z).2.2 w_x15.2⟩
 | true=>
  obtain rfl:=hi rfl;obtain⟨hpq',hes',hall⟩:=hx rfl;have hkl:=N.bm;have hnl:(Nd.app (nd 4 (cur L p).a s7 [u5]) es).l.length=es.length+1:=by rw[mj,lA];show 1+es.length=_;omega
  refine rU ?_;refine gP rfl rfl rfl hkl ?_;refine oP ?_;refine sQ ?_;refine ce (fun l1 B=>(pp 0 fp (pp 2 f1 (pp 9 f3 .nil))).le l1∧∃q2 b2,PT A13 B fp lv L q dp false q2 b2) ?_ ?_
  ·intro k' hk';refine fh rfl (fun _=>?_) fun _=>?_
   ·refine wC (bn T.Fi.wf T.ps) ?_;rintro r B ⟨rfl,q2,b2,tB,_⟩;refine gO ?_;exact hk' _ _ ⟨⟨rfl,rfl,rfl,trivial⟩,q2,b2,tB⟩
   ·refine gO ?_;exact hk' _ _ ⟨⟨rfl,rfl,rfl,trivial⟩,q,false,PT.refl T.Fi.wf T.ps⟩
  rintro l2 A14 ⟨hle2,q14,b14,t14⟩;refine bY _ ?_ hle2;replace T:=T.then t14;obtain⟨c1,c3⟩:=t14.Fi.k2 c1 c3;replace N:=N.k t14.Fi;have m14:=t14.Fi.aa;have le14:=t14.le;refine wC (ph T.Fi.wf T.ps) ?_;rintro r A15 ⟨u15,q15,b15,rfl,e15,sm15,t15,g15⟩;replace T:=T.then t15;obtain⟨c1,c3⟩:=t15.Fi.k2 c1 c3;replace N:=N.k t15.Fi;have m15:=t15.Fi.aa;have le15:=t15.le;have N15:aI A15 (s2 A1.aa f2 f3) u15 .aj:=aI.cB e15;refine gO ?_;refine zM (n:=6) (y:=au u15 .aj) T.Fi.wf ?_;intro A16 o16 c4;have w15:=T.Fi.wf;have nf4:A15.aa≠fp:=by
   have:=(h.fg hw).1;have:=T.Fi.aa;omega
  generalize hf4:A15.aa=f4 at c4 nf4;replace N:=N.mono (S':=s3 A1.aa f2 f3 f4) fun g hg ⟨F,hF⟩=>by
   have:=w15 g F hF;exact⟨om,om,om,om⟩
  replace N15:=N15.mono (S':=s3 A1.aa f2 f3 f4) fun g hg ⟨F,hF⟩=>by
   have:=w15 g F hF;exact⟨om,om,om,om⟩
  replace T:=T.quiet o16;obtain⟨c1,c3⟩:=o16.k2 c1 c3;replace N:=N.k o16;replace N15:=N15.k o16;have xc4:=T.Fi.wf _ _ c4;refine gO ?_;have hv:=N.bh;have hv4:=N15.bh;refine cE rfl ?_;refine rD ?_;refine zL c3 ?_;refine eR ?_;refine rD ?_;refine zL c4 ?_;refine eR ?_;refine aC ?_;refine zC rfl (dK T.Fi.wf T.ps) ?_;rintro r A17 ⟨s17,q17,b17,rfl,t17,g17⟩;replace T:=T.then t17;obtain⟨c1,c3,c4⟩:=t17.Fi.k3 c1 c3 c4;replace N:=N.k t17.Fi;replace N15:=N15.k t17.Fi;have m17:=t17.Fi.aa;have le17:=t17.le;refine sA ?_;refine aC ?_;refine zC rfl (bf (S:=s3 A1.aa f2 f3 f4) T.Fi.wf (aI.cB rfl:aI A17 (s3 A1.aa f2 f3 f4) (nd 5 u15.a s17 []) .aj) N15 nA dE) ?_;rintro r A18 ⟨kv18,rfl,N18,o18⟩;replace T:=T.quiet o18;obtain⟨c1,c3⟩:=o18.k2 c1 c3;replace N:=N.k o18;have m18:=o18.aa;replace N18:aI A18 (s3 A1.aa f2 f3 f4) (nd 5 u15.a s17 [u15]) kv18:=N18
  refine sA ?_;refine aC ?_;refine zC rfl (bf (S:=s3 A1.aa f2 f3 f4) T.Fi.wf N N18 nA (by rw[hnl];omega)) ?_;rintro r A19 ⟨kv19,rfl,N19,o19⟩;replace T:=T.quiet o19;obtain⟨c1,c3⟩:=o19.k2 c1 c3;have m19:=o19.aa;replace N19:aI A19 (s3 A1.aa f2 f3 f4) ((Nd.app (nd 4 (cur L p).a s7 [u5]) es).push (nd 5 u15.a s17 [u15])) kv19:=N19;refine sA ?_;refine aC ?_;refine zS2 (y:=au ((Nd.app (nd 4 (cur L p).a s7 [u5]) es).push (nd 5 u15.a s17 [u15])) kv19) T.Fi.wf c3 ?_;intro A20 o20 c3;replace T:=T.fresh hw h o20 nF;replace c1:=o20.k c1;replace N19:=N19.k o20;have m20:=o20.aa;refine sA ?_;refine aK ?_;clear hv hv4;rw[kK] at c3 N19;refine gO ?_;refine ai ?_;refine yL (pp 0 fp (pp 2 f1 (pp 9 f3 .nil))) ?_;have hb:b17=false→q<q17:=fun z=>by
   have w_g17:=g17 z;replace z:=az t17.bad z;have w_g15:=g15 z;omega
  refine ih (q17,b17,es++[(nd 5 u15.a s17 [u15])],kv19) A20 ?_ ⟨T,c1,c3,N19.mono fun g hg _=>⟨hg.1,hg.2.1,hg.2.2.1⟩,by simp only[lA,lS];omega,om,fun z=>?_⟩
  ·have hb:=hb;cases b17
   ·have:=hb rfl;simp only[Bool.false_eq_true,if_false];omega
   ·simp only[Bool.false_eq_true,if_true,if_false];omega
  ·have:=hb z;exact⟨by simp only;omega,by simp only[lA,lS];omega,fun e he=>(List.mem_append.1 he).elim (hall e) fun h=>by cases List.mem_singleton.1 h;exact .mk sm15⟩
set_option maxHeartbeats 16000000 in
theorem zF{K:FuncId}{n:Nat}(hM:jS Mb K 70 n): jS Cl K 43 n:=by
 intro A fp lv L p dp b hw h hn h0 h13 h12;refine ap rfl rfl rfl ?_;have hlen:=h.ok.len;refine gO ?_;refine zA (n:=6) (y:=au dL .aj) hw ?_;intro A1 o1 c1;have nf1:A.aa≠fp:=by
  have:=(h.fg hw).1;omega
 have l1:A.aa≤A.aa:=Nat.le_refl _;have m1:=o1.wf _ _ c1;generalize hf1:A.aa=f1 at c1 nf1 m1 l1;have T:=(PT.refl hw h).quiet o1;refine wC (bn T.Fi.wf T.ps) ?_;rintro r A2 ⟨rfl,q2,b2,t2,g2⟩;replace T:=T.then t2;replace c1:=t2.Fi.k c1;have m2:=t2.Fi.aa;refine gO ?_;refine zM (n:=6) (y:=au (nd 2 (cur L p).a [] []) .aj) T.Fi.wf ?_;intro A3 o3 c2;have nf2:A2.aa≠fp:=by
  have:=(h.fg hw).1;have:=T.Fi.aa;omega
 generalize hf2:A2.aa=f2 at c2 nf2;replace T:=T.quiet o3;replace c1:=o3.k c1;have xc2:=T.Fi.wf _ _ c2;refine wC (dK T.Fi.wf T.ps) ?_;rintro r A4 ⟨s4,q4,b4,rfl,t4,g4⟩;replace T:=T.then t4;obtain⟨c1,c2⟩:=t4.Fi.k2 c1 c2;have m4:=t4.Fi.aa;refine gO ?_;refine zS2 (y:=au (nd 2 (cur L p).a s4 []) .aj) T.Fi.wf c2 ?_;intro A5 o5 c2;replace T:=T.fresh hw h o5 nF;replace c1:=o5.k c1;have m5:=o5.aa;refine gO ?_;refine zM (n:=6) (y:=au (nd 6 (cur L p).a [] []) .aj) T.Fi.wf ?_;intro A6 o6 c3;have nf3:A5.aa≠fp:=by
  have:=(h.fg hw).1;have:=T.Fi.aa;omega
 generalize hf3:A5.aa=f3 at c3 nf3;replace T:=T.quiet o6;obtain⟨c1,c2⟩:=o6.k2 c1 c2;have xc3:=T.Fi.wf _ _ c3;refine oP ?_;refine sQ ?_;refine ce (fun l1 B=>∃x q2,(pp 0 fp (pp 2 f1 (pp 3 f2 (pp 4 f3 (pb 15 x .nil))))).le l1∧PT A6 B fp lv L q4 dp b4 q2 b4) ?_ ?_
 ·intro k' hk';refine wC (bz T.Fi.wf T.ps) ?_;rintro r B (⟨rfl,iB,tB⟩|⟨rfl,iB,tB⟩)
  ·refine gO ?_;exact hk' _ _ ⟨true,_,⟨rfl,rfl,rfl,rfl,rfl,trivial⟩,tB⟩
  ·refine gO ?_;exact hk' _ _ ⟨false,_,⟨rfl,rfl,rfl,rfl,rfl,trivial⟩,tB⟩
 rintro l1 A7 ⟨x,q7,hle,t7⟩;refine bY _ ?_ hle;replace T:=T.then t7;obtain⟨c1,c2,c3⟩:=t7.Fi.k3 c1 c2 c3;have m7:=t7.Fi.aa;have le7:=t7.le;refine ce (fun l1 B=>(pp 0 fp (pp 2 f1 (pp 3 f2 (pp 4 f3 .nil)))).le l1∧∃up q2 b2,PT A B fp lv L p dp b q2 b2∧up.l=[]∧gt B f1 6 (au dL .aj)∧gt B f2 6 (au (nd 2 (cur L p).a s4 []) .aj)∧gt B f3 6 (au up .aj)∧A7.aa≤B.aa∧(b2=false→b4=false∧q7≤q2∧(up.s=[]∨nm up.s))) ?_ ?_
 ·intro k' hk';refine fh rfl (fun _=>?_) fun _=>?_
  ·refine wC (cJ T.Fi.wf T.ps) ?_;rintro r A8 ⟨rfl,o8⟩;replace T:=T.quiet o8;obtain⟨c1,c2,c3⟩:=o8.k3 c1 c2 c3;have m8:=o8.aa;refine gO ?_;refine dx rfl rfl rfl ?_;refine gO ?_;refine zS2 (y:=au (nd 6 (cur L q7).a [] []) .aj) T.Fi.wf c3 ?_;intro A9 o9 c3;replace T:=T.fresh hw h o9 nF;obtain⟨c1,c2⟩:=o9.k2 c1 c2;have m9:=o9.aa;refine wC (dK T.Fi.wf T.ps) ?_;rintro r A10 ⟨s10,q10,b10,rfl,t10,g10⟩;replace T:=T.then t10;obtain⟨c1,c2,c3⟩:=t10.Fi.k3 c1 c2 c3;have m10:=t10.Fi.aa;have le10:=t10.le;refine gO ?_;refine zS2 (y:=au (nd 6 (cur L q7).a s10 []) .aj) T.Fi.wf c3 ?_;intro A11 o11 c3;replace T:=T.fresh hw h o11 nF;obtain⟨c1,c2⟩:=o11.k2 c1 c2;have m11:=o11.aa;refine gO ?_;exact hk' _ _ ⟨⟨rfl,rfl,rfl,rfl,trivial⟩,.mk 6 (cur L q7).a s10 0 (0,0) [],q10,b10,T,rfl,c1,c2,c3,om,fun z=>⟨az t10.bad z,le10,.inr (g10 z).2⟩⟩
  refine gO ?_;exact hk' _ _ ⟨⟨rfl,rfl,rfl,rfl,trivial⟩,(nd 6 (cur L p).a [] []),q7,b4,T,rfl,c1,c2,c3,Nat.le_refl _,fun z=>⟨z,Nat.le_refl _,.inl rfl⟩⟩
 clear c1 c2 c3;clear T;rintro l2 A27 ⟨hle2,up,q27,b27,T,hup,c1,c2,c3,m27,y27⟩;refine bY _ ?_ hle2;have le27:b27=false→q7≤q27:=fun z=>(y27 z).2.1;refine wL c2 ?_;refine wL c3 ?_;refine zC rfl (bf (S:=s2 A1.aa f2 f3) T.Fi.wf (aI.cB rfl:aI A27 (s2 A1.aa f2 f3) (nd 2 (cur L p).a s4 []) .aj) (aI.cB hup:aI A27 (s2 A1.aa f2 f3) up .aj) nA dE) ?_;rintro r A28 ⟨kv28,rfl,N28,o28⟩;replace T:=T.quiet o28;obtain⟨c1,c2⟩:=o28.k2 c1 c2;have m28:=o28.aa;replace N28:aI A28 (s2 A1.aa f2 f3) (nd 2 (cur L p).a s4 [up]) kv28:=N28;refine oP ?_;refine zS2 (y:=au (nd 2 (cur L p).a s4 [up]) kv28) T.Fi.wf c2 ?_;intro A29 o29 c2;replace T:=T.fresh hw h o29 nF;replace c1:=o29.k c1;replace N28:=N28.k o29;have m29:=o29.aa;refine wC (bn T.Fi.wf T.ps) ?_;rintro r A30 ⟨rfl,q30,b30,t30,g30⟩;replace T:=T.then t30;obtain⟨c1,c2⟩:=t30.Fi.k2 c1 c2;replace N28:=N28.k t30.Fi
 have m30:=t30.Fi.aa;refine gO ?_;clear c3;replace N28:=N28.mono (S':=s2 A1.aa f3 f2) fun g hg _=>by exact⟨om,om,om⟩
 refine aE ?_;refine yL (pp 0 fp (pp 2 f1 (pp 3 f2 .nil))) ?_;refine aV (ι:=Nat×Bool×List Nd×AV) (fun i=>(L.length-i.1)+(if i.2.1=true then 0 else 1)) (fun i=>(pp 0 fp (pp 2 f1 (pp 3 f2 .nil))))
  (fun i B=>PT A B fp lv L p dp b i.1 i.2.1∧gt B f1 6 (au dL .aj)∧gt B f2 6 (au (Nd.app (nd 2 (cur L p).a s4 [up]) i.2.2.1) i.2.2.2)∧aI B (s2 A1.aa f3 f2) (Nd.app (nd 2 (cur L p).a s4 [up]) i.2.2.1) i.2.2.2∧i.2.2.1.length≤(i.1-p)+1∧A30.aa≤B.aa∧(i.2.1=false→(p<i.1∧nm s4∧(up.s=[]∨nm up.s))∧i.2.2.1.length≤i.1-p∧∀e∈i.2.2.1,Mb e)) ?_
  (q30,b30,[],kv28) A30 ⟨T,c1,c2,N28,Nat.zero_le _,Nat.le_refl _,?_⟩
 rotate_left
 ·exact fun z=>by
   have w_g30:=g30 z;replace z:=az t30.bad z;have w_up:=(y27 z).2.2;have w_le:=le27 z;replace z:=(y27 z).1;have w_g4:=g4 z;replace z:=az t4.bad z;have w_g2:=g2 z;replace z:=az t2.bad z;exact⟨⟨by simp only;omega,w_g4.2,w_up⟩,Nat.zero_le _,fun e he=>absurd he (List.not_mem_nil)⟩
 clear N28 c1 c2 T;rintro ⟨q,b',es,kv⟩ A31 ⟨T,c1,c2,N,hes,mm,hx⟩ ih;replace T:PT A A31 fp lv L p dp b q b':=T;replace c2:gt A31 f2 6 (au (Nd.app (nd 2 (cur L p).a s4 [up]) es) kv):=c2;replace N:aI A31 (s2 A1.aa f3 f2) (Nd.app (nd 2 (cur L p).a s4 [up]) es) kv:=N;replace hes:es.length≤(q-p)+1:=hes;replace hx:b'=false→(p<q∧nm s4∧(up.s=[]∨nm up.s))∧es.length≤q-p∧∀e∈es,Mb e:=hx;have hql:=T.ps.lt;have hpl:=T.le;refine sQ ?_;have hc:=T.ps.cell;refine ce (fun l1 B=>∃x,(pp 0 fp (pp 2 f1 (pp 3 f2 (pb 37 x .nil)))).le l1∧(x=true→b'=false)∧ac A31 B ag) ?_ ?_
 ·intro k' hk';refine gO ?_;cases b' with
  | true=>
   refine gO ?_;exact hk' _ _ ⟨false,⟨rfl,rfl,rfl,rfl,trivial⟩,(fun h=>by cases h),ac.refl T.Fi.wf _⟩
  | false=>
   refine wC (cj T.Fi.wf T.ps) ?_;rintro r B ⟨rfl,oB⟩;refine gO ?_;exact hk' _ _ ⟨!decide (np false (cur L q) [125]),⟨rfl,rfl,rfl,rfl,trivial⟩,fun _=>rfl,oB⟩
 rintro l1 A32 ⟨x,hle,hi,o32⟩;refine bY _ ?_ hle;clear hc;replace T:=T.quiet o32;obtain⟨c1,c2⟩:=o32.k2 c1 c2;replace N:=N.k o32;have m32:=o32.aa;cases x with
 | false=>
  refine rU ?_;refine ay rfl ?_;refine wC (bn T.Fi.wf T.ps) ?_;rintro r A33 ⟨rfl,q33,b33,t33,g33⟩;replace T:=T.then t33;obtain⟨c1,c2⟩:=t33.Fi.k2 c1 c2;replace N:=N.k t33.Fi;refine wL c2 ?_;refine zS c1 ?_;have oR:=ac.put (x:=.cells 0 false 6 (au (Nd.app (nd 2 (cur L p).a s4 [up]) es) kv)) T.Fi.wf (T.Fi.wf _ _ c1);refine gO ?_;refine zR ?_;refine⟨(Nd.app (nd 2 (cur L p).a s4 [up]) es),kv,q33,b33,rfl,?_,T.fresh hw h oR nF,(by rw[mj,lA];show 1+es.length≤8200;omega),?_⟩
  ·exact ((N.q (S':=s0 A1.aa)).k oR).q
  ·exact fun z=>by
    have w_g33:=g33 z;replace z:=az t33.bad z;have hpz:=(hx z).1.1;exact⟨om,.mk (hx z).1.2.1 (hx z).1.2.2 (hx z).2.2⟩
 | true=>
  obtain rfl:=hi rfl;obtain⟨⟨hpq',hnm,hupn⟩,hes',hall⟩:=hx rfl;refine rU ?_;have hv:=N.bh;refine cE rfl ?_;refine rD ?_;refine zL c2 ?_;refine eR ?_;refine aC ?_;refine zC rfl (hM T.Fi.wf T.ps om h0 h13 fun z=>h12 (az T.bad z)) ?_;rintro r A33 ⟨u33,ku33,q33,b33,rfl,N33,t33,l33,x33⟩;replace T:=T.then t33;obtain⟨c1,c2⟩:=t33.Fi.k2 c1 c2;replace N:=N.k t33.Fi;have m33:=t33.Fi.aa;have le33:=t33.le;replace N33:=N33.q (S':=s2 A1.aa f3 f2);refine sA ?_;refine aC ?_;refine zC rfl (bf (S:=s2 A1.aa f3 f2) T.Fi.wf N N33 nA (by rw[mj,lA];show 1+es.length<9000;omega)) ?_;rintro r A34 ⟨kv34,rfl,N34,o34⟩;replace T:=T.quiet o34;obtain⟨c1,c2⟩:=o34.k2 c1 c2;have m34:=o34.aa;replace N34:aI A34 (s2 A1.aa f3 f2) ((Nd.app (nd 2 (cur L p).a s4 [up]) es).push u33) kv34:=N34;refine sA ?_;refine aC ?_
  refine zS2 (y:=au ((Nd.app (nd 2 (cur L p).a s4 [up]) es).push u33) kv34) T.Fi.wf c2 ?_;intro A35 o35 c2;replace T:=T.fresh hw h o35 nF;replace c1:=o35.k c1;replace N34:=N34.k o35;have m35:=o35.aa;refine sA ?_;refine aK ?_;clear hv;rw[kK] at c2 N34;refine gO ?_;refine ai ?_;refine yL (pp 0 fp (pp 2 f1 (pp 3 f2 .nil))) ?_;refine ih (q33,b33,es++[u33],kv34) A35 ?_ ⟨T,c1,c2,N34,by simp only[lA,lS];omega,om,fun z=>?_⟩
  ·have hb:=x33;cases b33
   ·have:=(hb rfl).1;simp only[Bool.false_eq_true,if_false];omega
   ·simp only[Bool.false_eq_true,if_true,if_false];omega
  ·have:=(x33 z).1;exact⟨⟨by simp only;omega,hnm,hupn⟩,by simp only[lA,lS];omega,fun e he=>(List.mem_append.1 he).elim (hall e) fun h=>by cases List.mem_singleton.1 h;exact (x33 z).2⟩
def GPost(P:Nd→Prop)(A A1:AW)(fp:Nat)(lv:AV)(L:List Tk)(p:Nat)(dp:Int)(b:Bool)(r:AV): Prop:=
 ∃t kv q b1,r=.agg (au t kv)∧aI A1 (fun g=>A.aa≤g) t kv∧PT A A1 fp lv L p dp b q b1∧t.l.length≤8200∧(b1=false→P t)
set_option maxHeartbeats 16000000 in
theorem wk{K:FuncId}{n:Nat}(hC:jS Cl K 43 n): ∀{A:AW} {fp:Nat} {lv:AV} {L:List Tk} {p:Nat} {dp:Int} {b:Bool},Wf A→PS A fp lv L p dp b→L.length-p≤n→0≤dp→dp≤13→(b=false→dp≤12)→
 aD (ES K) 14 [.ptr fp 0 0] A fun r A1=>GPost Pr A A1 fp lv L p dp b r:=by
 intro A fp lv L p dp b hw h hn h0 h13 h12;refine ap rfl rfl rfl ?_;have hlen:=h.ok.len;refine gO ?_;refine zA (n:=6) (y:=au dL .aj) hw ?_;intro A1 o1 c1;have nf1:A.aa≠fp:=by
  have:=(h.fg hw).1;omega
 have l1:A.aa≤A.aa:=Nat.le_refl _;have m1:=o1.wf _ _ c1;generalize hf1:A.aa=f1 at c1 nf1 m1 l1;have T:=(PT.refl hw h).quiet o1;refine wC (cJ T.Fi.wf T.ps) ?_;rintro r A2 ⟨rfl,o2⟩;replace T:=T.quiet o2;replace c1:=o2.k c1;have m2:=o2.aa;refine gO ?_;refine dx rfl rfl rfl ?_;refine gO ?_;refine zM (n:=6) (y:=au (nd 1 (cur L p).a [] []) .aj) T.Fi.wf ?_;intro A3 o3 c2;have nf2:A2.aa≠fp:=by
  have:=(h.fg hw).1;have:=T.Fi.aa;omega
 generalize hf2:A2.aa=f2 at c2 nf2;replace T:=T.quiet o3;replace c1:=o3.k c1;have xc2:=T.Fi.wf _ _ c2;have N0:=(aI.cB rfl:aI A3 (s1 A1.aa f2) (nd 1 (cur L p).a [] []) .aj);refine gO ?_;refine aE ?_;refine yL (pp 0 fp (pp 2 f1 (pp 3 f2 .nil))) ?_;refine aV (ι:=Nat×Bool×List Nd×AV) (fun i=>(L.length-i.1)+(if i.2.1=true then 0 else 1)) (fun i=>(pp 0 fp (pp 2 f1 (pp 3 f2 .nil))))
  (fun i B=>PT A B fp lv L p dp b i.1 i.2.1∧gt B f1 6 (au dL .aj)∧gt B f2 6 (au (Nd.app (nd 1 (cur L p).a [] []) i.2.2.1) i.2.2.2)∧aI B (s1 A1.aa f2) (Nd.app (nd 1 (cur L p).a [] []) i.2.2.1) i.2.2.2∧i.2.2.1.length≤(i.1-p)+1∧A3.aa≤B.aa∧(i.2.1=false→p≤i.1∧i.2.2.1.length≤i.1-p∧∀e∈i.2.2.1,Cl e)) ?_
  (p,b,[],.aj) A3 ⟨T,c1,c2,N0,Nat.zero_le _,Nat.le_refl _,?_⟩
 rotate_left
 ·exact fun z=>⟨Nat.le_refl _,Nat.zero_le _,fun e he=>absurd he (List.not_mem_nil)⟩
 clear N0 c1 c2 T;rintro ⟨q,b',es,kv⟩ A4 ⟨T,c1,c2,N,hes,mm,hx⟩ ih;replace T:PT A A4 fp lv L p dp b q b':=T;replace c2:gt A4 f2 6 (au (Nd.app (nd 1 (cur L p).a [] []) es) kv):=c2;replace N:aI A4 (s1 A1.aa f2) (Nd.app (nd 1 (cur L p).a [] []) es) kv:=N;replace hes:es.length≤(q-p)+1:=hes;replace hx:b'=false→p≤q∧es.length≤q-p∧∀e∈es,Cl e:=hx;have hql:=T.ps.lt;have hpl:=T.le;refine wC (cj T.Fi.wf T.ps) ?_;rintro r A5 ⟨rfl,o5⟩;replace T:=T.quiet o5;obtain⟨c1,c2⟩:=o5.k2 c1 c2;replace N:=N.k o5;have m5:=o5.aa;refine wD (fun hk=>?_) fun hk=>?_
 ·obtain rfl:b'=false:=hk.1;obtain⟨hpq',hes',hall⟩:=hx rfl;refine gO ?_;have hv:=N.bh;refine cE rfl ?_;refine rD ?_;refine zL c2 ?_;refine eR ?_;refine aC ?_;refine zC rfl (hC T.Fi.wf T.ps om h0 h13 fun z=>h12 (az T.bad z)) ?_;rintro r A6 ⟨u6,ku6,q6,b6,rfl,N6,t6,l6,x6⟩;replace T:=T.then t6;obtain⟨c1,c2⟩:=t6.Fi.k2 c1 c2;replace N:=N.k t6.Fi;have m6:=t6.Fi.aa;have le6:=t6.le;replace N6:=N6.q (S':=s1 A1.aa f2);refine sA ?_;refine aC ?_;refine zC rfl (bf (S:=s1 A1.aa f2) T.Fi.wf N N6 nA (by rw[mj];show es.length<9000;omega)) ?_;rintro r A7 ⟨kv7,rfl,N7,o7⟩;replace T:=T.quiet o7;obtain⟨c1,c2⟩:=o7.k2 c1 c2;have m7:=o7.aa;replace N7:aI A7 (s1 A1.aa f2) ((Nd.app (nd 1 (cur L p).a [] []) es).push u6) kv7:=N7;refine sA ?_;refine aC ?_;refine zS2 (y:=au ((Nd.app (nd 1 (cur L p).a [] []) es).push u6) kv7) T.Fi.wf c2 ?_;intro A8 o8 c2
  replace T:=T.fresh hw h o8 nF;replace c1:=o8.k c1;replace N7:=N7.k o8;have m8:=o8.aa;refine sA ?_;refine aK ?_;clear hv;rw[kK] at c2 N7;refine gO ?_;refine ai ?_;refine yL (pp 0 fp (pp 2 f1 (pp 3 f2 .nil))) ?_;refine ih (q6,b6,es++[u6],kv7) A8 ?_ ⟨T,c1,c2,N7,by simp only[lA,lS];omega,om,fun z=>?_⟩
  ·have hb:=x6;cases b6
   ·have:=(hb rfl).1;simp only[Bool.false_eq_true,if_false];omega
   ·simp only[Bool.false_eq_true,if_true,if_false];omega
  ·have:=(x6 z).1;exact⟨by simp only;omega,by simp only[lA,lS];omega,fun e he=>(List.mem_append.1 he).elim (hall e) fun h=>by cases List.mem_singleton.1 h;exact (x6 z).2⟩
 refine wX ?_;refine zC rfl (cJ T.Fi.wf T.ps) ?_;rintro r A6 ⟨rfl,o6⟩;replace T:=T.quiet o6;obtain⟨c1,c2⟩:=o6.k2 c1 c2;replace N:=N.k o6;refine gO ?_;refine dx rfl rfl rfl ?_;refine wD (fun hk=>?_) fun hk=>?_
 ·refine wC (iq T.Fi.wf T.ps) ?_;rintro r A7 ⟨rfl,t7⟩;replace T:=T.then t7;obtain⟨c1,c2⟩:=t7.Fi.k2 c1 c2;replace N:=N.k t7.Fi;refine wL c2 ?_;refine zS c1 ?_;have oR:=ac.put (x:=.cells 0 false 6 (au (Nd.app (nd 1 (cur L p).a [] []) es) kv)) T.Fi.wf (T.Fi.wf _ _ c1);refine gO ?_;refine zR ?_;refine⟨(Nd.app (nd 1 (cur L p).a [] []) es),kv,q,true,rfl,?_,T.fresh hw h oR nF,(by rw[mj];show es.length≤8200;omega),?_⟩
  ·exact ((N.q (S':=s0 A1.aa)).k oR).q
  ·exact fun z=>by cases z
 refine wL c2 ?_;refine zS c1 ?_;have oR:=ac.put (x:=.cells 0 false 6 (au (Nd.app (nd 1 (cur L p).a [] []) es) kv)) T.Fi.wf (T.Fi.wf _ _ c1);refine gO ?_;refine zR ?_;refine⟨(Nd.app (nd 1 (cur L p).a [] []) es),kv,q,b',rfl,?_,T.fresh hw h oR nF,(by rw[mj];show es.length≤8200;omega),?_⟩
 ·exact ((N.q (S':=s0 A1.aa)).k oR).q
 ·exact fun z=>.mk (hx z).2.2
end Go.Proofs.YtafamggbkobcfaaGreat.Ae
