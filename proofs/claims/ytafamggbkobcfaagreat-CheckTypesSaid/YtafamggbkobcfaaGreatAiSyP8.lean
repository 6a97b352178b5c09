/- A part of the proof of the statement CheckTypes. -/
import Derived.Test.YtafamggbkobcfaaGreatAiSyP5
namespace Go.Proofs.YtafamggbkobcfaaGreat.Ae
open Go.AE
set_option linter.unusedVariables false
set_option maxRecDepth 100000
theorem az{x y:Bool}(h:x=true→y=true)(z:y=false): x=false:=by
 cases x
 ·rfl
 ·rw[h rfl] at z;cases z
theorem aI.cB{A:AW}{S:Nat→Prop}{t:Nd}(h:t.l=[]): aI A S t .aj:=.mk (cs:=[]) (.inl ⟨.inl rfl,by rw[h];rfl,rfl⟩) (fun g h=>h.elim) (by rw[h];exact Nat.zero_le _) (by rw[h];exact .nil)
set_option maxHeartbeats 4000000 in
theorem tN{K:FuncId}{n:Nat}(hE:jS Ex K 16 n): jS Ex K 127 n:=by
 intro A fp lv L p dp b hw h hn h0 h13 h12;refine ap rfl rfl rfl ?_;refine gO ?_;refine zA (n:=6) (y:=au dL .aj) hw ?_;intro A1 o1 c1;have nf1:A.aa≠fp:=by
  have:=(h.fg hw).1;omega
 have l1:A.aa≤A.aa:=Nat.le_refl _;have m1:=o1.wf _ _ c1;generalize hf1:A.aa=f1 at c1 nf1 m1 l1;have T:=(PT.refl hw h).quiet o1;refine wC (bn T.Fi.wf T.ps) ?_;rintro r A2 ⟨rfl,q2,b2,t2,g2⟩;replace T:=T.then t2;replace c1:=t2.Fi.k c1;have m2:=t2.Fi.aa;have le2:=t2.le;refine wC (hE T.Fi.wf T.ps om h0 h13 fun z=>h12 (az T.bad z)) ?_;rintro r A3 ⟨u3,ku3,q3,b3,rfl,N3,t3,l3,x3⟩;replace T:=T.then t3;replace c1:=t3.Fi.k c1;replace N3:=N3.q (S':=s0 A1.aa);refine gO ?_;refine zM (n:=6) (y:=au u3 ku3) T.Fi.wf ?_;intro A4 o4 c2;have w3:=T.Fi.wf;have nf2:A3.aa≠fp:=by
  have:=(h.fg hw).1;have:=T.Fi.aa;omega
 generalize hf2:A3.aa=f2 at c2 nf2;replace N3:=N3.mono (S':=s1 A1.aa f2) fun g hg ⟨F,hF⟩=>by
  have:=w3 g F hF;exact⟨om,om⟩
 replace T:=T.quiet o4;replace c1:=o4.k c1;replace N3:=N3.k o4;refine wC (bn T.Fi.wf T.ps) ?_;rintro r A5 ⟨rfl,q5,b5,t5,g5⟩;replace T:=T.then t5;obtain⟨c1,c2⟩:=t5.Fi.k2 c1 c2;replace N3:=N3.k t5.Fi;refine wL c2 ?_;refine zS c1 ?_;have oR:=ac.put (x:=.cells 0 false 6 (au u3 ku3)) T.Fi.wf (T.Fi.wf _ _ c1);refine gO ?_;refine zR ?_;refine⟨u3,ku3,q5,b5,rfl,?_,T.fresh hw h oR nF,l3,?_⟩
 ·exact ((N3.q (S':=s0 A1.aa)).k oR).q
 ·exact fun z=>by
   have w_g5:=g5 z;replace z:=az t5.bad z;have w_x3:=x3 z;replace z:=az t3.bad z;have w_g2:=g2 z;exact⟨om,w_x3.2⟩
set_option maxHeartbeats 4000000 in
theorem BW{K:FuncId}{n:Nat}(hP:jS Ex K 120 n)(hS:∀{A:AW} {fp:Nat} {lv:AV} {L:List Tk} {p:Nat} {dp:Int} {b:Bool},Wf A→PS A fp lv L p dp b→L.length-p<n→0≤dp→dp≤13→(b=false→dp≤12)→
 aD (ES K) 99 [.ptr fp 0 0] A fun r A1=>EPost Ex A A1 fp lv L p dp b r) : jS Ex K 99 n:=by
 intro A fp lv L p dp b hw h hn h0 h13 h12;refine ap rfl rfl rfl ?_;have hlen:=h.ok.len;refine gO ?_;refine aq rfl rfl rfl ?_;refine bG (fun A1=>ac A A1 ag∧A1.heap.get A.aa=some (.cells 0 false 6 (au dL .aj))) ⟨ac.add hw _,by rw[AW.add_get,iP rfl];rfl⟩ ?_;rintro A1 ⟨o1,c1⟩;have nf1:A.aa≠fp:=by
  have:=(h.fg hw).1;omega
 have l1:A.aa≤A.aa:=Nat.le_refl _;have m1:=o1.wf _ _ c1;generalize hf1:A.aa=f1 at c1 nf1 m1 l1;have T:=(PT.refl hw h).quiet o1;refine wC (cJ T.Fi.wf T.ps) ?_;rintro r A2 ⟨rfl,o2⟩;replace T:=T.quiet o2;replace c1:=o2.k c1;have m2:=o2.aa;refine gO ?_;refine zM (n:=5) (y:=fT (cur L p)) T.Fi.wf ?_;intro A3 o3 c2;have nf2:A2.aa≠fp:=by
  have:=(h.fg hw).1;have:=T.Fi.aa;omega
 generalize hf2:A2.aa=f2 at c2 nf2;replace T:=T.quiet o3;replace c1:=o3.k c1;have xc2:=T.Fi.wf _ _ c2;refine oP ?_;refine sQ ?_;refine ce (fun l1 A4=>∃x,(pp 0 fp (pp 2 f1 (pp 3 f2 (pb 14 x .nil)))).le l1∧(x=false→b=false∧(cur L p).k≠6)∧ac A3 A4 ag) ?_ ?_
 ·intro k' hk';refine wC (cj T.Fi.wf T.ps) ?_;rintro r A4 ⟨rfl,o4⟩;refine gO ?_;by_cases i1:np b (cur L p) [45]
  ·obtain⟨e1,e2,e3⟩:=iU i1;refine aF 10 false rfl (congrArg not (yT i1)) ?_;refine gO ?_;exact hk' _ _ ⟨false,⟨rfl,rfl,rfl,rfl,trivial⟩,fun _=>⟨e1,e2⟩,o4⟩
  refine aF 10 true rfl (congrArg not (yF i1)) ?_;refine wC (cj o4.wf (T.ps.quiet o4)) ?_;rintro r A5 ⟨rfl,o5⟩;refine gO ?_;refine hk' _ _ ⟨!decide (np b (cur L p) [126]),⟨rfl,rfl,rfl,rfl,trivial⟩,fun hi=>?_,o4.same o5⟩;have hi:np b (cur L p) [126]:=by simpa using hi
  obtain⟨e1,e2,e3⟩:=iU hi;exact⟨e1,e2⟩
 rintro l1 A4 ⟨x,hle,hi,o4⟩;refine bY _ ?_ hle;replace T:=T.quiet o4;obtain⟨c1,c2⟩:=o4.k2 c1 c2;have m4:=o4.aa;cases x with
 | true=>
  refine rU ?_;have hpq:=T.le;refine zC rfl (hP T.Fi.wf T.ps om h0 h13 fun z=>h12 (az T.bad z)) ?_;rintro r A5 ⟨u5,ku5,q5,b5,rfl,N5,t5,l5,x5⟩;replace T:=T.then t5;obtain⟨c1,c2⟩:=t5.Fi.k2 c1 c2;have m5:=t5.Fi.aa;have le5:=t5.le;replace N5:=N5.q (S':=s1 A1.aa f2);refine gO ?_;refine zS c1 ?_;have oR:=ac.put (x:=.cells 0 false 6 (au u5 ku5)) T.Fi.wf (T.Fi.wf _ _ c1);refine gO ?_;refine zR ?_;refine⟨u5,ku5,q5,b5,rfl,?_,T.fresh hw h oR nF,l5,?_⟩
  ·exact ((N5.q (S':=s0 A1.aa)).k oR).q
  ·exact fun z=>by
    have w_x5:=x5 z;replace z:=az t5.bad z;exact⟨om,w_x5.2⟩
 | false=>
  obtain⟨hb,i6⟩:=hi rfl;have hd12:=h12 hb;have hq1:=T.ps.next i6;have hc:=T.ps.cell;refine rU ?_;refine wP ?_;refine zS hc ?_;refine bG (fun A5=>PT A4 A5 fp lv L p dp b (p+1) b) (PT.put T.Fi.wf T.ps (q:=p+1) hq1 (Nat.le_succ _) fun h=>h) ?_;intro A5 t5;clear hc;replace T:=T.then t5;obtain⟨c1,c2⟩:=t5.Fi.k2 c1 c2;have m5:=t5.Fi.aa;refine wC (gv T.Fi.wf T.ps h0 om) ?_;rintro r A6 ⟨rfl,b6,s6,o6,z6,y6⟩;replace T:PT A A6 fp lv L p (dp+1) b (p+1) b6:=⟨s6,T.Fi.same o6,T.le,fun h=>z6 (T.bad h)⟩;obtain⟨c1,c2⟩:=o6.k2 c1 c2;have m6:=o6.aa;refine wC (hS T.Fi.wf T.ps om om om fun z=>y6 (az (fun h=>h) z)) ?_;rintro r A7 ⟨u7,ku7,q7,b7,rfl,N7,t7,l7,x7⟩;replace T:=T.then t7;obtain⟨c1,c2⟩:=t7.Fi.k2 c1 c2;have m7:=t7.Fi.aa;replace N7:=N7.q (S':=s1 A1.aa f2);refine gO ?_;refine zM (n:=6) (y:=au u7 ku7) T.Fi.wf ?_;intro A8 o8 c3;have w7:=T.Fi.wf;have nf3:A7.aa≠fp:=by
   have:=(h.fg hw).1;have:=T.Fi.aa;omega
  generalize hf3:A7.aa=f3 at c3 nf3;replace N7:=N7.mono (S':=s2 A1.aa f2 f3) fun g hg ⟨F,hF⟩=>by
   have:=w7 g F hF;exact⟨om,om,om⟩
  replace T:=T.quiet o8;obtain⟨c1,c2⟩:=o8.k2 c1 c2;replace N7:=N7.k o8;have xc3:=T.Fi.wf _ _ c3;refine wC (kd T.Fi.wf T.ps h0 om) ?_;rintro r A9 ⟨rfl,s9,o9⟩;replace T:PT A A9 fp lv L p dp b q7 b7:=⟨s9,T.Fi.same o9,T.le,T.bad⟩;obtain⟨c1,c2,c3⟩:=o9.k3 c1 c2 c3;replace N7:=N7.k o9;have m9:=o9.aa;refine wL c3 ?_;refine zC rfl (bf (S:=s2 A1.aa f2 f3) T.Fi.wf (aI.leaf (k:=35) (a:=(cur L p).a) (s:=(cur L p).s) (i:=0) (x:=(0,0))) N7 nA dE) ?_;rintro r A10 ⟨kv10,rfl,N10,o10⟩;replace T:=T.quiet o10;replace c1:=o10.k c1;replace N10:aI A10 (s2 A1.aa f2 f3) (nd 35 (cur L p).a (cur L p).s [u7]) kv10:=N10;refine gO ?_;refine zS c1 ?_;have oR:=ac.put (x:=.cells 0 false 6 (au (nd 35 (cur L p).a (cur L p).s [u7]) kv10)) T.Fi.wf (T.Fi.wf _ _ c1);refine gO ?_;refine zR ?_;refine⟨(nd 35 (cur L p).a (cur L p).s [u7]),kv10,q7,b7,rfl,?_,T.fresh hw h oR nF,dE,?_⟩
  ·exact ((N10.q (S':=s0 A1.aa)).k oR).q
  ·exact fun z=>by
    have w_x7:=x7 z;exact⟨om,.one (.inr (.inr (.inr rfl))) w_x7.2⟩
def Nd.app:Nd→List Nd→Nd
 | .mk k a s i x l,es=>.mk k a s i x (l++es)
theorem mj(t:Nd)(es:List Nd): (t.app es).l=t.l++es:=by cases t;rfl
theorem AP(t:Nd): t.app []=t:=by
 cases t;show Nd.mk _ _ _ _ _ (_++[])=_;rw[aN]
theorem kK(t u:Nd)(es:List Nd): (t.app es).push u=t.app (es++[u]):=by
 cases t;show Nd.mk _ _ _ _ _ ((_++es)++[u])=Nd.mk _ _ _ _ _ (_++(es++[u]));rw[aA]
def AFn(K:FuncId)(n:Nat): Prop:=∀{A:AW} {fp:Nat} {lv:AV} {L:List Tk} {p:Nat} {dp:Int} {b:Bool} {t:Nd} {kv:AV} {S0:Nat→Prop},Wf A→PS A fp lv L p dp b→L.length-p≤n→0≤dp→dp≤12→(b=false→dp≤12)→aI A S0 t kv→(∀g,A.aa≤g→S0 g)→¬S0 fp→t.l.length≤10→
 aD (ES K) 131 [.ptr fp 0 0,.agg (au t kv)] A fun r A1=>∃es kv' q b1,r=.agg (au (t.app es) kv')∧aI A1 S0 (t.app es) kv'∧PT A A1 fp lv L p dp b q b1∧es.length≤8110∧(b1=false→p<q∧∀e∈es,Ex e)
set_option maxHeartbeats 8000000 in
theorem BZ{K:FuncId}{n:Nat}(hE:jS Ex K 16 n): AFn K n:=by
 intro A fp lv L p dp b t kv S0 hw h hn h0 h13 h12 N hS0 hfp htl;refine ap rfl rfl rfl ?_;have hlen:=h.ok.len;have hfpn:=(h.fg hw).1;refine gO ?_;refine zB (n:=6) (y:=au t kv) hw ?_;intro A1 o1 c2;have nf2:A.aa≠fp:=om;generalize hf2:A.aa=f2 at c2 nf2;have xc2:=o1.wf _ _ c2;have T:=(PT.refl hw h).quiet o1;replace N:=(N.mono (S':=fun g=>S0 g∧g≠f2) fun g hg ⟨F,hF⟩=>⟨hg,by have:=hw g F hF;omega⟩).ae o1 fun _ _ h=>h;refine zA (n:=6) (y:=au dL .aj) o1.wf ?_;intro A2 o2 c1;have nf1:A1.aa≠fp:=om;replace c2:=o2.k c2;have w1:=o1.wf;generalize hf1:A1.aa=f1 at c1 nf1;have xc1:=o2.wf _ _ c1;replace T:=T.quiet o2;replace N:=(N.mono (S':=fun g=>S0 g∧g≠f2∧g≠f1) fun g hg ⟨F,hF⟩=>⟨hg.1,hg.2,by have:=w1 g F hF;omega⟩).ae o2 fun _ _ h=>h;refine wC (bz T.Fi.wf T.ps) ?_;rintro r A3 (⟨rfl,i3,t3⟩|⟨rfl,i3,t3⟩)
 ·replace T:=T.then t3;obtain⟨c2,c1⟩:=t3.Fi.k2 c2 c1;replace N:=N.ae t3.Fi fun g hg e=>by cases e;exact hfp hg.1
  rw[←AP t] at c2 N;refine rU ?_;refine zL c2 ?_;refine zS c1 ?_;have oR:=ac.put (x:=.cells 0 false 6 (au (t.app []) kv)) T.Fi.wf (T.Fi.wf _ _ c1);refine gO ?_;refine zR ?_;refine⟨[],kv,(p+1),b,rfl,?_,T.fresh hw h oR nF,Nat.zero_le _,?_⟩
  ·exact ((N.ae oR fun g hg e=>by cases e;omega).mono fun g hg _=>hg.1)
  ·exact fun z=>⟨om,fun e he=>absurd he (List.not_mem_nil)⟩
 replace T:=T.then t3;obtain⟨c2,c1⟩:=t3.Fi.k2 c2 c1;replace N:=N.ae t3.Fi fun g hg e=>by cases e;exact hfp hg.1
 have m3:=t3.Fi.aa;refine rU ?_;refine zC rfl (gv T.Fi.wf T.ps h0 om) ?_;rintro r A4 ⟨rfl,b4,s4,o4,z4,y4⟩;replace T:PT A A4 fp lv L p (dp+1) b p b4:=⟨s4,T.Fi.same o4,T.le,fun h=>z4 (T.bad h)⟩;obtain⟨c2,c1⟩:=o4.k2 c2 c1;replace N:=N.ae o4 fun g hg e=>by cases e;exact hfp hg.1
 have m4:=o4.aa;refine gO ?_;have hv:=N.bh;refine cE rfl ?_;refine rD ?_;refine zL c2 ?_;refine eR ?_;refine aC ?_;refine zC rfl (hE T.Fi.wf T.ps om om om fun z=>y4 (az (fun h=>h) z)) ?_;rintro r A5 ⟨u5,ku5,q5,b5,rfl,N5,t5,l5,x5⟩;replace T:=T.then t5;obtain⟨c2,c1⟩:=t5.Fi.k2 c2 c1;replace N:=N.ae t5.Fi fun g hg e=>by cases e;exact hfp hg.1
 have m5:=t5.Fi.aa;replace N5:=N5.mono (S':=fun g=>S0 g∧g≠f2∧g≠f1) fun g hg _=>⟨hS0 g om,om,om⟩;refine sA ?_;refine aC ?_;refine zC rfl (bf (S:=fun g=>S0 g∧g≠f2∧g≠f1) T.Fi.wf N N5 (fun g hg=>⟨hS0 g om,om,om⟩) om) ?_;rintro r A6 ⟨kv6,rfl,N6,o6⟩;replace T:=T.quiet o6;obtain⟨c2,c1⟩:=o6.k2 c2 c1;have m6:=o6.aa;replace N6:aI A6 (fun g=>S0 g∧g≠f2∧g≠f1) (t.push u5) kv6:=N6;refine sA ?_;refine aC ?_;refine zS2 (y:=au (t.push u5) kv6) T.Fi.wf c2 ?_;intro A7 o7 c2;replace T:=T.fresh hw h o7 nF;replace c1:=o7.k c1;replace N6:=N6.k o7;have m7:=o7.aa;refine sA ?_;refine aK ?_;clear hv;have hp0:t.push u5=t.app [u5]:=by
  have:=kK t u5 [];rw[AP] at this;exact this
 rw[hp0] at c2 N6;refine gO ?_;refine aE ?_;refine yL (pp 0 fp (pp 3 f2 (pp 4 f1 .nil))) ?_;refine aV (ι:=Nat×Bool×List Nd×AV) (fun i=>L.length-i.1) (fun i=>pp 0 fp (pp 3 f2 (pp 4 f1 .nil)))
  (fun i B=>PT A B fp lv L p (dp+1) b i.1 i.2.1∧gt B f1 6 (au dL .aj)∧gt B f2 6 (au (t.app i.2.2.1) i.2.2.2)∧aI B (fun g=>S0 g∧g≠f2∧g≠f1) (t.app i.2.2.1) i.2.2.2∧i.2.2.1.length≤1+(i.1-p)∧A7.aa≤B.aa∧(i.2.1=false→p<i.1∧(dp+1≤12∧∀e∈i.2.2.1,Ex e))) ?_
  (q5,b5,[u5],kv6) A7 ⟨T,c1,c2,N6,by show 1≤_;omega,Nat.le_refl _,?_⟩
 rotate_left
 ·exact fun z=>by
   have z0:=z;have w_x5:=x5 z;replace z:=az t5.bad z;replace z:=az z4 z;exact⟨om,by have:=y4 (az t5.bad z0);omega,fun e he=>by cases List.mem_singleton.1 he;exact w_x5.2⟩
 clear N6 c1 c2 T;rintro ⟨q,b',es,kv'⟩ A8 ⟨T,c1,c2,N,hes,mm,hx⟩ ih;replace T:PT A A8 fp lv L p (dp+1) b q b':=T;replace c2:gt A8 f2 6 (au (t.app es) kv'):=c2;replace N:aI A8 (fun g=>S0 g∧g≠f2∧g≠f1) (t.app es) kv':=N;replace hes:es.length≤1+(q-p):=hes;replace hx:b'=false→p<q∧(dp+1≤12∧∀e∈es,Ex e):=hx;have hql:=T.ps.lt;have hpl:=T.le;refine wC (bz T.Fi.wf T.ps) ?_;rintro r A9 (⟨rfl,i9,t9⟩|⟨rfl,i9,t9⟩)
 ·replace T:=T.then t9;obtain⟨c2,c1⟩:=t9.Fi.k2 c2 c1;replace N:=N.ae t9.Fi fun g hg e=>by cases e;exact hfp hg.1
  have m9:=t9.Fi.aa;refine rU ?_;have hv:=N.bh;refine cE rfl ?_;refine rD ?_;refine zL c2 ?_;refine eR ?_;refine aC ?_;refine zC rfl (hE T.Fi.wf T.ps om om (by have:=(hx i9.1).2.1;omega) fun z=>(hx i9.1).2.1) ?_;rintro r A10 ⟨u10,ku10,q10,b10,rfl,N10,t10,l10,x10⟩;replace T:=T.then t10;obtain⟨c2,c1⟩:=t10.Fi.k2 c2 c1;replace N:=N.ae t10.Fi fun g hg e=>by cases e;exact hfp hg.1
  have m10:=t10.Fi.aa;have le10:=t10.le;replace N10:=N10.mono (S':=fun g=>S0 g∧g≠f2∧g≠f1) fun g hg _=>⟨hS0 g om,om,om⟩;refine sA ?_;refine aC ?_;refine zC rfl (bf (S:=fun g=>S0 g∧g≠f2∧g≠f1) T.Fi.wf N N10 (fun g hg=>⟨hS0 g om,om,om⟩) (by rw[mj,lA];omega)) ?_;rintro r A11 ⟨kv11,rfl,N11,o11⟩;replace T:=T.quiet o11;obtain⟨c2,c1⟩:=o11.k2 c2 c1;have m11:=o11.aa;replace N11:aI A11 (fun g=>S0 g∧g≠f2∧g≠f1) ((t.app es).push u10) kv11:=N11;refine sA ?_;refine aC ?_;refine zS2 (y:=au ((t.app es).push u10) kv11) T.Fi.wf c2 ?_;intro A12 o12 c2;replace T:=T.fresh hw h o12 nF;replace c1:=o12.k c1;replace N11:=N11.k o12;have m12:=o12.aa;refine sA ?_;refine aK ?_;clear hv;rw[kK] at c2 N11;refine gO ?_;refine ai ?_;refine yL (pp 0 fp (pp 3 f2 (pp 4 f1 .nil))) ?_
  exact ih (q10,b10,es++[u10],kv11) A12 (by simp only;omega) ⟨T,c1,c2,N11,by simp only[lA,lS];omega,om,fun z=>⟨by have:=(x10 z).1;simp only;omega,(hx i9.1).2.1,fun e he=>(List.mem_append.1 he).elim ((hx i9.1).2.2 e) fun h=>by cases List.mem_singleton.1 h;exact (x10 z).2⟩⟩
 replace T:=T.then t9;obtain⟨c2,c1⟩:=t9.Fi.k2 c2 c1;replace N:=N.ae t9.Fi fun g hg e=>by cases e;exact hfp hg.1
 refine rU ?_;refine ay rfl ?_;refine wC (kd T.Fi.wf T.ps h0 om) ?_;rintro r A10 ⟨rfl,s10,o10⟩;replace T:PT A A10 fp lv L p dp b q b':=⟨s10,T.Fi.same o10,T.le,T.bad⟩;obtain⟨c2,c1⟩:=o10.k2 c2 c1;replace N:=N.ae o10 fun g hg e=>by cases e;exact hfp hg.1
 refine gO ?_;refine cY rfl rfl bF rfl (bn T.Fi.wf T.ps) ?_;rintro r A11 ⟨rfl,q11,b11,t11,g11⟩;replace T:=T.then t11;replace c2:=t11.Fi.ae _ _ c2 nf2;replace c1:=t11.Fi.ae _ _ c1 nf1;replace N:=N.ae t11.Fi fun g hg e=>by cases e;exact hfp hg.1
 refine wL c2 ?_;refine zS c1 ?_;have oR:=ac.put (x:=.cells 0 false 6 (au (t.app es) kv')) T.Fi.wf (T.Fi.wf _ _ c1);refine gO ?_;refine zR ?_;refine⟨es,kv',q11,b11,rfl,?_,T.fresh hw h oR nF,om,?_⟩
 ·exact ((N.ae oR fun g hg e=>by cases e;omega).mono fun g hg _=>hg.1)
 ·exact fun z=>by
   have w_g11:=g11 z;replace z:=az t11.bad z;have hpz:=(hx z).1;exact⟨om,(hx z).2.2⟩
theorem aI.kids{A:AW}{S:Nat→Prop}{t u:Nd}{kv:AV}(h:aI A S t kv)(e:u.l=t.l): aI A S u kv:=by
 cases h with
 | mk h1 h2 h3 h4=>exact .mk (cs:=_) (by rw[e];exact h1) h2 (by rw[e];exact h3) (by rw[e];exact h4)
set_option maxHeartbeats 16000000 in
theorem Ca{K:FuncId}{m:Nat}(hPr:jS Ex K 130 (m+1))(hE:jS Ex K 16 m)(hA:AFn K m): jS Ex K 120 (m+1):=by
 intro A fp lv L p dp b hw h hn h0 h13 h12;refine ap rfl rfl rfl ?_;refine gO ?_;refine zA (n:=6) (y:=au dL .aj) hw ?_;intro A1 o1 c1;have nf1:A.aa≠fp:=by
  have:=(h.fg hw).1;omega
 have l1:A.aa≤A.aa:=Nat.le_refl _;have m1:=o1.wf _ _ c1;generalize hf1:A.aa=f1 at c1 nf1 m1 l1;have T:=(PT.refl hw h).quiet o1;refine wC (hPr T.Fi.wf T.ps om h0 h13 fun z=>h12 (az T.bad z)) ?_;rintro r A2 ⟨u2,ku2,q2,b2,rfl,N2,t2,l2,x2⟩;replace T:=T.then t2;replace c1:=t2.Fi.k c1;have m2:=t2.Fi.aa;replace N2:=N2.q (S':=s0 A1.aa);refine gO ?_;refine zM (n:=6) (y:=au u2 ku2) T.Fi.wf ?_;intro A3 o3 c2;have w2:=T.Fi.wf;have nf2:A2.aa≠fp:=by
  have:=(h.fg hw).1;have:=T.Fi.aa;omega
 generalize hf2:A2.aa=f2 at c2 nf2;replace N2:=N2.mono (S':=s1 A1.aa f2) fun g hg ⟨F,hF⟩=>by
  have:=w2 g F hF;exact⟨om,om⟩
 replace T:=T.quiet o3;replace c1:=o3.k c1;replace N2:=N2.k o3;have xc2:=T.Fi.wf _ _ c2;refine gO ?_;refine aE ?_;refine yL (pp 0 fp (pp 2 f1 (pp 3 f2 .nil))) ?_;refine aV (ι:=Nat×Bool×Nd×AV) (fun i=>L.length-i.1) (fun i=>(pp 0 fp (pp 2 f1 (pp 3 f2 .nil))))
  (fun i B=>PT A B fp lv L p dp b i.1 i.2.1∧gt B f1 6 (au dL .aj)∧gt B f2 6 (au i.2.2.1 i.2.2.2)∧aI B (s1 A1.aa f2) i.2.2.1 i.2.2.2∧i.2.2.1.l.length≤8200∧A3.aa≤B.aa∧(i.2.1=false→p<i.1∧Ex i.2.2.1)) ?_
  (q2,b2,u2,ku2) A3 ⟨T,c1,c2,N2,l2,Nat.le_refl _,x2⟩
 clear N2 c1 c2 T;rintro ⟨q,b',t,kv⟩ A4 ⟨T,c1,c2,N,hl,mm,hx⟩ ih;replace T:PT A A4 fp lv L p dp b q b':=T;replace c2:gt A4 f2 6 (au t kv):=c2;replace N:aI A4 (s1 A1.aa f2) t kv:=N;replace hl:t.l.length≤8200:=hl;replace hx:b'=false→p<q∧Ex t:=hx;have hql:=T.ps.lt;have hc:=T.ps.cell;cases b' with
 | true=>
  refine rU ?_;refine ay rfl ?_;refine wL c2 ?_;refine zS c1 ?_;have oR:=ac.put (x:=.cells 0 false 6 (au t kv)) T.Fi.wf (T.Fi.wf _ _ c1);refine gO ?_;refine zR ?_;refine⟨t,kv,q,true,rfl,?_,T.fresh hw h oR nF,hl,?_⟩
  ·exact ((N.q (S':=s0 A1.aa)).k oR).q
  ·exact fun z=>by cases z
 | false=>
  obtain⟨hpq',hx⟩:=hx rfl;have hd12:=h12 (az T.bad rfl);refine rU ?_;clear hc;refine wC (cJ T.Fi.wf T.ps) ?_;rintro r A5 ⟨rfl,o5⟩;replace T:=T.quiet o5;obtain⟨c1,c2⟩:=o5.k2 c1 c2;replace N:=N.k o5;have m5:=o5.aa;refine gO ?_;refine zM (n:=5) (y:=fT (cur L q)) T.Fi.wf ?_;intro A6 o6 c3;have w5:=T.Fi.wf;have nf3:A5.aa≠fp:=by
   have:=(h.fg hw).1;have:=T.Fi.aa;omega
  generalize hf3:A5.aa=f3 at c3 nf3;replace N:=N.mono (S':=s2 A1.aa f2 f3) fun g hg ⟨F,hF⟩=>by
   have:=w5 g F hF;exact⟨om,om,om⟩
  replace T:=T.quiet o6;obtain⟨c1,c2⟩:=o6.k2 c1 c2;replace N:=N.k o6;have xc3:=T.Fi.wf _ _ c3;refine wC (bz T.Fi.wf T.ps) ?_;rintro r A7 (⟨rfl,i7,t7⟩|⟨rfl,i7,t7⟩)
  ·replace T:=T.then t7;obtain⟨c1,c2,c3⟩:=t7.Fi.k3 c1 c2 c3;replace N:=N.k t7.Fi;have m7:=t7.Fi.aa;refine rU ?_;refine tD ?_;refine bW rfl rfl rfl rfl ?_;refine zA (n:=6) (y:=au dL .aj) T.Fi.wf ?_;intro A8 o8 c4;have w7:=T.Fi.wf;have nf4:A7.aa≠fp:=by
    have:=(h.fg hw).1;have:=T.Fi.aa;omega
   generalize hf4:A7.aa=f4 at c4 nf4;replace N:=N.mono (S':=s3 A1.aa f2 f3 f4) fun g hg ⟨F,hF⟩=>by
    have:=w7 g F hF;exact⟨om,om,om,om⟩
   replace T:=T.quiet o8;obtain⟨c1,c2,c3⟩:=o8.k3 c1 c2 c3;replace N:=N.k o8;have xc4:=T.Fi.wf _ _ c4;refine oP ?_;refine aC ?_;refine zC rfl (dK T.Fi.wf T.ps) ?_;rintro r A9 ⟨s9,q9,b9,rfl,t9,g9⟩;replace T:=T.then t9;obtain⟨c1,c2,c3,c4⟩:=t9.Fi.k4 c1 c2 c3 c4;replace N:=N.k t9.Fi;have m9:=t9.Fi.aa;have le9:=t9.le;refine sA ?_;refine aC ?_;refine zS2 (y:=au (nd 28 (cur L q).a s9 []) .aj) T.Fi.wf c4 ?_;intro A10 o10 c4;replace T:=T.fresh hw h o10 nF;obtain⟨c1,c2⟩:=o10.k2 c1 c2;replace N:=N.k o10;have m10:=o10.aa;refine sA ?_;refine eD ?_;refine wL c4 ?_;refine wL c2 ?_;refine zC rfl (bf (S:=s3 A1.aa f2 f3 f4) T.Fi.wf (aI.leaf (k:=28) (a:=(cur L q).a) (s:=s9) (i:=0) (x:=(0,0))) N nA dE) ?_;rintro r A11 ⟨kv11,rfl,N11,o11⟩;replace T:=T.quiet o11;obtain⟨c1,c2,c4⟩:=o11.k3 c1 c2 c4;have m11:=o11.aa
   replace N11:aI A11 (s3 A1.aa f2 f3 f4) (nd 28 (cur L q).a s9 [t]) kv11:=N11;refine oP ?_;refine zS2 (y:=au (nd 28 (cur L q).a s9 [t]) kv11) T.Fi.wf c4 ?_;intro A12 o12 c4;replace T:=T.fresh hw h o12 nF;obtain⟨c1,c2⟩:=o12.k2 c1 c2;replace N11:=N11.k o12;have m12:=o12.aa;refine wC (bz T.Fi.wf T.ps) ?_;rintro r A13 (⟨rfl,i13,t13⟩|⟨rfl,i13,t13⟩)
   ·replace T:=T.then t13;obtain⟨c1,c2,c4⟩:=t13.Fi.k3 c1 c2 c4;replace N11:=N11.k t13.Fi;have m13:=t13.Fi.aa;refine rU ?_;refine zS2 (y:=au (nd 29 (cur L q).a s9 [t]) kv11) T.Fi.wf c4 ?_;intro A14 o14 c4;replace T:=T.fresh hw h o14 nF;obtain⟨c1,c2⟩:=o14.k2 c1 c2;replace N11:=N11.k o14;have m14:=o14.aa;replace N11:aI A14 (s3 A1.aa f2 f3 f4) (nd 29 (cur L q).a s9 [t]) kv11:=N11.kids rfl;refine wL c4 ?_;have hpq:=T.le;refine zC rfl (hA (S0:=s3 A1.aa f2 f3 f4) T.Fi.wf T.ps om h0 hd12 (fun _=>hd12) N11 nA (fun hg=>by have:=(h.fg hw).1;omega) dE) ?_;rintro r A15 ⟨es,kva,q15,b15,rfl,M,t15,l15,x15⟩;replace T:=T.then t15;obtain⟨c1,c2,c4⟩:=t15.Fi.k3 c1 c2 c4;have m15:=t15.Fi.aa;have le15:=t15.le;replace M:aI A15 (s3 A1.aa f2 f3 f4) (nd 29 (cur L q).a s9 (t::es)) kva:=M;refine oP ?_;refine zS2 (y:=au (nd 29 (cur L q).a s9 (t::es)) kva) T.Fi.wf c4 ?_;intro A16 o16 c4
    replace T:=T.fresh hw h o16 nF;obtain⟨c1,c2⟩:=o16.k2 c1 c2;replace M:=M.k o16;have m16:=o16.aa;refine wL c4 ?_;refine zS2 (y:=au (nd 29 (cur L q).a s9 (t::es)) kva) T.Fi.wf c2 ?_;intro A17 o17 c2;replace T:=T.fresh hw h o17 nF;replace c1:=o17.k c1;replace M:=M.k o17;have m17:=o17.aa;refine gO ?_;refine ai ?_;refine yL (pp 0 fp (pp 2 f1 (pp 3 f2 .nil))) ?_;refine ih (q15,b15,(nd 29 (cur L q).a s9 (t::es)),kva) A17 (by simp only;omega) ⟨T,c1,c2,M.mono fun g hg _=>⟨hg.1,hg.2.1⟩,by show es.length+1≤8200;omega,om,?_⟩;exact fun z=>by
     have w_x15:=x15 z;exact⟨by simp only;omega,.call (fun h=>by cases h) (fun e he=>(List.mem_cons.1 he).elim (fun h=>h▸hx) (w_x15.2 e))⟩
   replace T:=T.then t13;obtain⟨c1,c2,c4⟩:=t13.Fi.k3 c1 c2 c4;replace N11:=N11.k t13.Fi;have m13:=t13.Fi.aa;refine rU ?_;refine wL c4 ?_;refine zS2 (y:=au (nd 28 (cur L q).a s9 [t]) kv11) T.Fi.wf c2 ?_;intro A14 o14 c2;replace T:=T.fresh hw h o14 nF;replace c1:=o14.k c1;replace N11:=N11.k o14;have m14:=o14.aa;refine gO ?_;refine ai ?_;refine yL (pp 0 fp (pp 2 f1 (pp 3 f2 .nil))) ?_;refine ih (q9,b9,(nd 28 (cur L q).a s9 [t]),kv11) A14 (by simp only;omega) ⟨T,c1,c2,N11.mono fun g hg _=>⟨hg.1,hg.2.1⟩,by show 1≤8200;decide,om,?_⟩;exact fun z=>by
    have w_g9:=g9 z;exact⟨by simp only;omega,.one (.inl rfl) hx⟩
  replace T:=T.then t7;obtain⟨c1,c2,c3⟩:=t7.Fi.k3 c1 c2 c3;replace N:=N.k t7.Fi;have m7:=t7.Fi.aa;refine rU ?_;refine zC rfl (bz T.Fi.wf T.ps) ?_;rintro r A8 (⟨rfl,i8,t8⟩|⟨rfl,i8,t8⟩)
  ·replace T:=T.then t8;obtain⟨c1,c2,c3⟩:=t8.Fi.k3 c1 c2 c3;replace N:=N.k t8.Fi;have m8:=t8.Fi.aa;refine rU ?_;refine zC rfl (gv T.Fi.wf T.ps h0 om) ?_;rintro r A9 ⟨rfl,b9,s9,o9,z9,y9⟩;replace T:PT A A9 fp lv L p (dp+1) b (q+1) b9:=⟨s9,T.Fi.same o9,T.le,fun h=>z9 (T.bad h)⟩;obtain⟨c1,c2,c3⟩:=o9.k3 c1 c2 c3;replace N:=N.k o9;have m9:=o9.aa;refine wL c2 ?_;refine zC rfl (bf (S:=s2 A1.aa f2 f3) T.Fi.wf (aI.leaf (k:=30) (a:=(cur L q).a) (s:=[]) (i:=0) (x:=(0,0))) N nA dE) ?_;rintro r A10 ⟨kv10,rfl,N10,o10⟩;replace T:=T.quiet o10;obtain⟨c1,c2⟩:=o10.k2 c1 c2;have m10:=o10.aa;replace N10:aI A10 (s2 A1.aa f2 f3) (nd 30 (cur L q).a [] [t]) kv10:=N10;refine oP ?_;refine zM (n:=6) (y:=au (nd 30 (cur L q).a [] [t]) kv10) T.Fi.wf ?_;intro A11 o11 c4;have w10:=T.Fi.wf;have nf4:A10.aa≠fp:=by
    have:=(h.fg hw).1;have:=T.Fi.aa;omega
   generalize hf4:A10.aa=f4 at c4 nf4;replace N10:=N10.mono (S':=s3 A1.aa f2 f3 f4) fun g hg ⟨F,hF⟩=>by
    have:=w10 g F hF;exact⟨om,om,om,om⟩
   replace T:=T.quiet o11;obtain⟨c1,c2⟩:=o11.k2 c1 c2;replace N10:=N10.k o11;have xc4:=T.Fi.wf _ _ c4;refine gO ?_;have hv:=N10.bh;refine cE rfl ?_;refine rD ?_;refine zL c4 ?_;refine eR ?_;refine aC ?_;refine zC rfl (hE T.Fi.wf T.ps om om om fun z=>y9 (az (fun h=>h) z)) ?_;rintro r A12 ⟨u12,ku12,q12,b12,rfl,N12,t12,l12,x12⟩;replace T:=T.then t12;obtain⟨c1,c2,c4⟩:=t12.Fi.k3 c1 c2 c4;replace N10:=N10.k t12.Fi;have m12:=t12.Fi.aa;have le12:=t12.le;replace N12:=N12.q (S':=s3 A1.aa f2 f3 f4);refine sA ?_;refine aC ?_;refine zC rfl (bf (S:=s3 A1.aa f2 f3 f4) T.Fi.wf N10 N12 nA dE) ?_;rintro r A13 ⟨kv13,rfl,N13,o13⟩;replace T:=T.quiet o13;obtain⟨c1,c2⟩:=o13.k2 c1 c2;have m13:=o13.aa;replace N13:aI A13 (s3 A1.aa f2 f3 f4) (nd 30 (cur L q).a [] [t,u12]) kv13:=N13;refine sA ?_;refine aC ?_
   refine zS2 (y:=au (nd 30 (cur L q).a [] [t,u12]) kv13) T.Fi.wf c2 ?_;intro A14 o14 c2;replace T:=T.fresh hw h o14 nF;replace c1:=o14.k c1;replace N13:=N13.k o14;have m14:=o14.aa;refine sA ?_;refine aK ?_;clear hv;refine wC (kd T.Fi.wf T.ps h0 om) ?_;rintro r A15 ⟨rfl,s15,o15⟩;replace T:PT A A15 fp lv L p dp b q12 b12:=⟨s15,T.Fi.same o15,T.le,T.bad⟩;obtain⟨c1,c2⟩:=o15.k2 c1 c2;replace N13:=N13.k o15;have m15:=o15.aa;refine wC (bn T.Fi.wf T.ps) ?_;rintro r A16 ⟨rfl,q16,b16,t16,g16⟩;replace T:=T.then t16;obtain⟨c1,c2⟩:=t16.Fi.k2 c1 c2;replace N13:=N13.k t16.Fi;have m16:=t16.Fi.aa;have le16:=t16.le;refine gO ?_;refine ai ?_;refine yL (pp 0 fp (pp 2 f1 (pp 3 f2 .nil))) ?_;refine ih (q16,b16,(nd 30 (cur L q).a [] [t,u12]),kv13) A16 (by simp only;omega) ⟨T,c1,c2,N13.mono fun g hg _=>⟨hg.1,hg.2.1⟩,by show 2≤8200;decide,om,?_⟩;exact fun z=>by
    have w_g16:=g16 z;replace z:=az t16.bad z;have w_x12:=x12 z;exact⟨by simp only;omega,.idx hx w_x12.2⟩
  replace T:=T.then t8;obtain⟨c1,c2,c3⟩:=t8.Fi.k3 c1 c2 c3;replace N:=N.k t8.Fi;have m8:=t8.Fi.aa;refine rU ?_;refine zC rfl (bz T.Fi.wf T.ps) ?_;rintro r A9 (⟨rfl,i9,t9⟩|⟨rfl,i9,t9⟩)
  ·replace T:=T.then t9;obtain⟨c1,c2,c3⟩:=t9.Fi.k3 c1 c2 c3;replace N:=N.k t9.Fi;have m9:=t9.Fi.aa;refine rU ?_;have hv:=N.bh;refine tD ?_;refine rD ?_;refine zL c2 ?_;refine eR ?_;refine aC ?_;refine zC rfl (dK T.Fi.wf T.ps) ?_;rintro r A10 ⟨s10,q10,b10,rfl,t10,g10⟩;replace T:=T.then t10;obtain⟨c1,c2,c3⟩:=t10.Fi.k3 c1 c2 c3;replace N:=N.k t10.Fi;have m10:=t10.Fi.aa;have le10:=t10.le;refine sA ?_;refine aC ?_;refine zC rfl (bf (S:=s2 A1.aa f2 f3) T.Fi.wf (aI.leaf (k:=36) (a:=(cur L q).a) (s:=s10) (i:=0) (x:=(0,0))) N nA dE) ?_;rintro r A11 ⟨kv11,rfl,N11,o11⟩;replace T:=T.quiet o11;obtain⟨c1,c2⟩:=o11.k2 c1 c2;have m11:=o11.aa;replace N11:aI A11 (s2 A1.aa f2 f3) (nd 36 (cur L q).a s10 [t]) kv11:=N11;refine sA ?_;refine aC ?_;refine zS2 (y:=au (nd 36 (cur L q).a s10 [t]) kv11) T.Fi.wf c2 ?_;intro A12 o12 c2;replace T:=T.fresh hw h o12 nF
   replace c1:=o12.k c1;replace N11:=N11.k o12;have m12:=o12.aa;refine sA ?_;refine aK ?_;clear hv;refine gO ?_;refine ai ?_;refine yL (pp 0 fp (pp 2 f1 (pp 3 f2 .nil))) ?_;refine ih (q10,b10,(nd 36 (cur L q).a s10 [t]),kv11) A12 (by simp only;omega) ⟨T,c1,c2,N11.mono fun g hg _=>⟨hg.1,hg.2.1⟩,by show 1≤8200;decide,om,?_⟩;exact fun z=>by
    have w_g10:=g10 z;exact⟨by simp only;omega,.cast (.inl rfl) w_g10.2 hx⟩
  replace T:=T.then t9;obtain⟨c1,c2,c3⟩:=t9.Fi.k3 c1 c2 c3;replace N:=N.k t9.Fi;have m9:=t9.Fi.aa;refine rU ?_;refine zC rfl (bz T.Fi.wf T.ps) ?_;rintro r A10 (⟨rfl,i10,t10⟩|⟨rfl,i10,t10⟩)
  ·replace T:=T.then t10;obtain⟨c1,c2,c3⟩:=t10.Fi.k3 c1 c2 c3;replace N:=N.k t10.Fi;have m10:=t10.Fi.aa;refine rU ?_;have hv:=N.bh;refine tD ?_;refine rD ?_;refine zL c2 ?_;refine eR ?_;refine aC ?_;refine zC rfl (dK T.Fi.wf T.ps) ?_;rintro r A11 ⟨s11,q11,b11,rfl,t11,g11⟩;replace T:=T.then t11;obtain⟨c1,c2,c3⟩:=t11.Fi.k3 c1 c2 c3;replace N:=N.k t11.Fi;have m11:=t11.Fi.aa;have le11:=t11.le;refine sA ?_;refine aC ?_;refine zC rfl (bf (S:=s2 A1.aa f2 f3) T.Fi.wf (aI.leaf (k:=37) (a:=(cur L q).a) (s:=s11) (i:=0) (x:=(0,0))) N nA dE) ?_;rintro r A12 ⟨kv12,rfl,N12,o12⟩;replace T:=T.quiet o12;obtain⟨c1,c2⟩:=o12.k2 c1 c2;have m12:=o12.aa;replace N12:aI A12 (s2 A1.aa f2 f3) (nd 37 (cur L q).a s11 [t]) kv12:=N12;refine sA ?_;refine aC ?_;refine zS2 (y:=au (nd 37 (cur L q).a s11 [t]) kv12) T.Fi.wf c2 ?_;intro A13 o13 c2;replace T:=T.fresh hw h o13 nF
   replace c1:=o13.k c1;replace N12:=N12.k o13;have m13:=o13.aa;refine sA ?_;refine aK ?_;clear hv;refine gO ?_;refine ai ?_;refine yL (pp 0 fp (pp 2 f1 (pp 3 f2 .nil))) ?_;refine ih (q11,b11,(nd 37 (cur L q).a s11 [t]),kv12) A13 (by simp only;omega) ⟨T,c1,c2,N12.mono fun g hg _=>⟨hg.1,hg.2.1⟩,by show 1≤8200;decide,om,?_⟩;exact fun z=>by
    have w_g11:=g11 z;exact⟨by simp only;omega,.cast (.inr rfl) w_g11.2 hx⟩
  replace T:=T.then t10;obtain⟨c1,c2⟩:=t10.Fi.k2 c1 c2;replace N:=N.k t10.Fi;refine rU ?_;refine zL c2 ?_;refine zS c1 ?_;have oR:=ac.put (x:=.cells 0 false 6 (au t kv)) T.Fi.wf (T.Fi.wf _ _ c1);refine gO ?_;refine zR ?_;refine⟨t,kv,q,false,rfl,?_,T.fresh hw h oR nF,hl,?_⟩
  ·exact ((N.q (S':=s0 A1.aa)).k oR).q
  ·exact fun z=>by
    exact⟨om,hx⟩
end Go.Proofs.YtafamggbkobcfaaGreat.Ae
