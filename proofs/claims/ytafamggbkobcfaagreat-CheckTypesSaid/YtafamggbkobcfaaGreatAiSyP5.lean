/- A part of the proof of the statement CheckTypes. -/
import Derived.Test.YtafamggbkobcfaaGreatAiSyP3
namespace Go.Proofs.YtafamggbkobcfaaGreat.Ae
open Go.AE
set_option linter.unusedVariables false
set_option maxRecDepth 100000
def dL:Nd:=.mk 0 0 [] 0 (0,0) []
def Fd(s:Str): Prop:=s=[43]∨s=[45]∨s=[42]∨s=[47]∨s=[37]∨s=[60]∨s=[61,61]∨s=[33,61]
inductive Ex:Nd→Prop
 | leaf {k a:Int} {s:Str} {i:Int} {x:Nat×Nat}:(k=23∨k=24∨k=25∨k=26∨k=27)→Ex (.mk k a s i x [])
 | new {a:Int} {s:Str} {i:Int} {x:Nat×Nat}:nm s→Ex (.mk 31 a s i x [])
 | one {k a:Int} {s:Str} {i:Int} {x:Nat×Nat} {e:Nd}:(k=28∨k=32∨k=33∨k=35)→Ex e→Ex (.mk k a s i x [e])
 | cast {k a:Int} {s:Str} {i:Int} {x:Nat×Nat} {e:Nd}:(k=36∨k=37)→nm s→Ex e→Ex (.mk k a s i x [e])
 | idx {a:Int} {s:Str} {i:Int} {x:Nat×Nat} {e f:Nd}:Ex e→Ex f→Ex (.mk 30 a s i x [e,f])
 | bin {a:Int} {s:Str} {i:Int} {x:Nat×Nat} {e f:Nd}:Fd s→Ex e→Ex f→Ex (.mk 34 a s i x [e,f])
 | call {a:Int} {s:Str} {i:Int} {x:Nat×Nat} {l:List Nd}:l≠[]→(∀e,e∈l→Ex e)→Ex (.mk 29 a s i x l)
def EPost(P:Nd→Prop)(A A1:AW)(fp:Nat)(lv:AV)(L:List Tk)(p:Nat)(dp:Int)(b:Bool)(r:AV): Prop:=
 ∃t kv q b1,r=.agg (au t kv)∧aI A1 (fun g=>A.aa≤g) t kv∧PT A A1 fp lv L p dp b q b1∧t.l.length≤8200∧(b1=false→p<q∧P t)
def jS(P:Nd→Prop)(K:FuncId)(F:FuncId)(n:Nat): Prop:=∀{A:AW} {fp:Nat} {lv:AV} {L:List Tk} {p:Nat} {dp:Int} {b:Bool},Wf A→PS A fp lv L p dp b→L.length-p≤n→0≤dp→dp≤13→(b=false→dp≤12)→
 aD (ES K) F [.ptr fp 0 0] A fun r A1=>EPost P A A1 fp lv L p dp b r
theorem aI.fS{A:AW}{S:Nat→Prop}{t:Nd}{kv:AV}(h:aI A S t kv): dC kv kv=true:=by
 cases h with
 | mk h1 h2 h3 h4=>exact Full.fS h1
theorem aI.avs{A:AW}{S:Nat→Prop}{t:Nd}{kv:AV}(h:aI A S t kv): oI kv kv=true:=by
 cases h with
 | mk h1 h2 h3 h4=>
  rcases h1 with ⟨rfl|⟨z,rfl⟩,_,_⟩|⟨f,t,o,c,ex,ro,all,rfl,_,_⟩
  ·rfl
  ·show (z == z)=true;simp
  ·show (Nat.beq f f && Nat.beq t t && Nat.beq o o && Nat.beq _ _ && Nat.beq c c && (ex == ex))=true;simp only[Nat.beq_refl,beq_self_eq_true,Bool.and_self]
theorem aI.bh{A:AW}{S:Nat→Prop}{t:Nd}{kv:AV}(h:aI A S t kv): dC (.agg (au t kv)) (.agg (au t kv))=true:=by
 have h1:oI (.int .i64 t.k) (.int .i64 t.k)=true:=kI (k:=.i64) (n:=t.k);have h2:oI (.int .i64 t.a) (.int .i64 t.a)=true:=kI (k:=.i64) (n:=t.a);have h3:oI (.str t.s) (.str t.s)=true:=tC (s:=t.s);have h4:oI (.int .i64 t.i) (.int .i64 t.i)=true:=kI (k:=.i64) (n:=t.i);have h5:oI (.dh .f64 t.x.1 t.x.2) (.dh .f64 t.x.1 t.x.2)=true:=by
  show (decide (FloatKind.f64=FloatKind.f64) && Nat.beq t.x.1 t.x.1 && Nat.beq t.x.2 t.x.2)=true;rw[Nat.beq_refl,Nat.beq_refl];rfl
 show lR [.int .i64 t.k,.int .i64 t.a,.str t.s,.int .i64 t.i,.dh .f64 t.x.1 t.x.2,kv] [.int .i64 t.k,.int .i64 t.a,.str t.s,.int .i64 t.i,.dh .f64 t.x.1 t.x.2,kv]=true;simp only[lR,h1,h2,h3,h4,h5,h.avs];rfl
theorem PT.then{A A1 A2:AW}{fp:Nat}{lv:AV}{L:List Tk}{p q r:Nat}{d d2:Int}{b b1 b2:Bool}(h:PT A A1 fp lv L p d b q b1)(k:PT A1 A2 fp lv L q d2 b1 r b2): PT A A2 fp lv L p d2 b r b2:=⟨k.ps,h.Fi.same k.Fi,Nat.le_trans h.le k.le,fun z=>k.bad (h.bad z)⟩
theorem iU{b:Bool}{t:Tk}{s:Str}(h:np b t s): b=false∧t.k≠6∧t.s=s:=⟨h.1,fun e=>by
 have:=h.2.1;omega,h.2.2⟩
set_option maxHeartbeats 4000000 in
theorem BU{K:FuncId}{n:Nat}(hU:jS Ex K 99 n): jS Ex K 71 n:=by
 intro A fp lv L p dp b hw h hn h0 h13 h12;refine ap rfl rfl rfl ?_;have hlen:=h.ok.len;refine gO ?_;refine zA (n:=6) (y:=au dL .aj) hw ?_;intro A1 o1 c1;have nf1:A.aa≠fp:=by
  have:=(h.fg hw).1;omega
 have l1:A.aa≤A.aa:=Nat.le_refl _;have m1:=o1.wf _ _ c1;generalize hf1:A.aa=f1 at c1 nf1 m1 l1;have T:=(PT.refl hw h).quiet o1;refine wC (hU T.Fi.wf T.ps hn h0 h13 h12) ?_;rintro r A2 ⟨t,kv,q,b1,rfl,hN,t2,hl,hx⟩;replace c1:=t2.Fi.k c1;replace T:=T.then t2;refine gO ?_;refine zM (n:=6) (y:=au t kv) T.Fi.wf ?_;intro A3 o3 c2;have m2:=t2.Fi.aa;have w2:=T.Fi.wf;have m3:A2.aa<A3.aa:=o3.wf _ _ c2;have hN:=(hN.mono (S':=fun g=>A1.aa≤g∧g≠A2.aa) fun g hg ⟨F,hF⟩=>⟨hg,fun e=>by
  have:=w2 g F hF;omega⟩).ae o3 fun _ _ h=>h
 have nf2:A2.aa≠fp:=by
  have:=(h.fg hw).1;omega
 have nf12:A2.aa≠f1:=om;generalize A2.aa=f2 at c2 nf2 hN m2 m3 nf12;replace c1:=o3.k c1;replace T:=T.quiet o3;refine gO ?_;refine aE ?_;refine yL (pp 0 fp (pp 2 f1 (pp 3 f2 .nil))) ?_;refine aV (ι:=Nat×Bool×Nd×AV) (fun i=>L.length-i.1) (fun i=>pp 0 fp (pp 2 f1 (pp 3 f2 .nil)))
  (fun i A4=>PT A A4 fp lv L p dp b i.1 i.2.1∧gt A4 f1 6 (au dL .aj)∧gt A4 f2 6 (au i.2.2.1 i.2.2.2)∧aI A4 (s1 A1.aa f2) i.2.2.1 i.2.2.2∧i.2.2.1.l.length≤8200∧A3.aa≤A4.aa∧(i.2.1=false→p<i.1∧Ex i.2.2.1)) ?_
  (q,b1,t,kv) A3 ⟨T,c1,c2,hN,hl,Nat.le_refl _,hx⟩
 clear hN hl hx c1 c2 T;rintro ⟨q,b1,t,kv⟩ A4 ⟨T,c1,c2,hN,hl,m4,hx⟩ ih;replace T:PT A A4 fp lv L p dp b q b1:=T;replace c2:gt A4 f2 6 (au t kv):=c2;replace hN:aI A4 (s1 A1.aa f2) t kv:=hN;replace hl:t.l.length≤8200:=hl;replace hx:b1=false→p<q∧Ex t:=hx;refine sQ ?_;refine ce (fun l1 A5=>∃x,(pp 0 fp (pp 2 f1 (pp 3 f2 (pb 16 x .nil)))).le l1∧(x=true→b1=false∧(cur L q).k≠6∧Fd (cur L q).s)∧ac A4 A5 ag) ?_ ?_
 ·intro k' hk';refine wC (cj T.Fi.wf T.ps) ?_;rintro r A5 ⟨rfl,o5⟩;refine gO ?_;by_cases i1:np b1 (cur L q) [42]
  ·obtain⟨e1,e2,e3⟩:=iU i1;refine wT 9 i1 ?_;refine gO ?_;exact hk' _ _ ⟨true,⟨rfl,rfl,rfl,rfl,trivial⟩,fun _=>⟨e1,e2,.inr (.inr (.inl e3))⟩,o5⟩
  refine wF 9 i1 ?_;refine wC (cj o5.wf (T.ps.quiet o5)) ?_;rintro r A6 ⟨rfl,o6⟩;have o6:=o5.same o6;refine gO ?_;by_cases i2:np b1 (cur L q) [47]
  ·obtain⟨e1,e2,e3⟩:=iU i2;refine wT 13 i2 ?_;refine gO ?_;exact hk' _ _ ⟨true,⟨rfl,rfl,rfl,rfl,trivial⟩,fun _=>⟨e1,e2,.inr (.inr (.inr (.inl e3)))⟩,o6⟩
  refine wF 13 i2 ?_;refine wC (cj o6.wf (T.ps.quiet o6)) ?_;rintro r A7 ⟨rfl,o7⟩;refine gO ?_;refine hk' _ _ ⟨decide (np b1 (cur L q) [37]),⟨rfl,rfl,rfl,rfl,trivial⟩,fun hi=>?_,o6.same o7⟩;obtain⟨e1,e2,e3⟩:=iU (of_decide_eq_true hi);exact⟨e1,e2,.inr (.inr (.inr (.inr (.inl e3))))⟩
 rintro l1 A5 ⟨x,hle,hi,o5⟩;refine bY _ ?_ hle;replace T:=T.quiet o5;obtain⟨c1,c2⟩:=o5.k2 c1 c2;replace hN:=hN.k o5;have m5:=o5.aa;cases x with
 | false=>
  refine rU ?_;refine ay rfl ?_;refine wL c2 ?_;refine zS c1 ?_;have oR:=ac.put (x:=.cells 0 false 6 (au t kv)) T.Fi.wf (T.Fi.wf _ _ c1);refine gO ?_;refine zR ?_;refine⟨t,kv,q,b1,rfl,?_,T.fresh hw h oR nF,hl,hx⟩;exact (hN.mono (S':=s0 A1.aa) fun g hg _=>hg.1).k oR |>.q
 | true=>
  obtain⟨rfl,i6,iop⟩:=hi rfl;have hq1:=T.ps.next i6;refine rU ?_;refine zC rfl (cJ T.Fi.wf T.ps) ?_;rintro r A6 ⟨rfl,o6⟩;replace T:=T.quiet o6;obtain⟨c1,c2⟩:=o6.k2 c1 c2;replace hN:=hN.k o6;have m6:=o6.aa;refine gO ?_;refine zM (n:=5) (y:=fT (cur L q)) T.Fi.wf ?_;intro A7 o7 c3;have nf3:A6.aa≠fp:=by
   have:=(h.fg hw).1;have:=T.Fi.aa;omega
  generalize hf3:A6.aa=f3 at c3 nf3;replace T:=T.quiet o7;obtain⟨c1,c2⟩:=o7.k2 c1 c2;replace hN:=hN.k o7;have hc:=T.ps.cell;have m7:=o7.aa;refine wP ?_;refine zS hc ?_;refine bG (fun A8=>PT A7 A8 fp lv L q dp false (q+1) false) (PT.put T.Fi.wf T.ps (q:=q+1) hq1 (Nat.le_succ _) fun h=>h) ?_;intro A8 t8;replace T:=T.then t8;obtain⟨c1,c2,c3⟩:=t8.Fi.k3 c1 c2 c3;replace hN:=hN.k t8.Fi;have m8:=t8.Fi.aa;have hv:=hN.bh;unfold fT at c3;refine tD ?_;refine rD ?_;refine zL c2 ?_;refine eR ?_;refine aC ?_;have hpq:=T.le;refine zC rfl (hU T.Fi.wf T.ps om h0 h13 (fun _=>h12 (by cases b<;>first|rfl|exact absurd (T.bad rfl) dE))) ?_;rintro r A9 ⟨u,ku,q9,b9,rfl,hM,t9,hl9,hx9⟩;replace T:=T.then t9;obtain⟨c1,c2,c3⟩:=t9.Fi.k3 c1 c2 c3;replace hN:=hN.k t9.Fi;have m9:=t9.Fi.aa;refine sA ?_;refine aC ?_;have w9:=T.Fi.wf
  refine zC rfl (tM (S:=s1 A1.aa f2) w9 hN (hM.mono fun g hg _=>by constructor<;>omega) fun g hg=>by constructor<;>omega) ?_;rintro r A10 ⟨kv',rfl,hN,o10⟩;replace T:=T.quiet o10;obtain⟨c1,c2⟩:=o10.k2 c1 c2;have m10:=o10.aa;refine sA ?_;refine aC ?_;refine zS c2 ?_;have o11:=ac.put (x:=.cells 0 false 6 (au (nd 34 (cur L q).a (cur L q).s [t,u]) kv')) T.Fi.wf (T.Fi.wf _ _ c2);refine bG (fun A11=>ac A10 A11 (one f2)∧A11.heap.get f2=some (.cells 0 false 6 (au (.mk 34 (cur L q).a (cur L q).s 0 (0,0) [t,u]) kv'))) ⟨o11,by rw[AW.aw,if_pos rfl];rfl⟩ ?_;rintro A11 ⟨o11,c2⟩;replace c1:=o11.k c1;replace T:=T.fresh hw h o11 nF;replace hN:=hN.k o11;have m11:=o11.aa;refine sA ?_;refine eD ?_;refine ai ?_;refine yL (pp 0 fp (pp 2 f1 (pp 3 f2 .nil))) ?_;have:=t9.le
  exact ih (q9,b9,_,kv') A11 (by simp only;omega) ⟨T,c1,c2,hN,by show 2≤8200;decide,om,fun e=>⟨by have:=T.le;have:=(hx rfl).1;simp only;omega,.bin iop (hx rfl).2 (hx9 e).2⟩⟩
set_option maxHeartbeats 4000000 in
theorem Dp{K:FuncId}{n:Nat}(hU:jS Ex K 71 n): jS Ex K 44 n:=by
 intro A fp lv L p dp b hw h hn h0 h13 h12;refine ap rfl rfl rfl ?_;have hlen:=h.ok.len;refine gO ?_;refine aq rfl rfl rfl ?_;refine bG (fun A1=>ac A A1 ag∧A1.heap.get A.aa=some (.cells 0 false 6 (au dL .aj))) ⟨ac.add hw _,by rw[AW.add_get,iP rfl];rfl⟩ ?_;rintro A1 ⟨o1,c1⟩;have nf1:A.aa≠fp:=by
  have:=(h.fg hw).1;omega
 have l1:A.aa≤A.aa:=Nat.le_refl _;have m1:=o1.wf _ _ c1;generalize hf1:A.aa=f1 at c1 nf1 m1 l1;have T:=(PT.refl hw h).quiet o1;refine wC (hU T.Fi.wf T.ps hn h0 h13 h12) ?_;rintro r A2 ⟨t,kv,q,b1,rfl,hN,t2,hl,hx⟩;replace c1:=t2.Fi.k c1;replace T:=T.then t2;refine gO ?_;refine zM (n:=6) (y:=au t kv) T.Fi.wf ?_;intro A3 o3 c2;have m2:=t2.Fi.aa;have w2:=T.Fi.wf;have m3:A2.aa<A3.aa:=o3.wf _ _ c2;have hN:=(hN.mono (S':=fun g=>A1.aa≤g∧g≠A2.aa) fun g hg ⟨F,hF⟩=>⟨hg,fun e=>by
  have:=w2 g F hF;omega⟩).ae o3 fun _ _ h=>h
 have nf2:A2.aa≠fp:=by
  have:=(h.fg hw).1;omega
 have nf12:A2.aa≠f1:=om;generalize A2.aa=f2 at c2 nf2 hN m2 m3 nf12;replace c1:=o3.k c1;replace T:=T.quiet o3;refine gO ?_;refine aE ?_;refine yL (pp 0 fp (pp 2 f1 (pp 3 f2 .nil))) ?_;refine aV (ι:=Nat×Bool×Nd×AV) (fun i=>L.length-i.1) (fun i=>pp 0 fp (pp 2 f1 (pp 3 f2 .nil)))
  (fun i A4=>PT A A4 fp lv L p dp b i.1 i.2.1∧gt A4 f1 6 (au dL .aj)∧gt A4 f2 6 (au i.2.2.1 i.2.2.2)∧aI A4 (s1 A1.aa f2) i.2.2.1 i.2.2.2∧i.2.2.1.l.length≤8200∧A3.aa≤A4.aa∧(i.2.1=false→p<i.1∧Ex i.2.2.1)) ?_
  (q,b1,t,kv) A3 ⟨T,c1,c2,hN,hl,Nat.le_refl _,hx⟩
 clear hN hl hx c1 c2 T;rintro ⟨q,b1,t,kv⟩ A4 ⟨T,c1,c2,hN,hl,m4,hx⟩ ih;replace T:PT A A4 fp lv L p dp b q b1:=T;replace c2:gt A4 f2 6 (au t kv):=c2;replace hN:aI A4 (s1 A1.aa f2) t kv:=hN;replace hl:t.l.length≤8200:=hl;replace hx:b1=false→p<q∧Ex t:=hx;refine sQ ?_;refine ce (fun l1 A5=>∃x,(pp 0 fp (pp 2 f1 (pp 3 f2 (pb 12 x .nil)))).le l1∧(x=true→b1=false∧(cur L q).k≠6∧Fd (cur L q).s)∧ac A4 A5 ag) ?_ ?_
 ·intro k' hk';refine wC (cj T.Fi.wf T.ps) ?_;rintro r A5 ⟨rfl,o5⟩;refine gO ?_;by_cases i0:np b1 (cur L q) [43]
  ·obtain⟨e1,e2,e3⟩:=iU i0;refine wT 9 i0 ?_;refine gO ?_;exact hk' _ _ ⟨true,⟨rfl,rfl,rfl,rfl,trivial⟩,fun _=>⟨e1,e2,.inl e3⟩,o5⟩
  refine wF 9 i0 ?_;refine wC (cj o5.wf (T.ps.quiet o5)) ?_;rintro r A6 ⟨rfl,o6⟩;have o6:=o5.same o6;refine gO ?_;refine hk' _ _ ⟨decide (np b1 (cur L q) [45]),⟨rfl,rfl,rfl,rfl,trivial⟩,fun hi=>?_,o6⟩;obtain⟨e1,e2,e3⟩:=iU (of_decide_eq_true hi);exact⟨e1,e2,.inr (.inl e3)⟩
 rintro l1 A5 ⟨x,hle,hi,o5⟩;refine bY _ ?_ hle;replace T:=T.quiet o5;obtain⟨c1,c2⟩:=o5.k2 c1 c2;replace hN:=hN.k o5;have m5:=o5.aa;cases x with
 | false=>
  refine rU ?_;refine ay rfl ?_;refine wL c2 ?_;refine zS c1 ?_;have oR:=ac.put (x:=.cells 0 false 6 (au t kv)) T.Fi.wf (T.Fi.wf _ _ c1);refine gO ?_;refine zR ?_;refine⟨t,kv,q,b1,rfl,?_,T.fresh hw h oR nF,hl,hx⟩;exact (hN.mono (S':=s0 A1.aa) fun g hg _=>hg.1).k oR |>.q
 | true=>
  obtain⟨rfl,i6,iop⟩:=hi rfl;have hq1:=T.ps.next i6;refine rU ?_;refine zC rfl (cJ T.Fi.wf T.ps) ?_;rintro r A6 ⟨rfl,o6⟩;replace T:=T.quiet o6;obtain⟨c1,c2⟩:=o6.k2 c1 c2;replace hN:=hN.k o6;have m6:=o6.aa;refine gO ?_;refine zM (n:=5) (y:=fT (cur L q)) T.Fi.wf ?_;intro A7 o7 c3;have nf3:A6.aa≠fp:=by
   have:=(h.fg hw).1;have:=T.Fi.aa;omega
  generalize hf3:A6.aa=f3 at c3 nf3;replace T:=T.quiet o7;obtain⟨c1,c2⟩:=o7.k2 c1 c2;replace hN:=hN.k o7;have hc:=T.ps.cell;have m7:=o7.aa;refine wP ?_;refine zS hc ?_;refine bG (fun A8=>PT A7 A8 fp lv L q dp false (q+1) false) (PT.put T.Fi.wf T.ps (q:=q+1) hq1 (Nat.le_succ _) fun h=>h) ?_;intro A8 t8;replace T:=T.then t8;obtain⟨c1,c2,c3⟩:=t8.Fi.k3 c1 c2 c3;replace hN:=hN.k t8.Fi;have m8:=t8.Fi.aa;have hv:=hN.bh;unfold fT at c3;refine tD ?_;refine rD ?_;refine zL c2 ?_;refine eR ?_;refine aC ?_;have hpq:=T.le;refine zC rfl (hU T.Fi.wf T.ps om h0 h13 (fun _=>h12 (by cases b<;>first|rfl|exact absurd (T.bad rfl) dE))) ?_;rintro r A9 ⟨u,ku,q9,b9,rfl,hM,t9,hl9,hx9⟩;replace T:=T.then t9;obtain⟨c1,c2,c3⟩:=t9.Fi.k3 c1 c2 c3;replace hN:=hN.k t9.Fi;have m9:=t9.Fi.aa;refine sA ?_;refine aC ?_;have w9:=T.Fi.wf
  refine zC rfl (tM (S:=s1 A1.aa f2) w9 hN (hM.mono fun g hg _=>by constructor<;>omega) fun g hg=>by constructor<;>omega) ?_;rintro r A10 ⟨kv',rfl,hN,o10⟩;replace T:=T.quiet o10;obtain⟨c1,c2⟩:=o10.k2 c1 c2;have m10:=o10.aa;refine sA ?_;refine aC ?_;refine zS c2 ?_;have o11:=ac.put (x:=.cells 0 false 6 (au (nd 34 (cur L q).a (cur L q).s [t,u]) kv')) T.Fi.wf (T.Fi.wf _ _ c2);refine bG (fun A11=>ac A10 A11 (one f2)∧A11.heap.get f2=some (.cells 0 false 6 (au (.mk 34 (cur L q).a (cur L q).s 0 (0,0) [t,u]) kv'))) ⟨o11,by rw[AW.aw,if_pos rfl];rfl⟩ ?_;rintro A11 ⟨o11,c2⟩;replace c1:=o11.k c1;replace T:=T.fresh hw h o11 nF;replace hN:=hN.k o11;have m11:=o11.aa;refine sA ?_;refine eD ?_;refine ai ?_;refine yL (pp 0 fp (pp 2 f1 (pp 3 f2 .nil))) ?_;have:=t9.le
  exact ih (q9,b9,_,kv') A11 (by simp only;omega) ⟨T,c1,c2,hN,by show 2≤8200;decide,om,fun e=>⟨by have:=T.le;have:=(hx rfl).1;simp only;omega,.bin iop (hx rfl).2 (hx9 e).2⟩⟩
set_option maxHeartbeats 4000000 in
theorem BV{K:FuncId}{n:Nat}(hU:jS Ex K 44 n): jS Ex K 16 n:=by
 intro A fp lv L p dp b hw h hn h0 h13 h12;refine ap rfl rfl rfl ?_;have hlen:=h.ok.len;refine gO ?_;refine aq rfl rfl rfl ?_;refine bG (fun A1=>ac A A1 ag∧A1.heap.get A.aa=some (.cells 0 false 6 (au dL .aj))) ⟨ac.add hw _,by rw[AW.add_get,iP rfl];rfl⟩ ?_;rintro A1 ⟨o1,c1⟩;have nf1:A.aa≠fp:=by
  have:=(h.fg hw).1;omega
 have l1:A.aa≤A.aa:=Nat.le_refl _;have m1:=o1.wf _ _ c1;generalize hf1:A.aa=f1 at c1 nf1 m1 l1;have T:=(PT.refl hw h).quiet o1;refine gO ?_;refine cY rfl rfl bF rfl (hU T.Fi.wf T.ps hn h0 h13 h12) ?_;rintro r A2 ⟨t,kv,q,b1,rfl,hN,t2,hl,hx⟩;replace c1:=t2.Fi.k c1;replace T:=T.then t2;refine gO ?_;refine zM (n:=6) (y:=au t kv) T.Fi.wf ?_;intro A3 o3 c2;have m2:=t2.Fi.aa;have w2:=T.Fi.wf;have m3:A2.aa<A3.aa:=o3.wf _ _ c2;have hN:=(hN.mono (S':=fun g=>A1.aa≤g∧g≠A2.aa) fun g hg ⟨F,hF⟩=>⟨hg,fun e=>by
  have:=w2 g F hF;omega⟩).ae o3 fun _ _ h=>h
 have nf2:A2.aa≠fp:=by
  have:=(h.fg hw).1;omega
 have nf12:A2.aa≠f1:=om;generalize A2.aa=f2 at c2 nf2 hN m2 m3 nf12;replace c1:=o3.k c1;replace T:=T.quiet o3;refine oP ?_;refine sQ ?_;have T0:=T;obtain⟨A4,hA4⟩:∃A4,A4=A3:=⟨_,rfl⟩;have m4:A3.aa≤A4.aa:=by rw[hA4];exact Nat.le_refl _
 rw[←hA4] at T c1 c2 hN;rw[←hA4];refine ce (fun l1 A5=>∃x,(pp 0 fp (pp 2 f1 (pp 3 f2 (pb 16 x .nil)))).le l1∧(x=true→b1=false∧(cur L q).k≠6∧Fd (cur L q).s)∧ac A4 A5 ag) ?_ ?_
 ·intro k' hk';refine wC (cj T.Fi.wf T.ps) ?_;rintro r A5 ⟨rfl,o5⟩;refine gO ?_;by_cases i0:np b1 (cur L q) [60]
  ·obtain⟨e1,e2,e3⟩:=iU i0;refine wT 9 i0 ?_;refine gO ?_;exact hk' _ _ ⟨true,⟨rfl,rfl,rfl,rfl,trivial⟩,fun _=>⟨e1,e2,.inr (.inr (.inr (.inr (.inr (.inl e3)))))⟩,o5⟩
  refine wF 9 i0 ?_;refine wC (cj o5.wf (T.ps.quiet o5)) ?_;rintro r A6 ⟨rfl,o6⟩;have o6:=o5.same o6;refine gO ?_;by_cases i1:np b1 (cur L q) [61,61]
  ·obtain⟨e1,e2,e3⟩:=iU i1;refine wT 13 i1 ?_;refine gO ?_;exact hk' _ _ ⟨true,⟨rfl,rfl,rfl,rfl,trivial⟩,fun _=>⟨e1,e2,.inr (.inr (.inr (.inr (.inr (.inr (.inl e3))))))⟩,o6⟩
  refine wF 13 i1 ?_;refine wC (cj o6.wf (T.ps.quiet o6)) ?_;rintro r A7 ⟨rfl,o7⟩;have o7:=o6.same o7;refine gO ?_;refine hk' _ _ ⟨decide (np b1 (cur L q) [33,61]),⟨rfl,rfl,rfl,rfl,trivial⟩,fun hi=>?_,o7⟩;obtain⟨e1,e2,e3⟩:=iU (of_decide_eq_true hi);exact⟨e1,e2,.inr (.inr (.inr (.inr (.inr (.inr (.inr (e3)))))))⟩
 rintro l1 A5 ⟨x,hle,hi,o5⟩;refine bY _ ?_ hle;replace T:=T.quiet o5;obtain⟨c1,c2⟩:=o5.k2 c1 c2;replace hN:=hN.k o5;have m5:=o5.aa;refine ce (fun l1 A11=>(pp 0 fp (pp 2 f1 (pp 3 f2 .nil))).le l1∧∃t kv q b1,PT A A11 fp lv L p dp b q b1∧gt A11 f1 6 (au dL .aj)∧gt A11 f2 6 (au t kv)∧aI A11 (s1 A1.aa f2) t kv∧t.l.length≤8200∧A3.aa≤A11.aa∧(b1=false→p<q∧Ex t)) ?_ ?_
 ·intro k' hk';cases x with
  | false=>
   refine rU ?_;exact hk' _ _ ⟨⟨rfl,rfl,rfl,trivial⟩,t,kv,q,b1,T,c1,c2,hN,hl,om,hx⟩
  | true=>
   obtain⟨rfl,i6,iop⟩:=hi rfl;have hq1:=T.ps.next i6;refine rU ?_;refine zC rfl (cJ T.Fi.wf T.ps) ?_;rintro r A6 ⟨rfl,o6⟩;replace T:=T.quiet o6;obtain⟨c1,c2⟩:=o6.k2 c1 c2;replace hN:=hN.k o6;have m6:=o6.aa;refine gO ?_;refine zM (n:=5) (y:=fT (cur L q)) T.Fi.wf ?_;intro A7 o7 c3;have nf3:A6.aa≠fp:=by
    have:=(h.fg hw).1;have:=T.Fi.aa;omega
   generalize hf3:A6.aa=f3 at c3 nf3;replace T:=T.quiet o7;obtain⟨c1,c2⟩:=o7.k2 c1 c2;replace hN:=hN.k o7;have hc:=T.ps.cell;have m7:=o7.aa;refine wP ?_;refine zS hc ?_;refine bG (fun A8=>PT A7 A8 fp lv L q dp false (q+1) false) (PT.put T.Fi.wf T.ps (q:=q+1) hq1 (Nat.le_succ _) fun h=>h) ?_;intro A8 t8;replace T:=T.then t8;obtain⟨c1,c2,c3⟩:=t8.Fi.k3 c1 c2 c3;replace hN:=hN.k t8.Fi;have m8:=t8.Fi.aa;have hv:=hN.bh;unfold fT at c3;refine tD ?_;refine rD ?_;refine zL c2 ?_;refine eR ?_;refine aC ?_;have hpq:=T.le;refine zC rfl (hU T.Fi.wf T.ps om h0 h13 (fun _=>h12 (by cases b<;>first|rfl|exact absurd (T.bad rfl) dE))) ?_;rintro r A9 ⟨u,ku,q9,b9,rfl,hM,t9,hl9,hx9⟩;replace T:=T.then t9;obtain⟨c1,c2,c3⟩:=t9.Fi.k3 c1 c2 c3;replace hN:=hN.k t9.Fi;have m9:=t9.Fi.aa;refine sA ?_;refine aC ?_;have w9:=T.Fi.wf
   refine zC rfl (tM (S:=s1 A1.aa f2) w9 hN (hM.mono fun g hg _=>by constructor<;>omega) fun g hg=>by constructor<;>omega) ?_;rintro r A10 ⟨kv',rfl,hN,o10⟩;replace T:=T.quiet o10;obtain⟨c1,c2⟩:=o10.k2 c1 c2;have m10:=o10.aa;refine sA ?_;refine aC ?_;refine zS c2 ?_;have o11:=ac.put (x:=.cells 0 false 6 (au (nd 34 (cur L q).a (cur L q).s [t,u]) kv')) T.Fi.wf (T.Fi.wf _ _ c2);refine bG (fun A11=>ac A10 A11 (one f2)∧A11.heap.get f2=some (.cells 0 false 6 (au (.mk 34 (cur L q).a (cur L q).s 0 (0,0) [t,u]) kv'))) ⟨o11,by rw[AW.aw,if_pos rfl];rfl⟩ ?_;rintro A11 ⟨o11,c2⟩;replace c1:=o11.k c1;replace T:=T.fresh hw h o11 nF;replace hN:=hN.k o11;have m11:=o11.aa;refine sA ?_;refine eD ?_;exact hk' _ _ ⟨⟨rfl,rfl,rfl,trivial⟩,_,kv',q9,b9,T,c1,c2,hN,by show 2≤8200;decide,om,fun e=>⟨by have:=T.le;have:=(hx rfl).1;have:=t9.le;omega,.bin iop (hx rfl).2 (hx9 e).2⟩⟩
 clear hN hl hx c1 c2 T;rintro l1 A11 ⟨hle,t,kv,q,b1,T,c1,c2,hN,hl,m11,hx⟩;refine bY _ ?_ hle;refine wL c2 ?_;refine zS c1 ?_;have oR:=ac.put (x:=.cells 0 false 6 (au t kv)) T.Fi.wf (T.Fi.wf _ _ c1);refine gO ?_;refine zR ?_;refine⟨t,kv,q,b1,rfl,?_,T.fresh hw h oR nF,hl,hx⟩;exact (hN.mono (S':=s0 A1.aa) fun g hg _=>hg.1).k oR |>.q
end Go.Proofs.YtafamggbkobcfaaGreat.Ae
