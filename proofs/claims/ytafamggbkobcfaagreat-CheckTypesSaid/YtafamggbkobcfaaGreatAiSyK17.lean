/- A part of the proof of the statement CheckTypes. -/
import Derived.Test.YtafamggbkobcfaaGreatAiSyK15
namespace Go.Proofs.YtafamggbkobcfaaGreat.Ae
open Go.AE
set_option linter.unusedVariables false
set_option maxRecDepth 100000
def AZ(A A1:AW)(Y:BY)(b:Bool)(z:Option Vs): Prop:=∃b1,BT A A1 Y b b1∧(b=false→match z with
 | none=>b1=true
 | some vs=>b1=false∧vs=Y.vars)
theorem AZ.s{A A1:AW}{Y:BY}{b:Bool}{z:Option Vs}{k:Nat}(hw:Wf A)(h:BS A Y b)(p:AZ A A1 Y b z): nC k A A1 Y b z:=by
 obtain⟨b1,T,hz⟩:=p;refine⟨Y.vv,Y.lv,[],b1,?_,Nat.zero_le _,?_⟩
 ·rw[aN];exact (ST.refl hw h).step hw rfl T
 ·rw[aN];exact hz
theorem ww{E:Ev}{lk:List Str}{vs:Vs}{t u0 u1:Nd}{y v:bM}{b1:Bool}(e0:ba t=u0)(e1:eg t 1=u1)(z1:match E.ty vs u0 with
 | none=>b1=true
 | some w=>b1=false∧y=w) (z2:b1=false→match E.ty vs u1 with
 | none=>true=true
 | some w=>true=false∧v=w) : yd E lk vs t=none:=by
 unfold yd;rw[e0,e1];cases h0:E.ty vs u0 with
 | none=>rfl
 | some w=>
  rw[h0] at z1;have z2:=z2 z1.1;cases h1:E.ty vs u1 with
  | none=>rfl
  | some w'=>
   rw[h1] at z2;exact absurd z2.1 dE
open Classical in
theorem tX{E:Ev}{lk:List Str}{vs:Vs}{t u0 u1:Nd}{y v:bM}{b1:Bool}(e0:ba t=u0)(e1:eg t 1=u1)(z1:match E.ty vs u0 with
 | none=>b1=true
 | some w=>b1=false∧y=w) (hb:b1=false) (z2:b1=false→match E.ty vs u1 with
 | none=>false=true
 | some w=>false=false∧v=w) : yd E lk vs t=if yc E lk vs (ba t)∧bI E.hs v y then some vs else none:=by
 unfold yd;subst hb;replace z2:=z2 rfl;rw[←e0] at z1;rw[←e1] at z2;cases h0:E.ty vs (ba t) with
 | none=>
  rw[h0] at z1;exact absurd (show false=true from z1) dE
 | some w=>
  rw[h0] at z1;obtain⟨_,rfl⟩:=z1;cases h1:E.ty vs (eg t 1) with
  | none=>
   rw[h1] at z2;exact absurd (show false=true from z2) dE
  | some w'=>
   rw[h1] at z2;obtain⟨_,rfl⟩:=z2;rfl
set_option maxHeartbeats 4000000 in
theorem zX{K:FuncId}{n:Nat}{A:AW}{Y:BY}{b:Bool}{t u0 u1:Nd}{kv:AV}(hw:Wf A)(h:BO A Y b)(N:aI A (fun g=>g<Y.X.M) t kv)(hu0:t.l[0]?=some u0)(hu1:t.l[1]?=some u1)(hP0:Ex u0∧sz u0≤n)(hP1:Ex u1∧sz u1≤n)(h28:u0.k=28→∃w,u0.l[0]?=some w∧Ex w∧sz w≤n):
 aD (ES K) 108 [.ptr Y.fb 0 0,.agg (au t kv)] A fun r A1=>AZ A A1 Y b (yd (Y.ev n) Y.locks Y.vars t):=by
 have e0:ba t=u0:=by
  unfold ba;rw[List.headD_eq_head?_getD,List.head?_eq_getElem?,hu0];rfl
 have e1:eg t 1=u1:=by
  unfold eg;rw[List.getD_eq_getElem?_getD,hu1];rfl
 refine ap rfl rfl rfl ?_;have T:=BT.refl hw h;refine gO ?_;refine bA rfl rfl rfl rfl ?_;generalize hf3:A.aa=f3;refine dN (n:=6) (cs:=au t kv) hw h T hf3 ?_;intro A1 x3 p3 o1 c3 T;have hst:=N.bh;have N1:=T.bl N;obtain⟨fku0,sku0,oku0,cku0,eku0,rku0,aku0,ku0,hvu0,hsu0,hhu0,hlu0,Nu0,htu0⟩:=bv N1 hu0;have hku0:takeN 6 (aB (Nat.add oku0 (Nat.mul 0 6)) aku0)=some (au u0 ku0):=(htu0 6 0 (Nat.le_refl _)).trans rfl;refine wI hvu0 hlu0 ?_;refine wK hhu0 hku0 ?_;refine aq rfl rfl rfl ?_;refine zS (by rw[AW.add_get,iP rfl]) ?_;generalize hf4:A1.aa=f4;refine fG (n:=6) (cs:=au u0 ku0) hw h T hf4 ?_;intro A2 x4 p4 o2 c4 T;replace c3:=o2.k c3;replace N1:=N1.k o2;replace Nu0:=Nu0.k o2;refine wL c4 ?_;refine zC rfl (bT n T.Fi.wf T.ps Nu0 hP0) ?_;rintro r A3 ⟨y3,b3,rfl,t3,z3⟩;replace T:=T.then t3;obtain⟨c3,c4⟩:=t3.Fi.k2 c3 c4;replace N1:=t3.bl N1
 replace Nu0:=t3.bl Nu0;refine oP ?_;refine aq rfl rfl rfl ?_;refine zS (by rw[AW.add_get,iP rfl]) ?_;generalize hf5:A3.aa=f5;refine fG (n:=2) (cs:=bc y3) hw h T hf5 ?_;intro A4 x5 p5 o4 c5 T;obtain⟨c3,c4⟩:=o4.k2 c3 c4;replace N1:=N1.k o4;replace Nu0:=Nu0.k o4;obtain⟨fku1,sku1,oku1,cku1,eku1,rku1,aku1,ku1,hvu1,hsu1,hhu1,hlu1,Nu1,htu1⟩:=bv N1 hu1;have hku1:takeN 6 (aB (Nat.add oku1 (Nat.mul 1 6)) aku1)=some (au u1 ku1):=(htu1 6 0 (Nat.le_refl _)).trans rfl;refine wI hvu1 hlu1 ?_;refine wK hhu1 hku1 ?_;refine zC rfl (bT n T.Fi.wf T.ps Nu1 hP1) ?_;rintro r A5 ⟨y5,b5,rfl,t5,z5⟩;replace T:=T.then t5;obtain⟨c3,c4,c5⟩:=t5.Fi.k3 c3 c4 c5;replace N1:=t5.bl N1;replace Nu0:=t5.bl Nu0;replace Nu1:=t5.bl Nu1;refine oP ?_;refine aq rfl rfl rfl ?_;refine zS (by rw[AW.add_get,iP rfl]) ?_;generalize hf6:A5.aa=f6
 refine fG (n:=2) (cs:=bc y5) hw h T hf6 ?_;intro A6 x6 p6 o6 c6 T;obtain⟨c3,c4,c5⟩:=o6.k3 c3 c4 c5;replace N1:=N1.k o6;replace Nu0:=Nu0.k o6;replace Nu1:=Nu1.k o6;have m6:=o6.aa;have l6:=T.Fi.wf _ _ c6;refine sQ ?_;have hc:=T.ps.cell;refine ce (fun l1 B=>∃x,(pp 0 Y.fb (pp 3 f3 (pp 4 f4 (pp 5 f5 (pp 6 f6 (pb 7 x .nil)))))).le l1∧B=A6∧x=decide (u0.k=30∨u0.k=28∨(u0.k=27∧u0.s∉Y.locks))) ?_ ?_
 ·intro k' hk';refine tD ?_;by_cases k30:u0.k=30
  ·refine aL 24 true rfl (yT k30) ?_;refine dO ?_;refine aL 29 true rfl rfl ?_;refine dO ?_;refine aC ?_;refine sA ?_;refine dO ?_;refine aC ?_;refine sA ?_;refine aK ?_;exact hk' _ _ ⟨true,⟨rfl,rfl,rfl,rfl,rfl,rfl,trivial⟩,rfl,(yT (.inl k30)).symm⟩
  refine aL 24 false rfl (yF k30) ?_;refine dR ?_;by_cases k28:u0.k=28
  ·refine aL 29 true rfl (yT k28) ?_;refine dO ?_;refine aC ?_;refine sA ?_;refine dO ?_;refine aC ?_;refine sA ?_;refine aK ?_;exact hk' _ _ ⟨true,⟨rfl,rfl,rfl,rfl,rfl,rfl,trivial⟩,rfl,(yT (.inr (.inl k28))).symm⟩
  refine aL 29 false rfl (yF k28) ?_;refine dR ?_;by_cases k27:u0.k=27
  ·refine aL 33 true rfl (yT k27) ?_;refine aC ?_;refine zC rfl (iz T.ps.ls (by have:=T.ps.ll;omega)) ?_;rintro r A' ⟨rfl,rfl⟩;refine sA ?_;refine aC ?_;refine sA ?_;refine aK ?_;refine hk' _ _ ⟨!decide (u0.s∈Y.locks),⟨rfl,rfl,rfl,rfl,rfl,rfl,trivial⟩,rfl,?_⟩;by_cases hm:u0.s∈Y.locks
   ·rw[yT hm];exact (yF fun h=>h.elim k30 fun h=>h.elim k28 fun h=>h.2 hm).symm
   ·rw[yF hm];exact (yT (.inr (.inr ⟨k27,hm⟩))).symm
  ·refine aL 33 false rfl (yF k27) ?_;refine dO ?_;refine aC ?_;refine sA ?_;refine dO ?_;refine aC ?_;refine sA ?_;refine aK ?_;exact hk' _ _ ⟨false,⟨rfl,rfl,rfl,rfl,rfl,rfl,trivial⟩,rfl,(yF fun h=>h.elim k30 fun h=>h.elim k28 fun h=>k27 h.1).symm⟩
 rintro l1 _ ⟨x,hle,rfl,hx⟩;refine bY _ ?_ hle;clear hle hc;have hc:=T.ps.cell;obtain⟨fe,hpc⟩:=T.ps.eO.cell;refine gO ?_;cases b5 with
 | true=>
  refine bL (v:=.bool false) rfl rfl rfl rfl ?_;refine gO ?_
  try refine aF 52 false rfl rfl ?_
  refine gO ?_
  try refine aF 57 false rfl rfl ?_
  refine rU ?_;cases x with
  | true=>
   refine tD ?_
   try refine aL 70 false rfl rfl ?_
   refine rD ?_;refine zL c6 ?_;refine eR ?_;refine rD ?_;refine zL c5 ?_;refine eR ?_;refine rD ?_;refine zL c3 ?_;refine eR ?_;refine aC ?_;refine zC rfl (iu T.Fi.wf T.ps) ?_;rintro r A7 ⟨rfl,o7⟩;replace T:=T.quiet o7;obtain⟨c3,c4,c5,c6⟩:=o7.k4 c3 c4 c5 c6;replace Nu0:=Nu0.k o7;have m7:=o7.aa;refine sA ?_;refine aC ?_;refine zC rfl (ah T.Fi.wf T.ps) ?_;rintro r A8 ⟨rfl,t8⟩;replace T:=T.then t8;obtain⟨c3,c4,c5,c6⟩:=t8.Fi.k4 c3 c4 c5 c6;replace Nu0:=t8.bl Nu0;have m8:=t8.Fi.aa;refine sA ?_;refine eD ?_;refine bd rfl ⟨_,T,fun hb=>?_⟩;subst hb;rw[ww (E:=Y.ev n) (vs:=Y.vars) e0 e1 (z3 rfl) z5];exact Bool.or_true _
  | false=>
   refine tD ?_
   try refine aL 70 true rfl rfl ?_
   refine dO ?_;refine rD ?_;refine zL c3 ?_;refine eR ?_;refine aC ?_;refine sA ?_;refine dO ?_;refine aC ?_;refine zC rfl (ah T.Fi.wf T.ps) ?_;rintro r A7 ⟨rfl,t7⟩;replace T:=T.then t7;obtain⟨c3,c4,c5,c6⟩:=t7.Fi.k4 c3 c4 c5 c6;replace Nu0:=t7.bl Nu0;have m7:=t7.Fi.aa;refine sA ?_;refine eD ?_;refine bd rfl ⟨_,T,fun hb=>?_⟩;subst hb;rw[ww (E:=Y.ev n) (vs:=Y.vars) e0 e1 (z3 rfl) z5];exact Bool.or_true _
 | false=>
  refine bL (v:=.bool true) rfl rfl rfl rfl ?_;refine gO ?_
  try refine aF 52 true rfl rfl ?_
  refine gO ?_;by_cases k28:u0.k=28
  ·obtain⟨w,hw0,hPw⟩:=h28 k28;have ew:ba u0=w:=by
    unfold ba;rw[List.headD_eq_head?_getD,List.head?_eq_getElem?,hw0];rfl
   obtain rfl:x=true:=by rw[hx];exact yT (.inr (.inl k28))
   obtain⟨fkw,skw,okw,ckw,ekw,rkw,akw,kw,hvw,hsw,hhw,hlw,Nw,htw⟩:=bv Nu0 hw0;have hkw:takeN 6 (aB (Nat.add okw (Nat.mul 0 6)) akw)=some (au w kw):=(htw 6 0 (Nat.le_refl _)).trans rfl;refine wT 57 k28 ?_;refine wI hvw hlw ?_;refine zK hhw hkw ?_
   try refine aM rfl ?_
   refine oP ?_
   try refine aM rfl ?_
   refine zC rfl (bT n T.Fi.wf T.ps Nw hPw) ?_;rintro r A7 ⟨y7,b7,rfl,t7,z7⟩;replace T:=T.then t7;obtain⟨c3,c5,c6⟩:=t7.Fi.k3 c3 c5 c6;refine oP ?_
   try refine aM rfl ?_
   refine dx rfl rfl rfl ?_;refine gO ?_;by_cases h3:y7.1=3
   ·refine zG (fun _=>?_) fun h=>absurd h3 h;refine tD ?_
    try refine aL 70 true rfl rfl ?_
    refine dO ?_;refine rD ?_;refine zL c3 ?_;refine eR ?_;refine aC ?_;refine sA ?_;refine dO ?_;refine aC ?_;refine zC rfl (ah T.Fi.wf T.ps) ?_;rintro r A8 ⟨rfl,t8⟩;replace T:=T.then t8;refine sA ?_;refine eD ?_;refine bd rfl ⟨_,T,fun hb=>?_⟩;subst hb;rw[tX (E:=Y.ev n) (vs:=Y.vars) e0 e1 (z3 rfl) t5.flag z5,iN fun h=>?_]
    ·rfl
    obtain⟨g,hg,hg3⟩:=h.1.2 (by rw[e0];exact k28);rw[e0,ew] at hg;have hz:=z7 rfl;simp only[show cW Y.cx n w=some g from hg] at hz;exact hg3 (by rw[←hz.2];exact h3)
   ·refine zG (fun h=>absurd h h3) fun _=>?_;refine tD ?_
    try refine aL 70 false rfl rfl ?_
    refine rD ?_;refine zL c6 ?_;refine eR ?_;refine rD ?_;refine zL c5 ?_;refine eR ?_;refine rD ?_;refine zL c3 ?_;refine eR ?_;refine aC ?_;refine zC rfl (iu T.Fi.wf T.ps) ?_;rintro r A8 ⟨rfl,o8⟩;replace T:=T.quiet o8;replace c3:=o8.k c3;refine sA ?_;refine aC ?_;refine zC rfl (ah T.Fi.wf T.ps) ?_;rintro r A9 ⟨rfl,t9⟩;replace T:=T.then t9;refine sA ?_;refine eD ?_;refine bd rfl ⟨_,T,fun hb=>?_⟩;subst hb;rw[tX (E:=Y.ev n) (vs:=Y.vars) e0 e1 (z3 rfl) t5.flag z5];have hz:=z7 rfl;cases hg:cW Y.cx n w with
    | none=>
     simp only[hg] at hz;rw[iN fun h=>?_,hz]
     ·exact Bool.or_true _
     obtain⟨g,hg',_⟩:=h.1.2 (by rw[e0];exact k28);rw[e0,ew] at hg';rw[show cW Y.cx n w=some g from hg'] at hg;cases hg
    | some g=>
     simp only[hg] at hz;obtain⟨hz,rfl⟩:=hz;rw[hz,Bool.or_false];have hm:yc (Y.ev n) Y.locks Y.vars (ba t):=by
      rw[e0];exact⟨.inr (.inl k28),fun _=>⟨_,by rw[ew];exact hg,h3⟩⟩
     by_cases hf:bI Y.X.hs y5 y3
     ·rw[iP ⟨hm,hf⟩,yT hf];exact⟨rfl,rfl⟩
     ·rw[iN fun h=>hf h.2,yF hf];rfl
  ·refine wF 57 k28 ?_;refine rU ?_;cases x with
   | true=>
    refine tD ?_
    try refine aL 70 false rfl rfl ?_
    refine rD ?_;refine zL c6 ?_;refine eR ?_;refine rD ?_;refine zL c5 ?_;refine eR ?_;refine rD ?_;refine zL c3 ?_;refine eR ?_;refine aC ?_;refine zC rfl (iu T.Fi.wf T.ps) ?_;rintro r A7 ⟨rfl,o7⟩;replace T:=T.quiet o7;replace c3:=o7.k c3;refine sA ?_;refine aC ?_;refine zC rfl (ah T.Fi.wf T.ps) ?_;rintro r A8 ⟨rfl,t8⟩;replace T:=T.then t8;refine sA ?_;refine eD ?_;refine bd rfl ⟨_,T,fun hb=>?_⟩;subst hb;rw[tX (E:=Y.ev n) (vs:=Y.vars) e0 e1 (z3 rfl) t5.flag z5];have hm:yc (Y.ev n) Y.locks Y.vars (ba t):=by
     rw[e0];exact⟨of_decide_eq_true hx.symm,fun h=>absurd h k28⟩
    by_cases hf:bI Y.X.hs y5 y3
    ·rw[iP ⟨hm,hf⟩,yT hf];exact⟨rfl,rfl⟩
    ·rw[iN fun h=>hf h.2,yF hf];rfl
   | false=>
    refine tD ?_
    try refine aL 70 true rfl rfl ?_
    refine dO ?_;refine rD ?_;refine zL c3 ?_;refine eR ?_;refine aC ?_;refine sA ?_;refine dO ?_;refine aC ?_;refine zC rfl (ah T.Fi.wf T.ps) ?_;rintro r A7 ⟨rfl,t7⟩;replace T:=T.then t7;refine sA ?_;refine eD ?_;refine bd rfl ⟨_,T,fun hb=>?_⟩;subst hb;rw[tX (E:=Y.ev n) (vs:=Y.vars) e0 e1 (z3 rfl) t5.flag z5];rw[iN fun h=>of_decide_eq_false hx.symm (by rw[←e0];exact h.1.1)];rfl
theorem kf{K:FuncId}{A:AW}{Y:BY}{b:Bool}{g:FuncId}{cap:List AV}{z:Option Vs}{k:Nat}(hw:Wf A)(h:BS A Y b)(ho:(ES K).uo g cap=none)(hb:R.hasB (ES K) g=true)(hF:aD (ES K) g cap A fun r A1=>nC k A A1 Y b z):
 aD (ES K) 105 [.ptr Y.fb 0 0,.func g [] cap] A fun r A1=>nC 0 A A1 Y b (match (generalizing:=false) z with
  | none=>none
  | some _=>some Y.vars):=by
 refine ap rfl rfl rfl ?_;have T:ST A A Y (Y.set Y.vv Y.lv Y.vars Y.locks) b b:=ST.refl hw h;have hc:=T.ps.bo.cell;refine wJ T.ps.bo.vs.bm ?_;refine pi (vs:=[]) rfl rfl rfl rfl ho hb hF ?_;rintro r A1 ⟨vv,lv,ws,b1,t1,hws,hz⟩;replace T:=t1;clear t1 hc;have hc:=T.ps.bo.cell;have hvl:=h.bo.vl;refine gO ?_;refine bQ (Q:=fun r=>lE A1 3 r Y.vars.length (Y.vars.flatMap AY)∧∀g,r.av g→vv.av g) rfl rfl rfl rfl rfl ?_ ?_
 ·obtain⟨r,g1,g2,g3⟩:=pk (E:=ES K) (t:=89) (d:=d89) (e:=94) (de:=d94) (k:=.i64) rfl rfl rfl T.ps.vc (m:=Y.vars.length) (by show Y.vars.length≤(Y.vars++ws).length;rw[lA];omega);refine⟨r,g1,?_,g3⟩;have e:((Y.vars++ws).flatMap AY).take (Y.vars.length*3)=Y.vars.flatMap AY:=by
   rw[fA];exact List.take_left' (tA (es:=3) (fun _=>rfl) _)
  rw[←e];exact g2
 rintro vv' ⟨hcap,hfm⟩;refine gO ?_;refine bx rfl rfl hcap.cells rfl rfl rfl hc rfl ?_;refine bG (fun A2=>ST A A2 Y (Y.set vv' lv Y.vars Y.locks) b b1) (T.tW hw h rfl (ac.refl T.Fi.wf _) hcap (fun g hg=>.inl (hfm g hg)) hvl fun e=>?_) ?_
 ·have:=T.ps.bo.nd e;rw[show (Y.set vv lv (Y.vars++ws) Y.locks).vars=Y.vars++ws from rfl,mA] at this;exact (List.nodup_append.1 this).1
 intro A2 T2;refine gO ?_;refine bd rfl ⟨vv',lv,[],b1,by rw[aN];exact T2,Nat.le_refl _,fun e=>?_⟩;have hz:=hz e;cases z with
 | none=>exact hz
 | some vs=>exact⟨hz.1,(aN _).symm⟩
theorem vk{rec:Vs→Nd→Option Vs}{u:Nd}:∀{l:List Nd} {vs:Vs},lF rec vs (l++[u])=match lF rec vs l with
  | none=>none
  | some ws=>rec ws u
 | [],vs=>by
  show (match rec vs u with|none=>none|some vs'=>some vs')=rec vs u;cases rec vs u<;>rfl
 | t::l,vs=>by
  show (match rec vs t with|none=>none|some vs'=>lF rec vs' (l++[u]))=match (match rec vs t with|none=>none|some vs'=>lF rec vs' l) with
   | none=>none
   | some ws=>rec ws u
  cases rec vs t with
  | none=>rfl
  | some w=>exact vk
theorem vm{rec:Vs→Nd→Option Vs}{l:List Nd}{u:Nd}{vs us xs:Vs}{b1 b2:Bool}(hz:(b1=true→lF rec vs l=none)∧(b1=false→lF rec vs l=some us))(hb:b1=true→b2=true)
 (z:b1=false→match rec us u with
  | none=>b2=true
  | some w=>b2=false∧w=us++xs) : (b2=true→lF rec vs (l++[u])=none)∧(b2=false→lF rec vs (l++[u])=some (us++xs)):=by
 rw[vk];cases b1 with
 | true=>
  rw[hz.1 rfl,hb rfl];exact⟨fun _=>rfl,(fun h=>by cases h)⟩
 | false=>
  have z:=z rfl;rw[hz.2 rfl];show (b2=true→rec us u=none)∧(b2=false→rec us u=_);cases hr:rec us u with
  | none=>
   rw[hr] at z;have z:b2=true:=z;rw[z];exact⟨fun _=>rfl,(fun h=>by cases h)⟩
  | some w=>
   rw[hr] at z;obtain⟨z1,rfl⟩:b2=false∧w=us++xs:=z;rw[z1];exact⟨(fun h=>by cases h),fun _=>rfl⟩
def ye(K:FuncId)(n m:Nat): Prop:=∀{A:AW} {Y:BY} {b:Bool} {t:Nd} {kv:AV},Wf A→BS A Y b→aI A (fun g=>g<Y.X.M) t kv→St m t→sz t≤n→Y.vars.length+9001*m+2≤1000000000→
 aD (ES K) 83 [.ptr Y.fb 0 0,.agg (au t kv)] A fun r A1=>nC 1 A A1 Y b (cP (Y.ev n) m Y.locks Y.vars t)
set_option maxHeartbeats 1000000 in
theorem DA{K:FuncId}{n m:Nat}(hS:ye K n m){A:AW}{Y:BY}{b:Bool}{t:Nd}{kv:AV}{f2 f3:Nat}(hw:Wf A)(h:BS A Y b)(N:aI A (fun g=>g<Y.X.M) t kv)(hE:∀u∈t.l,St m u∧sz u≤n)(hv:Y.vars.length+9000+9001*m+2≤1000000000)
 (c3:A.heap.get f3=some (.cells 0 false 6 (au t kv))) (c2:A.heap.get f2=some (.cells 0 false 1 [.ptr Y.fb 0 0])) (p3:¬Y.mod f3) (p2:¬Y.mod f2) :
 aD (ES K) 106 [.ptr f3 0 0,.ptr f2 0 0] A fun r A1=>nC 9000 A A1 Y b (lF (cP (Y.ev n) m Y.locks) Y.vars t.l):=by
 refine ap rfl rfl rfl ?_;have T:ST A A Y (Y.set Y.vv Y.lv Y.vars Y.locks) b b:=ST.refl hw h;have hlv:=N.bm;have hl9:=N.len;refine wJ hlv ?_;refine aE ?_;refine yL (pp 0 f3 (pp 1 f2 (pv 5 kv (pn 6 t.l.length (pn 7 0 .nil))))) ?_;refine aV (ι:=Nat) (fun i=>t.l.length-i) (fun i=>(pp 0 f3 (pp 1 f2 (pv 5 kv (pn 6 t.l.length (pn 7 i .nil)))))) (fun i B=>∃vv lv ws b1,ST A B Y (Y.set vv lv (Y.vars++ws) Y.locks) b b1∧gt B f3 6 (au t kv)∧gt B f2 1 [.ptr Y.fb 0 0]∧¬(Y.set vv lv (Y.vars++ws) Y.locks).mod f3∧¬(Y.set vv lv (Y.vars++ws) Y.locks).mod f2∧aI B (fun g=>g<Y.X.M) t kv∧A.aa≤B.aa∧ws.length≤i∧i≤t.l.length∧(b=false→(b1=true→lF (cP (Y.ev n) m Y.locks) Y.vars (t.l.take i)=none)∧(b1=false→lF (cP (Y.ev n) m Y.locks) Y.vars (t.l.take i)=some (Y.vars++ws)))) ?_ 0 A
  ⟨Y.vv,Y.lv,[],b,by rw[aN];exact T,c3,c2,by rw[aN];exact p3,by rw[aN];exact p2,N,Nat.le_refl _,Nat.le_refl _,Nat.zero_le _,fun h=>⟨fun z=>(by rw[h] at z;cases z),fun _=>by rw[aN];rfl⟩⟩
 clear T c3 c2 p3 p2 N;rintro i A1 ⟨vv,lv,ws,b1,T,c3,c2,p3,p2,N,mB,hws,hi,hz⟩ ih;refine wD (fun hlt=>?_) fun hge=>?_
 ·have hlt:i<t.l.length:=Int.ofNat_lt.1 hlt;have hu:t.l[i]?=some t.l[i]:=gE hlt;generalize hx:t.l[i]=u at hu;have hum:u∈t.l:=by rw[←hx];exact List.getElem_mem hlt
  obtain⟨fku,sku,oku,cku,eku,rku,aku,ku,hvu,hsu,hhu,hlu,Nu,htu⟩:=bv N hu;have hku:takeN 6 (aB (Nat.add oku (Nat.mul i 6)) aku)=some (au u ku):=(htu 6 0 (Nat.le_refl _)).trans rfl;refine wI hvu hlu ?_;refine wK hhu hku ?_;refine aq rfl rfl rfl ?_;refine zS (by rw[AW.add_get,iP rfl]) ?_;generalize hf8:A1.aa=f8;refine iK (n:=6) (cs:=au u ku) hw h T rfl hf8 ?_;intro A2 x8 p8 o2 c8 T;obtain⟨c3,c2⟩:=o2.k2 c3 c2;replace N:=N.k o2;replace Nu:=Nu.k o2;have l2:=T.Fi.wf _ _ c8;refine wL c8 ?_;refine zC rfl (hS (Y:=(Y.set vv lv (Y.vars++ws) Y.locks)) T.Fi.wf T.ps Nu (hE u hum).1 (hE u hum).2 (by show (Y.vars++ws).length+9001*m+2≤_;rw[lA];omega)) ?_;rintro r A3 ⟨vv3,lv3,ws3,b3,t3,n3,z3⟩;obtain⟨c3',p3'⟩:=t3.dg T.Fi.wf rfl c3 p3;replace c3:=c3';replace p3:=p3';clear c3' p3';obtain⟨c2',p2'⟩:=t3.dg T.Fi.wf rfl c2 p2;replace c2:=c2';replace p2:=p2';clear c2' p2'
  obtain⟨c8',p8'⟩:=t3.dg T.Fi.wf rfl c8 p8;clear c8' p8';replace N:=t3.bl T.ps N;replace T:ST A A3 Y (Y.set vv3 lv3 ((Y.vars++ws)++ws3) Y.locks) b b3:=T.then hw rfl t3;have m3:=t3.Fi.aa;refine wP ?_;refine ai ?_;refine yL (pp 0 f3 (pp 1 f2 (pv 5 kv (pn 6 t.l.length (pn 7 (i+1:Nat) .nil))))) ?_;rw[aA] at T p3 p2;refine ih (i+1) A3 om ⟨vv3,lv3,ws++ws3,b3,T,c3,c2,p3,p2,N,om,by rw[lA];omega,hlt,fun h=>?_⟩;rw[tS hlt,hx,←aA];exact vm (hz h) t3.bad z3
 have hge:i=t.l.length:=by
  omega
 refine ay rfl ?_;rw[hge,tL] at hz;refine gO ?_;refine bd rfl ⟨vv,lv,ws,b1,T,om,fun e=>?_⟩;have hz:=hz e;cases b1 with
 | true=>rw[hz.1 rfl]
 | false=>
  rw[hz.2 rfl];exact⟨rfl,rfl⟩
theorem DB{K:FuncId}{n m:Nat}(hS:ye K n m){A:AW}{Y:BY}{b:Bool}{t:Nd}{kv:AV}{f2 f6:Nat}(hw:Wf A)(h:BS A Y b)(N:aI A (fun g=>g<Y.X.M) t kv)(hE:St m t∧sz t≤n)(hv:Y.vars.length+9001*m+2≤1000000000)
 (c6:A.heap.get f6=some (.cells 0 false 6 (au t kv))) (c2:A.heap.get f2=some (.cells 0 false 1 [.ptr Y.fb 0 0])) (p6:¬Y.mod f6) (p2:¬Y.mod f2) :
 aD (ES K) 109 [.ptr f2 0 0,.ptr f6 0 0] A fun r A1=>nC 1 A A1 Y b (cP (Y.ev n) m Y.locks Y.vars t):=by
 refine ap rfl rfl rfl ?_;have T:ST A A Y (Y.set Y.vv Y.lv Y.vars Y.locks) b b:=ST.refl hw h;refine wL c6 ?_;refine zC rfl (hS T.Fi.wf T.ps N hE.1 hE.2 hv) ?_;rintro r A1 ⟨vv1,lv1,ws1,b1,t1,n1,z1⟩;obtain⟨c6',p6'⟩:=t1.dg T.Fi.wf rfl c6 p6;clear c6' p6';obtain⟨c2',p2'⟩:=t1.dg T.Fi.wf rfl c2 p2;clear c2' p2';replace T:ST A A1 Y (Y.set vv1 lv1 (Y.vars++ws1) Y.locks) b b1:=T.then hw rfl t1;refine gO ?_;exact bd rfl ⟨vv1,lv1,ws1,b1,T,n1,fun e=>z1 e⟩
theorem try_cl{K:FuncId}{n m:Nat}(hS:ye K n m){A:AW}{Y:BY}{b:Bool}{t u:Nd}{y:bM}{kv:AV}{f2 f3 f4:Nat}(hw:Wf A)(h:BS A Y b)(hN:aI A (fun g=>g<Y.X.M) t kv)(hu:t.l[2]?=some u)(hE:St m u∧sz u≤n)(hv:Y.vars.length+1+9001*m+2≤1000000000)
 (hc2:A.heap.get f2=some (.cells 0 false 1 [.ptr Y.fb 0 0])) (hc3:A.heap.get f3=some (.cells 0 false 6 (au t kv))) (hc4:A.heap.get f4=some (.cells 0 false 2 (bc y))) (p2:¬Y.mod f2) (p3:¬Y.mod f3) (p4:¬Y.mod f4) (hnf:b=false→bN Y.vars t.s=none) :
 aD (ES K) 125 [.ptr f2 0 0,.ptr f3 0 0,.ptr f4 0 0] A fun r A1=>nC 2 A A1 Y b (cP (Y.ev n) m Y.locks (Y.vars++[(t.s,y)]) u):=by
 have c2:=hc2;have c3:=hc3;have c4:=hc4;refine ap rfl rfl rfl ?_;have T:ST A A Y (Y.set Y.vv Y.lv Y.vars Y.locks) b b:=ST.refl hw h;have hc:=T.ps.bo.cell;obtain⟨fe,hpc⟩:=T.ps.bo.eO.cell;refine tD ?_;refine rD ?_;refine zL c4 ?_;refine eR ?_;refine dR ?_;refine bW rfl rfl rfl rfl ?_;refine bq rfl rfl rfl ?_;refine oP ?_;refine aC ?_;refine bE rfl rfl rfl rfl rfl (jM (xs:=AY (t.s,y)) (de:=d94) rfl rfl rfl rfl T.Fi.wf T.ps.vc rfl dE (cU (by show Y.vars.length+1≤_;omega) dE)) ?_;intro vv' A1 G;have hc':=G.Fi.ae _ _ T.ps.bo.cell T.ps.n4;replace c2:=G.Fi.ae _ _ c2 fun e=>p2 (.inr (.inr (.inl e)));replace c3:=G.Fi.ae _ _ c3 fun e=>p3 (.inr (.inr (.inl e)));refine sA ?_;refine aC ?_;refine bx rfl rfl G.cap.cells rfl rfl rfl hc' rfl ?_
 have T2:=T.tW hw h rfl G.Fi (vs':=Y.vars++[(t.s,y)]) (by rw[List.length_append,List.flatMap_append];exact G.cap) G.grow (by rw[List.length_append,List.length_singleton];omega) fun e=>wv (h.bo.nd e) (hnf e);refine bG (fun A2=>ST A A2 Y (Y.set vv' Y.lv (Y.vars++[(t.s,y)]) Y.locks) b b∧A2.heap.get f2=some (.cells 0 false 1 [.ptr Y.fb 0 0])∧A2.heap.get f3=some (.cells 0 false 6 (au t kv))) ⟨T2,?_,?_⟩ ?_
 ·rw[AW.aw,if_neg fun e=>p2 (.inr (.inl e))];exact c2
 ·rw[AW.aw,if_neg fun e=>p3 (.inr (.inl e))];exact c3
 rintro A2 ⟨T3,c2',c3'⟩;have q2:=(T3.dg hw rfl hc2 p2).2;have q3:=(T3.dg hw rfl hc3 p3).2;replace N:=T3.bl h hN;replace T:=T3;replace c2:=c2';replace c3:=c3';replace p2:=q2;replace p3:=q3;clear T2 T3 c2' c3' q2 q3 c4 hc hc';refine oP ?_;refine sA ?_;refine aK ?_;obtain⟨fku,sku,oku,cku,eku,rku,aku,ku,hvu,hsu,hhu,hlu,Nu,htu⟩:=bv N hu;have hku:takeN 6 (aB (Nat.add oku (Nat.mul 2 6)) aku)=some (au u ku):=(htu 6 0 (Nat.le_refl _)).trans rfl;obtain⟨fe,hpc⟩:=T.ps.bo.eO.cell;refine tD ?_;refine ax rfl rfl rfl rfl rfl ?_
 try refine aM rfl ?_
 refine zI 2 hvu hlu ?_;refine eP ?_;refine rD ?_;refine zK hhu hku ?_;refine eR ?_;refine aC ?_;refine zC rfl (hS (Y:=(Y.set vv' Y.lv (Y.vars++[(t.s,y)]) Y.locks)) T.Fi.wf T.ps Nu hE.1 hE.2 (by show (Y.vars++[(t.s,y)]).length+9001*m+2≤_;rw[lA,lS];omega)) ?_;rintro r A3 ⟨vv3,lv3,ws3,b3,t3,n3,z3⟩;obtain⟨c2',p2'⟩:=t3.dg T.Fi.wf rfl c2 p2;clear c2' p2';obtain⟨c3',p3'⟩:=t3.dg T.Fi.wf rfl c3 p3;clear c3' p3';replace T:ST A A3 Y (Y.set vv3 lv3 ((Y.vars++[(t.s,y)])++ws3) Y.locks) b b3:=T.then hw rfl t3;refine sA ?_;refine eD ?_;rw[aA] at T;refine bd rfl ⟨vv3,lv3,[(t.s,y)]++ws3,b3,T,by rw[lA,lS];omega,fun e=>?_⟩;rw[←aA];exact z3 e
end Go.Proofs.YtafamggbkobcfaaGreat.Ae
