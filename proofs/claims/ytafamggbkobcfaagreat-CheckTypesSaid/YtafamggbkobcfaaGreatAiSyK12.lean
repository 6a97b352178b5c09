/- A part of the proof of the statement CheckTypes. -/
import Derived.Test.YtafamggbkobcfaaGreatAiSyK11
namespace Go.Proofs.YtafamggbkobcfaaGreat.Ae
open Go.AE
set_option linter.unusedVariables false
set_option maxRecDepth 100000
theorem Dk{K:FuncId}{C:bC}{l:Kn}{A:AW}{d:Option Tmp}{t:Tmp}{pos:String}{ty T:TypeId}{after:Array Edge}{gd:Option (Nat×Bool)}{v:AV}{n:Nat}(ht:R.gM (ES K) T=2)(hl:l.find t=some v)(hn:bm v=some n):
 (∀F,Kf C l F→dr (ES K) F ⟨d,.call ⟨.builtin .len,#[.tmp t],#[T]⟩,ty,pos,after,gd⟩ A=.val (.int .i64 (n:Int)) A)∧dC (.int .i64 (n:Int)) (.int .i64 (n:Int))=true:=by
 refine⟨fun F hF=>?_,kI⟩;show ao (eo (ES K) T (ev F (.tmp t)) A)=_;rw[hF.ev (x:=.tmp t) (v:=v) hl,EF ht hn];rfl
theorem Ci{rec:Nd→Option bM}{u:Nd}{us:List Nd}{y:bM}{ys:List bM}{b1 b2:Bool}(z:match rec u with
 | none=>b1=true
 | some w=>b1=false∧y=w) (hb:b1=true→b2=true) (hz:b1=false→(b2=true→db rec us=none)∧(b2=false→db rec us=some ys)) :
 (b2=true→db rec (u::us)=none)∧(b2=false→db rec (u::us)=some (y::ys)):=by
 unfold db;cases hr:rec u with
 | none=>
  rw[hr] at z;have z:b1=true:=z;rw[hb z];exact⟨fun _=>rfl,(fun h=>by cases h)⟩
 | some w=>
  rw[hr] at z;obtain⟨z1,rfl⟩:b1=false∧y=w:=z;have hz:=hz z1;exact⟨fun h=>by simp only[hz.1 h],fun h=>by simp only[hz.2 h]⟩
theorem callY_4{C:Cx}{s:Str}{y:bM}{ys:List bM}(h:¬y.1=4): nu C s (y::ys)=none:=if_pos h
theorem xZ{C:Cx}{s:Str}{y:bM}{ys:List bM}(h:dM C.cs C.hs y.2 s 4=none): nu C s (y::ys)=none:=by
 unfold nu;split
 ·rfl
 ·have e:dM C.cs C.hs (mU (y::ys) 0).2 s 4=none:=h;simp only[e]
theorem vh{C:Cx}{s:Str}{y:bM}{ys:List bM}{m:Nd}(h:dM C.cs C.hs y.2 s 4=some m)(hl:¬(params m).length=ys.length): nu C s (y::ys)=none:=by
 unfold nu;split
 ·rfl
 ·have e:dM C.cs C.hs (mU (y::ys) 0).2 s 4=some m:=h;simp only[e];exact iP hl
theorem mM{C:Cx}{s:Str}{y:bM}{ys:List bM}{m:Nd}(h4:y.1=4)(h:dM C.cs C.hs y.2 s 4=some m)(hl:(params m).length=ys.length):
 nu C s (y::ys)=if ∀i,i<(params m).length→bI C.hs (mU ys i) (first ((params m).getD i dL)) then some (first m) else none:=by
 unfold nu;rw[iN (fun h=>h h4)];have e:dM C.cs C.hs (mU (y::ys) 0).2 s 4=some m:=h;simp only[e];rw[iN (fun h=>h hl)];rfl
set_option maxHeartbeats 8000000 in
theorem tV{K:FuncId}{n:Nat}{P:Nd→Prop}(hV:zO K 21 P fun C t=>cW C n t): zO K 91 (fun t=>t.l≠[]∧∀u∈t.l,P u) fun C t=>cK C (cW C n) t:=by
 intro A Y b t kv hw h N hP;obtain⟨hA,hE⟩:=hP;show aD (ES K) _ _ A fun r A1=>XP A A1 Y b (match db (cW Y.cx n) t.l with
  | none=>none
  | some ys=>nu Y.cx t.s ys) r
 obtain⟨u0,us,hl⟩:∃u0 us,t.l=u0::us:=by
  cases hl:t.l with
  | nil=>exact absurd hl hA
  | cons a l=>exact⟨a,l,rfl⟩
 refine ap rfl rfl rfl ?_;have T:=BT.refl hw h;have hlp:=h.lt hw;have hM:=h.eO.le;refine gO ?_;refine bA rfl rfl rfl rfl ?_;generalize hf3:A.aa=f3;refine dN (n:=6) (cs:=au t kv) hw h T hf3 ?_;intro A1 x3 p3 o1 c3 T;have l1:=T.Fi.wf _ _ c3;refine aq rfl rfl rfl ?_;generalize hf4:A1.aa=f4;refine dN (n:=2) (cs:=bc (0,[])) hw h T hf4 ?_;intro A2 x4 p4 o2 c4 T;replace c3:=o2.k c3;have l2:=T.Fi.wf _ _ c4;have hst:=N.bh;refine gO ?_;obtain⟨fk,sk,ok,ck,ek,rk,ak,ku0,hv,_,hh,hlk,Nu0,cw⟩:=bv (T.bl N) (show t.l[0]?=some u0 by rw[hl];rfl);refine zI 0 hv hlk ?_;refine zK hh ((cw 6 0 (Nat.le_refl _)).trans rfl) ?_;refine wC (hV T.Fi.wf T.ps Nu0 (hE u0 (by rw[hl];exact List.mem_cons_self ..))) ?_;rintro r A3 ⟨y3,b3,rfl,t3,z3⟩;replace T:=T.then t3;obtain⟨c3,c4⟩:=t3.Fi.k2 c3 c4;have m3:=t3.Fi.aa;refine oP ?_;refine aq rfl rfl rfl ?_
 refine zS (by rw[AW.add_get,iP rfl]) ?_;generalize hf5:A3.aa=f5;refine fG (n:=2) (cs:=bc y3) hw h T hf5 ?_;intro A4 x5 p5 o4 c5 T;obtain⟨c3,c4⟩:=o4.k2 c3 c4;have l4:=T.Fi.wf _ _ c5;refine gO ?_;have hz0:=z3;have N2:=T.bl N;refine bQ (Q:=fun r=>aI A4 (fun g=>g<Y.X.M) (jT (t.l.drop 1)) r) rfl rfl rfl rfl rfl (mK N2 (by rw[hl];exact Nat.succ_pos _)) ?_;intro v21 N1;rw[show t.l.drop 1=us from by rw[hl];rfl] at N1;have hlv:bm v21=some us.length:=N1.bm;have hl9:us.length≤9000:=N1.len;refine wJ hlv ?_;have lo:=T.Fi.aa;refine aE ?_;refine yL (pp 0 Y.fb (pp 3 f3 (pp 4 f4 (pp 5 f5 (pv 21 v21 (pn 22 us.length (pn 23 0 (pv 6 (.aj) .nil)))))))) ?_
 refine aV (ι:=Nat×AV) (fun i=>us.length-i.1) (fun i=>(pp 0 Y.fb (pp 3 f3 (pp 4 f4 (pp 5 f5 (pv 21 v21 (pn 22 us.length (pn 23 i.1 (pv 6 (i.2) .nil))))))))) (fun i B=>∃b1 ys,BT A B Y b b1∧gt B f3 6 (au t kv)∧gt B f4 2 (bc (0,[]))∧gt B f5 2 (bc y3)∧aI B (fun g=>g<Y.X.M) (jT us) (v21)∧A4.aa≤B.aa∧ys.length=i.1∧i.1≤us.length∧eH B 2 i.2 i.1 (ys.flatMap bc)∧(∀g,i.2.av g→A4.aa≤g)∧(b3=true→b1=true)∧(b3=false→(b1=true→db (cW Y.cx n) (us.take i.1)=none)∧(b1=false→db (cW Y.cx n) (us.take i.1)=some ys))) ?_ (0,.aj) A4 ⟨b3,[],T,c3,c4,c5,N1,Nat.le_refl _,rfl,Nat.zero_le _,.inl ⟨rfl,rfl,rfl⟩,fun g h=>h.elim,fun h=>h,fun h=>⟨fun z=>(by rw[h] at z;cases z),fun _=>rfl⟩⟩;clear T c3 c4 c5;rintro ⟨i,vb⟩ A5 ⟨b1,ys,T,c3,c4,c5,N1,mB,hyl,hi,hb,gb,hbk,hz⟩ ih;replace hi:i≤us.length:=hi;replace hyl:ys.length=i:=hyl;replace hb:eH A5 2 vb i (ys.flatMap bc):=hb
 replace gb:∀g,vb.av g→A4.aa≤g:=gb;replace hz:b3=false→(b1=true→db (cW Y.cx n) (us.take i)=none)∧(b1=false→db (cW Y.cx n) (us.take i)=some ys):=hz;refine wD (fun hlt=>?_) fun hge=>?_
 ·have hlt:i<us.length:=Int.ofNat_lt.1 hlt;have hu:us[i]?=some us[i]:=gE hlt;generalize hx:us[i]=u at hu;have hum:u∈us:=by rw[←hx];exact List.getElem_mem hlt
  obtain⟨fk,sk,ok,ck,ek,rk,ak,ku,hv,_,hh,hlk,Nu,cw⟩:=bv N1 hu;refine wI hv hlk ?_;refine zK hh ((cw 6 0 (Nat.le_refl _)).trans rfl) ?_;refine gO ?_;refine aq rfl rfl rfl ?_;refine zS (by rw[AW.add_get,iP rfl]) ?_;generalize hf8:A5.aa=f8;refine fG (n:=6) (cs:=au u ku) hw h T hf8 ?_;intro A6 x8 p8 o6 c8 T;obtain⟨c3,c4,c5⟩:=o6.k3 c3 c4 c5;replace N1:=N1.k o6;replace Nu:=Nu.k o6;have l6:=T.Fi.wf _ _ c8;replace hb:=hb.k o6;refine wL c8 ?_;refine zC rfl (hV T.Fi.wf T.ps Nu (hE u (by rw[hl];exact List.mem_cons_of_mem _ hum))) ?_;rintro r A7 ⟨y7,b7,rfl,t7,z7⟩;replace T:=T.then t7;obtain⟨c3,c4,c5⟩:=t7.Fi.k3 c3 c4 c5;replace N1:=t7.bl N1;have m7:=t7.Fi.aa;replace hb:=hb.k t7.Fi;refine oP ?_;refine bE rfl rfl rfl rfl rfl (cH (n:=i) (de:=d30) rfl rfl rfl rfl T.Fi.wf hb rfl dE (cU om dE)) ?_;intro vb' A8 g
  replace T:=T.fresh hw h g.Fi fun q hq=>Nat.le_trans lo (gb q hq);replace c3:=g.Fi.ae _ _ c3 fun e=>by have:=gb _ e;omega
  replace c4:=g.Fi.ae _ _ c4 fun e=>by have:=gb _ e;omega
  replace c5:=g.Fi.ae _ _ c5 fun e=>by have:=gb _ e;omega
  replace N1:=N1.ae g.Fi fun q hq e=>by have:=gb q e;omega
  refine wP ?_;have mG:=g.Fi.aa;refine ai ?_;refine yL (pp 0 Y.fb (pp 3 f3 (pp 4 f4 (pp 5 f5 (pv 21 v21 (pn 22 us.length (pn 23 (i+1:Nat) (pv 6 (vb') .nil)))))))) ?_;refine ih (i+1,vb') A8 (by simp only;omega) ⟨b7,ys++[y7],T,c3,c4,c5,N1,om,(by rw[lA,hyl];rfl),hlt,?_,fun q hq=>(g.grow q hq).elim (gb q) fun h=>om,fun h=>t7.bad (hbk h),fun h=>?_⟩
  ·have:eH A8 2 vb' (i+1) (ys.flatMap bc++bc y7):=g.buf;rw[fA];simpa using this
  ·show (_→db _ (us.take (i+1))=none)∧(_→db _ (us.take (i+1))=_);rw[tS hlt,hx];exact jq (hz h) t7.bad z7
 have hge:i=us.length:=by
  omega
 refine ay rfl ?_;rw[hge,tL] at hz;have hz:b=false→(b1=true→db (cW Y.cx n) (u0::us)=none)∧(b1=false→db (cW Y.cx n) (u0::us)=some (y3::ys)):=fun h=>Ci (hz0 h) hbk hz;rw[hl];refine gO ?_;have hc:=T.ps.cell;obtain⟨fe,hpc⟩:=T.ps.eO.cell;refine gO ?_;cases b1 with
 | true=>
  refine bL (v:=.bool true) rfl rfl rfl rfl ?_;refine rU ?_;refine zC rfl (aU T.Fi.wf) ?_;rintro r A6 ⟨rfl,o6⟩;replace T:=T.quiet o6;obtain⟨c3,c4,c5⟩:=o6.k3 c3 c4 c5;have m6:=o6.aa;refine gO ?_;refine zS c4 ?_;refine aJ (cs:=bc (6,[])) hw h T x4 c4 ?_;intro A7 o7 c4 T;obtain⟨c3,c5⟩:=o7.k2 c3 c5;have m7:=o7.aa;refine gO ?_;refine zT c4 ?_;exact XP.none T fun hb=>by rw[(hz hb).1 rfl]
 | false=>
  refine bL (v:=.bool false) rfl rfl rfl rfl ?_;refine rU ?_;have hb0:b=false:=T.flag;have hys:=(hz hb0).2 rfl;rw[hys];clear hz ih;rw[hge] at hb hyl;clear hge hi;have hw6:bm vb=some ys.length:=by
   rw[hyl];exact hb.row.bm
  have ghb:∀g,vb.av g→A4.aa≤g:=gb;have uhb:∀g,vb.av g→g<A5.aa:=hb.row.under T.Fi.wf;generalize y3=y at *;refine gO ?_;have hc:=T.ps.cell;refine tD ?_;refine bW rfl rfl rfl rfl ?_;refine aq rfl rfl rfl ?_;generalize hf9:A5.aa=f9;refine dN (n:=6) (cs:=au dL .aj) hw h T hf9 ?_;intro A6 x9 p9 o6 c9 T;obtain⟨c3,c4,c5⟩:=o6.k3 c3 c4 c5;replace hb:=hb.k o6;have l6:=T.Fi.wf _ _ c9;refine oP ?_;refine aC ?_;refine zC rfl (jj T.Fi.wf T.ps.eO) ?_;rintro r A7 ⟨o7,hr⟩;replace T:=T.quiet o7;obtain⟨c3,c4,c5,c9⟩:=o7.k4 c3 c4 c5 c9;replace hb:=hb.k o7;have m7:=o7.aa;cases hmb:dM Y.X.cs Y.X.hs y.2 t.s 4 with
  | none=>
   rw[hmb] at hr;have hr:r=.tuple [.agg (au dL .aj),.bool false]:=hr;subst hr;refine sA ?_;refine aC ?_;refine zS c9 ?_;refine aJ (cs:=au dL .aj) hw h T x9 c9 ?_;intro A8 o8 cN T2;replace T:=T2;clear T2 cN;obtain⟨c3,c4,c5⟩:=o8.k3 c3 c4 c5;refine sA ?_;refine aC ?_;refine sA ?_;refine eD ?_;refine tD ?_;by_cases h4:y.1=4
   ·refine aL 59 false rfl (yF fun h=>h h4) ?_;refine dO ?_
    try refine aL 63 true rfl rfl ?_
    refine dO ?_;refine rD ?_;refine zL c3 ?_;refine eR ?_;refine aC ?_;refine sA ?_;refine dO ?_;refine aC ?_;refine zC rfl (ah T.Fi.wf T.ps) ?_;rintro r A9 ⟨rfl,t9⟩;replace T:=T.then t9;replace c4:=t9.Fi.k c4;refine sA ?_;refine eD ?_;refine rU ?_;refine zC rfl (aU T.Fi.wf) ?_;rintro r A10 ⟨rfl,o10⟩;replace T:=T.quiet o10;replace c4:=o10.k c4;refine gO ?_;refine zS c4 ?_;refine aJ (cs:=bc (6,[])) hw h T x4 c4 ?_;intro A11 o11 c4 T;refine gO ?_;refine zT c4 ?_;exact XP.none T fun _=>xZ hmb
   ·refine aL 59 true rfl (yT h4) ?_;refine dO ?_
    try refine aL 63 true rfl rfl ?_
    refine dO ?_;refine rD ?_;refine zL c3 ?_;refine eR ?_;refine aC ?_;refine sA ?_;refine dO ?_;refine aC ?_;refine zC rfl (ah T.Fi.wf T.ps) ?_;rintro r A9 ⟨rfl,t9⟩;replace T:=T.then t9;replace c4:=t9.Fi.k c4;refine sA ?_;refine eD ?_;refine rU ?_;refine zC rfl (aU T.Fi.wf) ?_;rintro r A10 ⟨rfl,o10⟩;replace T:=T.quiet o10;replace c4:=o10.k c4;refine gO ?_;refine zS c4 ?_;refine aJ (cs:=bc (6,[])) hw h T x4 c4 ?_;intro A11 o11 c4 T;refine gO ?_;refine zT c4 ?_;exact XP.none T fun _=>callY_4 h4
  | some m=>
   rw[hmb] at hr;obtain⟨km,hr,Nm⟩:∃km,r=.tuple [.agg (au m km),.bool true]∧aI A7 (fun g=>g<Y.X.M∨A6.aa≤g) m km:=hr;replace Nm:=Nm.mono (S':=fun g=>g<Y.X.M∨(A6.aa≤g∧g<A7.aa)) fun g hg ⟨F,hF⟩=>hg.elim .inl fun hg=>.inr ⟨hg,T.Fi.wf g F hF⟩;subst hr;refine sA ?_;refine aC ?_;refine zS c9 ?_;refine aJ (cs:=au m km) hw h T x9 c9 ?_;intro A8 o8 c9 T;obtain⟨c3,c4,c5⟩:=o8.k3 c3 c4 c5;replace Nm:=Nm.k o8;replace hb:=hb.ae o8 fun g hg e=>by have e:g=f9:=e;have:=ghb g hg;have:=uhb g hg;omega
   have m8:=o8.aa;refine sA ?_;refine aC ?_;refine sA ?_;refine eD ?_;refine tD ?_;by_cases h4:y.1=4
   ·refine aL 59 false rfl (yF fun h=>h h4) ?_;have hm:=jg h.eO.mem hmb;have hm2:=hm.1.2 hm.2;refine dR ?_
    try refine aL 63 false rfl rfl ?_
    refine rD ?_;refine zL c9 ?_;refine eR ?_;refine rD ?_;refine zJ hw6 ?_;refine eR ?_;refine rD ?_;refine zL c3 ?_;refine eR ?_;refine aC ?_;refine zC rfl (dH T.Fi.wf Nm hm2.1) ?_;rintro rp A9 ⟨Np,o9⟩;replace T:=T.quiet o9;obtain⟨c3,c4,c9⟩:=o9.k3 c3 c4 c9;replace Nm:=Nm.k o9;replace hb:=hb.k o9;have m9:=o9.aa;have lp:bm rp=some (params m).length:=Np.bm;refine sA ?_;refine rD ?_;refine zJ lp ?_;refine eR ?_;refine aC ?_;refine zC rfl (ah T.Fi.wf T.ps) ?_;rintro r A10 ⟨rfl,t10⟩;replace T:=T.then t10;obtain⟨c3,c4,c9⟩:=t10.Fi.k3 c3 c4 c9;replace Nm:=t10.tree (fun g hg e=>by rcases hg with hg|hg<;>omega) Nm;replace hb:=hb.k t10.Fi;have m10:=t10.Fi.aa;refine sA ?_;refine aK ?_;by_cases hln:¬(params m).length=ys.length
    ·replace T:BT A A10 Y b (decide (¬((params m).length:Int)=(ys.length:Int)) || false):=T;refine cD (p:=¬((params m).length:Int)=(ys.length:Int)) (congrArg (fun x=>some (AV.bool x)) (Bool.or_false _)) (fun hx=>?_) fun hx=>absurd (fun e=>hln (Int.ofNat.inj e)) hx;rw[yT hx] at T;refine wC (aU T.Fi.wf) ?_;rintro r A11 ⟨rfl,o11⟩;replace T:=T.quiet o11;replace c4:=o11.k c4;refine gO ?_;refine zS c4 ?_;refine aJ (cs:=bc (6,[])) hw h T x4 c4 ?_;intro A12 o12 c4 T;refine gO ?_;refine zT c4 ?_;exact XP.none T fun _=>vh hmb hln
    ·have hln:=Decidable.not_not.1 hln;replace T:BT A A10 Y b (decide (¬((params m).length:Int)=(ys.length:Int)) || false):=T;refine cD (p:=¬((params m).length:Int)=(ys.length:Int)) (congrArg (fun x=>some (AV.bool x)) (Bool.or_false _)) (fun hx=>absurd (congrArg Int.ofNat hln) hx) fun hx=>?_;rw[yF hx] at T;replace T:BT A A10 Y b false:=T;refine wL c9 ?_;refine zC rfl (dH T.Fi.wf Nm hm2.1) ?_;rintro rq A11 ⟨Nq,o11⟩;replace T:=T.quiet o11;obtain⟨c3,c4,c9⟩:=o11.k3 c3 c4 c9;replace Nm:=Nm.k o11;replace hb:=hb.k o11;have m11:=o11.aa;refine wC (li T.Fi.wf Nq hm2.2) ?_;rintro rt A12 ⟨ht,ght,o12⟩;replace T:=T.quiet o12;obtain⟨c3,c4,c9⟩:=o12.k3 c3 c4 c9;replace Nm:=Nm.k o12;replace hb:=hb.k o12;have m12:=o12.aa;refine wJ ht.row.bm ?_;generalize hps:params m=ps at *;refine aE ?_
     refine yL (pp 0 Y.fb (pp 3 f3 (pp 4 f4 (pv 6 vb (pp 9 f9 (pv 76 rt (pn 77 ps.length (pn 78 0 .nil)))))))) ?_;refine aV (ι:=Nat) (fun i=>ps.length-i) (fun i=>(pp 0 Y.fb (pp 3 f3 (pp 4 f4 (pv 6 vb (pp 9 f9 (pv 76 rt (pn 77 ps.length (pn 78 i .nil))))))))) (fun i B=>∃b3,BT A B Y b b3∧gt B f3 6 (au t kv)∧gt B f4 2 (bc (0,[]))∧gt B f9 6 (au m km)∧aI B (fun g=>g<Y.X.M∨(A6.aa≤g∧g<A7.aa)) m km∧eH B 2 vb us.length (ys.flatMap bc)∧eH B 2 rt ps.length ((ps.map first).flatMap bc)∧A12.aa≤B.aa∧i≤ps.length∧(b3=false↔∀j,j<i→bI Y.X.hs (mU ys j) (first (ps.getD j dL)))) ?_ 0 A12 ⟨false,T,c3,c4,c9,Nm,hb,ht,Nat.le_refl _,Nat.zero_le _,fun _ j hj=>absurd hj (Nat.not_lt_zero _),fun _=>rfl⟩;have T0:=T.Fi.aa;clear T c3 c4 c9 Nm hb ht;rintro i A13 ⟨b3,T,c3,c4,c9,Nm,hb,ht,mB,hi,hf⟩ ih;refine wD (fun hlt=>?_) fun hge=>?_
     ·have uhb:∀g,vb.av g→g<A13.aa:=hb.row.under T.Fi.wf;have uht:∀g,rt.av g→g<A13.aa:=ht.row.under T.Fi.wf;have ght:∀g,rt.av g→A11.aa≤g:=ght;have hlt:i<ps.length:=Int.ofNat_lt.1 hlt;have hly:i<ys.length:=om;have hu:(ps.map first)[i]?=some (first ps[i]):=by rw[List.getElem?_map,gE hlt];rfl
      have hv:ys[i]?=some ys[i]:=gE hly;have ea:mU ys i=ys[i]:=by unfold mU;rw[List.getD_eq_getElem?_getD,hv];rfl
      have eb:ps.getD i dL=ps[i]:=by rw[List.getD_eq_getElem?_getD,gE hlt];rfl
      rw[←ea] at hv;rw[←eb] at hu;generalize hgp:first (ps.getD i dL)=gp at hu
      generalize hgy:mU ys i=gy at hv;obtain⟨fr,tr,or,cr,er,rr,ar,hvv,hr,hlr,cw⟩:=dT (cl:=bc) (fun _=>rfl) (show Row A13 2 rt (ps.map first).length ((ps.map first).flatMap bc) by rw[lM];exact ht.row) hu;rw[lM] at hvv hlr;refine wI hvv hlr ?_;refine zK hr ((cw 2 0 dE).trans rfl) ?_;refine oP ?_;refine aq rfl rfl rfl ?_;generalize hf12:A13.aa=f12;refine dN (n:=2) (cs:=bc (0,[])) hw h T hf12 ?_;intro A14 x12 p12 o14 c12 T;obtain⟨c3,c4,c9⟩:=o14.k3 c3 c4 c9;replace Nm:=Nm.k o14;replace hb:=hb.k o14;replace ht:=ht.k o14;have l14:=T.Fi.wf _ _ c12;refine oP ?_;refine zS c12 ?_;refine aJ (cs:=bc gp) hw h T x12 c12 ?_;intro A15 o15 c12 T;obtain⟨c3,c4,c9⟩:=o15.k3 c3 c4 c9;replace Nm:=Nm.k o15;replace hb:=hb.ae o15 fun g hg e=>by have e:g=f12:=e;have:=ghb g hg;have:=uhb g hg;omega
      replace ht:=ht.ae o15 fun g hg e=>by have e:g=f12:=e;have:=ght g hg;have:=uht g hg;omega
      have m15:=o15.aa;obtain⟨fs,tS,oS,cS,eS,rS,aS,hvs,hS,hlS,hatS⟩:=dT (cl:=bc) (fun _=>rfl) (show Row A15 2 vb ys.length (ys.flatMap bc) by rw[hyl];exact hb.row) hv;refine tD ?_;refine ax rfl rfl rfl rfl rfl ?_;refine zI i hvs hlS ?_;refine eP ?_;refine rD ?_;refine zK hS ((hatS 2 0 dE).trans rfl) ?_;refine eR ?_;refine rD ?_;refine zL c12 ?_;refine eR ?_;refine rD ?_;refine zL c3 ?_;refine eR ?_;refine aC ?_;refine zC rfl (iu T.Fi.wf T.ps) ?_;rintro r A16 ⟨rfl,o16⟩;replace T:=T.quiet o16;obtain⟨c3,c4,c9⟩:=o16.k3 c3 c4 c9;replace Nm:=Nm.k o16;replace hb:=hb.k o16;replace ht:=ht.k o16;have m16:=o16.aa;refine sA ?_;refine aC ?_;refine zC rfl (ah T.Fi.wf T.ps) ?_;rintro r A17 ⟨rfl,t17⟩;replace T:=T.then t17;obtain⟨c3,c4,c9⟩:=t17.Fi.k3 c3 c4 c9;replace Nm:=t17.tree (fun g hg e=>by rcases hg with hg|hg<;>omega) Nm;replace hb:=hb.k t17.Fi
      replace ht:=ht.ae t17.Fi fun g hg e=>by have e:g=Y.X.pc:=e;have:=ght g hg;omega
      have m17:=t17.Fi.aa;refine sA ?_;refine eD ?_;refine wP ?_;refine ai ?_;refine yL (pp 0 Y.fb (pp 3 f3 (pp 4 f4 (pv 6 vb (pp 9 f9 (pv 76 rt (pn 77 ps.length (pn 78 (i+1:Nat) .nil)))))))) ?_;refine ih (i+1) A17 om ⟨_,T,c3,c4,c9,Nm,hb,ht,om,hlt,?_⟩;constructor
      ·intro e j hj;obtain⟨e1,e2⟩:=Bool.or_eq_false_iff.1 e;have e1:bI Y.X.hs gy gp:=by
        have:=congrArg not e1;rw[Bool.not_not] at this;exact of_decide_eq_true this
       rcases Nat.lt_succ_iff_lt_or_eq.1 hj with hj|rfl
       ·exact hf.1 e2 j hj
       ·rw[hgp,hgy];exact e1
      ·intro e;have e1:=e i (Nat.lt_succ_self _);rw[hgp,hgy] at e1;exact Bool.or_eq_false_iff.2 ⟨congrArg not (yT e1),hf.2 fun j hj=>e j om⟩
     have hge:i=ps.length:=by
      omega
     refine ay rfl ?_;rw[hge] at hf;refine wL c9 ?_;refine zC rfl (eN T.Fi.wf Nm hm.1.1) ?_;rintro r A14 ⟨rfl,o14⟩;replace T:=T.quiet o14;replace c4:=o14.k c4;refine gO ?_;refine zS c4 ?_;refine aJ (cs:=bc (first m)) hw h T x4 c4 ?_;intro A15 o15 c4 T;refine gO ?_;cases b3 with
     | true=>
      refine zT c4 ?_;exact XP.none T fun _=>(mM (C:=Y.cx) h4 hmb (hps▸hln)).trans (if_neg fun h=>by rw[hps] at h;cases hf.2 h)
     | false=>
      refine zT c4 ?_;exact XP.same (hb0▸T) ((mM (C:=Y.cx) h4 hmb (hps▸hln)).trans (iP (by rw[hps];exact hf.1 rfl)))
   ·refine aL 59 true rfl (yT h4) ?_;refine dO ?_
    try refine aL 63 true rfl rfl ?_
    refine dO ?_;refine rD ?_;refine zL c3 ?_;refine eR ?_;refine aC ?_;refine sA ?_;refine dO ?_;refine aC ?_;refine zC rfl (ah T.Fi.wf T.ps) ?_;rintro r A9 ⟨rfl,t9⟩;replace T:=T.then t9;replace c4:=t9.Fi.k c4;refine sA ?_;refine eD ?_;refine rU ?_;refine zC rfl (aU T.Fi.wf) ?_;rintro r A10 ⟨rfl,o10⟩;replace T:=T.quiet o10;replace c4:=o10.k c4;refine gO ?_;refine zS c4 ?_;refine aJ (cs:=bc (6,[])) hw h T x4 c4 ?_;intro A11 o11 c4 T;refine gO ?_;refine zT c4 ?_;exact XP.none T fun _=>callY_4 h4
end Go.Proofs.YtafamggbkobcfaaGreat.Ae
