/- A part of the proof of the statement CheckTypes. -/
import Derived.Test.YtafamggbkobcfaaGreatAiSyK12
namespace Go.Proofs.YtafamggbkobcfaaGreat.Ae
open Go.AE
set_option linter.unusedVariables false
set_option maxRecDepth 100000
set_option maxHeartbeats 4000000 in
theorem ya{K:FuncId}{n:Nat}{P:Nd→Prop}(hV:zO K 21 P fun C t=>cW C n t)(hC:zO K 91 (fun t=>t.l≠[]∧∀u∈t.l,P u) fun C t=>cK C (cW C n) t):
 zO K 92 (fun t=>t.l≠[]∧(∀u∈t.l,P u)∧((ba t).k=29→(ba t).l≠[])∧∀w∈(ba t).l,P w) fun C t=>if (ba t).k≠29 then none else match cK C (cW C n) (ba t) with
 | none=>none
 | some y=>if y.1=0∧(ba t).l.length=1 then some (1,[]) else none:=by
 intro A Y b t kv hw h N hP;obtain⟨hA,hE,hul,hE2⟩:=hP;obtain⟨u,hu⟩:∃u,t.l[0]?=some u:=⟨_,gE (List.length_pos_iff.2 hA)⟩;have hk:ba t=u:=by
  unfold ba;rw[List.headD_eq_head?_getD,List.head?_eq_getElem?,hu];rfl
 rw[hk] at hul hE2;show aD (ES K) _ _ A fun r A1=>XP A A1 Y b (if (ba t).k≠29 then none else match cK Y.cx (cW Y.cx n) (ba t) with
  | none=>none
  | some y=>if y.1=0∧(ba t).l.length=1 then some (1,[]) else none) r
 refine ap rfl rfl rfl ?_;have T:=BT.refl hw h;refine gO ?_;refine bA rfl rfl rfl rfl ?_;generalize hf3:A.aa=f3;refine dN (n:=6) (cs:=au t kv) hw h T hf3 ?_;intro A1 x3 p3 o1 c3 T;refine aq rfl rfl rfl ?_;generalize hf4:A1.aa=f4;refine dN (n:=2) (cs:=bc (0,[])) hw h T hf4 ?_;intro A2 x4 p4 o2 c4 T;replace c3:=o2.k c3;refine gO ?_;obtain⟨fk,sk,ok,ck,ek,rk,ak,ku,hv,_,hh,hlk,Nu,cw⟩:=bv (T.bl N) hu;refine zI 0 hv hlk ?_;refine zK hh ((cw 6 0 (Nat.le_refl _)).trans rfl) ?_;refine oP ?_;refine aq rfl rfl rfl ?_;refine zS (by rw[AW.add_get,iP rfl]) ?_;generalize hf5:A2.aa=f5;refine fG (n:=6) (cs:=au u ku) hw h T hf5 ?_;intro A3 x5 p5 o3 c5 T;obtain⟨c3,c4⟩:=o3.k2 c3 c4;replace Nu:=Nu.k o3;refine wD (fun k29=>?_) fun k29=>?_
 ·refine wL c5 ?_;refine zC rfl (hV T.Fi.wf T.ps Nu (hE u (mG hu))) ?_;rintro r A4 ⟨y4,b4,rfl,t4,z4⟩;replace T:=T.then t4;obtain⟨c3,c4⟩:=t4.Fi.k2 c3 c4;refine wL c3 ?_;refine zC rfl (ah T.Fi.wf T.ps) ?_;rintro r A5 ⟨rfl,t5⟩;replace T:=T.then t5;replace c4:=t5.Fi.k c4;refine wC (aU T.Fi.wf) ?_;rintro r A6 ⟨rfl,o6⟩;replace T:=T.quiet o6;replace c4:=o6.k c4;refine gO ?_;refine zS c4 ?_;refine aJ (cs:=bc (6,[])) hw h T x4 c4 ?_;intro A7 o7 cN T2;replace T:=T2;replace c4:=cN;clear T2 cN;refine gO ?_;refine zT c4 ?_;exact XP.none T fun _=>iP (by rw[hk];exact k29)
 have k29:=Decidable.not_not.1 k29;refine wL c5 ?_;refine zC rfl (hC T.Fi.wf T.ps Nu ⟨hul k29,fun w hw=>hE2 w hw⟩) ?_;rintro r A4 ⟨y4,b4,rfl,t4,z4⟩;replace T:=T.then t4;obtain⟨c3,c4,c5⟩:=t4.Fi.k3 c3 c4 c5;replace Nu:=t4.bl Nu;refine oP ?_;refine aq rfl rfl rfl ?_;refine zS (by rw[AW.add_get,iP rfl]) ?_;generalize hf6:A4.aa=f6;refine fG (n:=2) (cs:=bc y4) hw h T hf6 ?_;intro A5 x6 p6 o5 c6 T;obtain⟨c3,c4,c5⟩:=o5.k3 c3 c4 c5;replace Nu:=Nu.k o5;have hlu:bm ku=some u.l.length:=Nu.bm;have hl9:=Nu.len;refine gO ?_;by_cases h0:y4.1=0
 ·refine aF 28 false rfl (yF fun h=>h h0) ?_;refine wJ hlu ?_;refine wL c3 ?_;refine zC rfl (ah T.Fi.wf T.ps) ?_;rintro r A6 ⟨rfl,t6⟩;replace T:=T.then t6;replace c4:=t6.Fi.k c4;by_cases h1:(1:Int)<(u.l.length:Int)
  ·refine wC (aU T.Fi.wf) ?_;rintro r A7 ⟨rfl,o7⟩;replace T:=T.quiet o7;replace c4:=o7.k c4;refine gO ?_;refine zS c4 ?_;refine aJ (cs:=bc (1,[])) hw h T x4 c4 ?_;intro A8 o8 cN T2;replace T:=T2;replace c4:=cN;clear T2 cN;refine gO ?_;refine zT c4 ?_;refine XP.mk T fun hb=>?_;have hz:=z4 hb;have e:(if (ba t).k≠29 then none else match cK Y.cx (cW Y.cx n) (ba t) with
    | none=>none
    | some y=>if y.1=0∧(ba t).l.length=1 then some (1,[]) else none:Option bM)=match cK Y.cx (cW Y.cx n) u with
    | none=>none
    | some y=>if y.1=0∧u.l.length=1 then some (1,[]) else none:=by
    rw[hk];exact iN fun h=>h k29
   show (match (if (ba t).k≠29 then none else match cK Y.cx (cW Y.cx n) (ba t) with
    | none=>none
    | some y=>if y.1=0∧(ba t).l.length=1 then some (1,[]) else none:Option bM) with
    | none=>_
    | some w=>_)
   rw[e];cases hr:cK Y.cx (cW Y.cx n) u with
   | none=>
    replace hz:b4=true:=by
     have:=hz;simp only[hr] at this;exact this
    show (_ || b4)=true;rw[hz,Bool.or_true]
   | some w=>
    obtain⟨z1,rfl⟩:b4=false∧y4=w:=by
     have:=hz;simp only[hr] at this;exact this
    show (match (if y4.1=0∧u.l.length=1 then some (1,[]) else none:Option bM) with
     | none=>_
     | some w=>_)
    rw[iN (fun h=>by have:=h.2;omega)];exact Bool.or_eq_true_iff.2 (.inl (yT h1))
  ·refine wC (aU T.Fi.wf) ?_;rintro r A7 ⟨rfl,o7⟩;replace T:=T.quiet o7;replace c4:=o7.k c4;refine gO ?_;refine zS c4 ?_;refine aJ (cs:=bc (1,[])) hw h T x4 c4 ?_;intro A8 o8 cN T2;replace T:=T2;replace c4:=cN;clear T2 cN;refine gO ?_;refine zT c4 ?_;refine XP.mk T fun hb=>?_;have hz:=z4 hb;have e:(if (ba t).k≠29 then none else match cK Y.cx (cW Y.cx n) (ba t) with
    | none=>none
    | some y=>if y.1=0∧(ba t).l.length=1 then some (1,[]) else none:Option bM)=match cK Y.cx (cW Y.cx n) u with
    | none=>none
    | some y=>if y.1=0∧u.l.length=1 then some (1,[]) else none:=by
    rw[hk];exact iN fun h=>h k29
   show (match (if (ba t).k≠29 then none else match cK Y.cx (cW Y.cx n) (ba t) with
    | none=>none
    | some y=>if y.1=0∧(ba t).l.length=1 then some (1,[]) else none:Option bM) with
    | none=>_
    | some w=>_)
   rw[e];cases hr:cK Y.cx (cW Y.cx n) u with
   | none=>
    replace hz:b4=true:=by
     have:=hz;simp only[hr] at this;exact this
    show (_ || b4)=true;rw[hz,Bool.or_true]
   | some w=>
    obtain⟨z1,rfl⟩:b4=false∧y4=w:=by
     have:=hz;simp only[hr] at this;exact this
    show (match (if y4.1=0∧u.l.length=1 then some (1,[]) else none:Option bM) with
     | none=>_
     | some w=>_)
    have:=List.length_pos_iff.2 (hul k29);rw[iP ⟨h0,om⟩];exact⟨Bool.or_eq_false_iff.2 ⟨yF h1,z1⟩,rfl⟩
 ·refine wT 28 h0 ?_;refine wL c3 ?_;refine zC rfl (ah T.Fi.wf T.ps) ?_;rintro r A6 ⟨rfl,t6⟩;replace T:=T.then t6;replace c4:=t6.Fi.k c4;refine wC (aU T.Fi.wf) ?_;rintro r A7 ⟨rfl,o7⟩;replace T:=T.quiet o7;replace c4:=o7.k c4;refine gO ?_;refine zS c4 ?_;refine aJ (cs:=bc (1,[])) hw h T x4 c4 ?_;intro A8 o8 cN T2;replace T:=T2;replace c4:=cN;clear T2 cN;refine gO ?_;refine zT c4 ?_;refine XP.mk T fun hb=>?_;have hz:=z4 hb;have e:(if (ba t).k≠29 then none else match cK Y.cx (cW Y.cx n) (ba t) with
   | none=>none
   | some y=>if y.1=0∧(ba t).l.length=1 then some (1,[]) else none:Option bM)=match cK Y.cx (cW Y.cx n) u with
   | none=>none
   | some y=>if y.1=0∧u.l.length=1 then some (1,[]) else none:=by
   rw[hk];exact iN fun h=>h k29
  show (match (if (ba t).k≠29 then none else match cK Y.cx (cW Y.cx n) (ba t) with
   | none=>none
   | some y=>if y.1=0∧(ba t).l.length=1 then some (1,[]) else none:Option bM) with
   | none=>_
   | some w=>_)
  rw[e];cases hr:cK Y.cx (cW Y.cx n) u with
  | none=>
   replace hz:b4=true:=by
    have:=hz;simp only[hr] at this;exact this
   show (_ || b4)=true;rw[hz,Bool.or_true]
  | some w=>
   obtain⟨z1,rfl⟩:b4=false∧y4=w:=by
    have:=hz;simp only[hr] at this;exact this
   show (match (if y4.1=0∧u.l.length=1 then some (1,[]) else none:Option bM) with
    | none=>_
    | some w=>_)
   rw[iN fun h=>h0 h.1];rfl
structure EOk (P:Nd→Prop) (t:Nd) : Prop where
 Cv:t.k=31∨t.k=36→nm t.s
 call:t.k=29→t.l≠[]∧∀u∈t.l,P u
 spawn:t.k=33→t.l≠[]∧(∀u∈t.l,P u)∧((ba t).k=29→(ba t).l≠[])∧∀w∈(ba t).l,P w
 asks:¬t.k=23→¬t.k=24→¬t.k=25→¬t.k=26→¬t.k=27→¬t.k=31→¬t.k=29→¬t.k=33→As t∧∀u∈t.l,P u
set_option maxHeartbeats 4000000 in
theorem zU{K:FuncId}{n:Nat}{P:Nd→Prop}(hV:zO K 21 P fun C t=>cW C n t): zO K 54 (EOk P) fun C t=>eE C (cW C n) t:=by
 have hC:zO K 91 (fun t=>t.l≠[]∧∀u∈t.l,P u) fun C t=>cK C (cW C n) t:=tV hV;have hS:zO K 92 (fun t=>t.l≠[]∧(∀u∈t.l,P u)∧((ba t).k=29→(ba t).l≠[])∧∀w∈(ba t).l,P w) fun C t=>if (ba t).k≠29 then none else match cK C (cW C n) (ba t) with
  | none=>none
  | some y=>if y.1=0∧(ba t).l.length=1 then some (1,[]) else none:=ya hV hC
 have hQ:zO K 93 (fun t=>As t∧∀u∈t.l,P u) fun C t=>match db (cW C n) t.l with
  | none=>none
  | some ys=>fF C t ys:=zQ hV
 intro A Y b t kv hw h N hP;obtain⟨hnm,h29,h33,hAs⟩:=hP;show aD (ES K) _ _ A fun r A1=>XP A A1 Y b (eE Y.cx (cW Y.cx n) t) r;refine ap rfl rfl rfl ?_;have T:=BT.refl hw h;have hlp:=h.lt hw;have hM:=h.eO.le;refine gO ?_;refine bA rfl rfl rfl rfl ?_;generalize hf3:A.aa=f3;refine dN (n:=6) (cs:=au t kv) hw h T hf3 ?_;intro A1 x3 p3 o1 c3 T2;replace T:=T2;clear T2;have m1:=o1.aa;have l1:=T.Fi.wf _ _ c3;refine aq rfl rfl rfl ?_;generalize hf4:A1.aa=f4;refine dN (n:=2) (cs:=bc (0,[])) hw h T hf4 ?_;intro A2 x4 p4 o2 c4 T2;replace T:=T2;clear T2;replace c3:=o2.ae _ _ c3 fun h=>h;have m2:=o2.aa;have l2:=T.Fi.wf _ _ c4;have hst:=N.bh;have hc:=T.ps.cell;obtain⟨fe,hpc⟩:=T.ps.eO.cell;refine gO ?_;cases b with
 | true=>
  refine bL (v:=.bool true) rfl rfl rfl rfl ?_;refine rU ?_;refine cY rfl rfl bF rfl (aU T.Fi.wf) ?_;rintro r A3 ⟨rfl,o3⟩;replace T:=T.quiet o3;replace c3:=o3.ae _ _ c3 fun h=>h;replace c4:=o3.ae _ _ c4 fun h=>h;have m3:=o3.aa;refine gO ?_;refine bx rfl rfl rfl rfl rfl rfl c4 rfl ?_;refine aJ (cs:=bc (6,[])) hw h T x4 c4 ?_;intro A4 o4 cN T2;replace T:=T2;replace c4:=cN;clear T2 cN;replace c3:=o4.ae _ _ c3 fun e=>by have e:f3=f4:=e;omega
  have m4:=o4.aa;refine gO ?_;refine zT c4 ?_;exact XP.none T fun h=>by cases h
 | false=>
  refine bL (v:=.bool false) rfl rfl rfl rfl ?_;refine rU ?_;refine zG (fun k23=>?_) fun k23=>?_
  ·refine wC (aU T.Fi.wf) ?_;rintro r A3 ⟨rfl,o3⟩;replace T:=T.quiet o3;replace c4:=o3.k c4;refine gO ?_;refine zS c4 ?_;refine aJ (cs:=bc (1,[])) hw h T x4 c4 ?_;intro A4 o4 cN T2;replace T:=T2;replace c4:=cN;clear T2 cN;refine gO ?_;refine zT c4 ?_;exact XP.same T (iP k23)
  refine wD (fun k24=>?_) fun k24=>?_
  ·refine wC (aU T.Fi.wf) ?_;rintro r A3 ⟨rfl,o3⟩;replace T:=T.quiet o3;replace c4:=o3.k c4;refine gO ?_;refine zS c4 ?_;refine aJ (cs:=bc (2,[])) hw h T x4 c4 ?_;intro A4 o4 cN T2;replace T:=T2;replace c4:=cN;clear T2 cN;refine gO ?_;refine zT c4 ?_;exact XP.same T ((iN k23).trans (iP k24))
  refine wD (fun k25=>?_) fun k25=>?_
  ·refine wC (aU T.Fi.wf) ?_;rintro r A3 ⟨rfl,o3⟩;replace T:=T.quiet o3;replace c4:=o3.k c4;refine gO ?_;refine zS c4 ?_;refine aJ (cs:=bc (5,[])) hw h T x4 c4 ?_;intro A4 o4 cN T2;replace T:=T2;replace c4:=cN;clear T2 cN;refine gO ?_;refine zT c4 ?_;exact XP.same T ((iN k23).trans ((iN k24).trans (iP k25)))
  refine wD (fun k26=>?_) fun k26=>?_
  ·refine wC (ee T.Fi.wf) ?_;rintro r A3 ⟨rfl,o3⟩;replace T:=T.quiet o3;replace c4:=o3.k c4;rw[h.hc];refine gO ?_;refine zS c4 ?_;refine aJ (cs:=bc (4,Y.cls)) hw h T x4 c4 ?_;intro A4 o4 cN T2;replace T:=T2;replace c4:=cN;clear T2 cN;refine gO ?_;refine zT c4 ?_;exact XP.same T ((iN k23).trans ((iN k24).trans ((iN k25).trans (iP k26))))
  refine wD (fun k27=>?_) fun k27=>?_
  ·refine wC (og T.Fi.wf T.ps) ?_;rintro r A3 ⟨o3,y,x,rfl,hf⟩;replace T:=T.quiet o3;replace hf:=hf rfl;obtain⟨c3,c4⟩:=o3.k2 c3 c4;refine oP ?_;refine aq rfl rfl rfl ?_;refine zS (by rw[AW.add_get,iP rfl]) ?_;generalize hf5:A3.aa=f5;refine fG (n:=2) (cs:=bc y) hw h T hf5 ?_;intro A4 x5 p5 o4 c5 T;obtain⟨c3,c4⟩:=o4.k2 c3 c4;refine wL c3 ?_;refine zC rfl (ah T.Fi.wf T.ps) ?_;rintro r A5 ⟨rfl,t5⟩;replace T:=T.then t5;obtain⟨c4,c5⟩:=t5.Fi.k2 c4 c5;refine wL c5 ?_;refine zS c4 ?_;refine aJ (cs:=bc y) hw h T x4 c4 ?_;intro A6 o6 cN T2;replace T:=T2;replace c4:=cN;clear T2 cN;refine gO ?_;cases x with
   | true=>
    refine zT c4 ?_;exact XP.same T ((iN k23).trans ((iN k24).trans ((iN k25).trans ((iN k26).trans ((iP k27).trans hf)))))
   | false=>
    refine zT c4 ?_;exact XP.none T fun _=>(iN k23).trans ((iN k24).trans ((iN k25).trans ((iN k26).trans ((iP k27).trans hf))))
  refine wD (fun k31=>?_) fun k31=>?_
  ·have hc:=T.ps.cell;obtain⟨fe,hpc⟩:=T.ps.eO.cell;refine tD ?_;refine rD ?_;refine zL c3 ?_;refine eR ?_;refine aC ?_;refine zC rfl (gR T.ps.eO.hi) ?_;rintro r A' ⟨rfl,rfl⟩;refine sA ?_;refine aC ?_;refine zC rfl (ah T.Fi.wf T.ps) ?_;rintro r A3 ⟨rfl,t3⟩;replace T:=T.then t3;obtain⟨c3,c4⟩:=t3.Fi.k2 c3 c4;refine sA ?_;refine eD ?_;refine zC rfl (ee T.Fi.wf) ?_;rintro r A4 ⟨rfl,o4⟩;replace T:=T.quiet o4;replace c4:=o4.k c4;rw[kL (hnm (.inl k31))];refine gO ?_;refine zS c4 ?_;refine aJ (cs:=bc (4,t.s)) hw h T x4 c4 ?_;intro A5 o5 cN T2;replace T:=T2;replace c4:=cN;clear T2 cN;refine gO ?_;cases hhas:has Y.X.hs t.s with
   | false=>
    rw[hhas] at T;refine zT c4 ?_;exact XP.none T fun _=>(iN k23).trans ((iN k24).trans ((iN k25).trans ((iN k26).trans ((iN k27).trans ((iP k31).trans (iN fun h=>by rw[show has Y.cx.hs t.s=false from hhas] at h;exact absurd h dE))))))
   | true=>
    rw[hhas] at T;refine zT c4 ?_;exact XP.same T ((iN k23).trans ((iN k24).trans ((iN k25).trans ((iN k26).trans ((iN k27).trans ((iP k31).trans (iP hhas)))))))
  refine wD (fun k29=>?_) fun k29=>?_
  ·refine wL c3 ?_;refine zC rfl (hC T.Fi.wf T.ps (T.bl N) (h29 k29)) ?_;rintro r A3 ⟨y3,b3,rfl,t3,z3⟩;replace T:=T.then t3;replace c4:=t3.Fi.k c4;refine gO ?_;refine zS c4 ?_;refine aJ (cs:=bc y3) hw h T x4 c4 ?_;intro A4 o4 cN T2;replace T:=T2;replace c4:=cN;clear T2 cN;refine gO ?_;refine zT c4 ?_;exact (XP.mk T fun _=>z3 rfl).tU ((iN k23).trans ((iN k24).trans ((iN k25).trans ((iN k26).trans ((iN k27).trans ((iN k31).trans (iP k29))))))).symm
  refine wD (fun k33=>?_) fun k33=>?_
  ·refine wL c3 ?_;refine zC rfl (hS T.Fi.wf T.ps (T.bl N) (h33 k33)) ?_;rintro r A3 ⟨y3,b3,rfl,t3,z3⟩;replace T:=T.then t3;replace c4:=t3.Fi.k c4;refine gO ?_;refine zS c4 ?_;refine aJ (cs:=bc y3) hw h T x4 c4 ?_;intro A4 o4 cN T2;replace T:=T2;replace c4:=cN;clear T2 cN;refine gO ?_;refine zT c4 ?_;exact (XP.mk T fun _=>z3 rfl).tU ((iN k23).trans ((iN k24).trans ((iN k25).trans ((iN k26).trans ((iN k27).trans ((iN k31).trans ((iN k29).trans (iP k33)))))))).symm
  refine wL c3 ?_;refine zC rfl (hQ T.Fi.wf T.ps (T.bl N) (hAs k23 k24 k25 k26 k27 k31 k29 k33)) ?_;rintro r A3 ⟨y3,b3,rfl,t3,z3⟩;replace T:=T.then t3;replace c4:=t3.Fi.k c4;refine gO ?_;refine zS c4 ?_;refine aJ (cs:=bc y3) hw h T x4 c4 ?_;intro A4 o4 cN T2;replace T:=T2;replace c4:=cN;clear T2 cN;refine gO ?_;refine zT c4 ?_;exact (XP.mk T fun _=>z3 rfl).tU ((iN k23).trans ((iN k24).trans ((iN k25).trans ((iN k26).trans ((iN k27).trans ((iN k31).trans ((iN k29).trans (iN k33)))))))).symm
theorem yb{K:FuncId}{n:Nat}{P:Nd→Prop}(hV:zO K 21 P fun C t=>cW C n t): zO K 21 (EOk P) fun C t=>cW C (n+1) t:=by
 intro A Y b t kv hw h N hP;show aD (ES K) _ _ A fun r A1=>XP A A1 Y b (cW Y.cx (n+1) t) r;refine ap rfl rfl rfl ?_;have T:=BT.refl hw h;refine gO ?_;refine bA rfl rfl rfl rfl ?_;generalize hf3:A.aa=f3;refine dN (n:=6) (cs:=au t kv) hw h T hf3 ?_;intro A1 x3 p3 o1 c3 T;refine aq rfl rfl rfl ?_;generalize hf4:A1.aa=f4;refine dN (n:=2) (cs:=bc (0,[])) hw h T hf4 ?_;intro A2 x4 p4 o2 c4 T;replace c3:=o2.k c3;refine wL c3 ?_;refine zC rfl (zU hV T.Fi.wf T.ps (T.bl N) hP) ?_;rintro r A3 ⟨y3,b3,rfl,t3,z3⟩;replace T:=T.then t3;obtain⟨c3,c4⟩:=t3.Fi.k2 c3 c4;refine oP ?_;refine aq rfl rfl rfl ?_;refine zS (by rw[AW.add_get,iP rfl]) ?_;generalize hf5:A3.aa=f5;refine fG (n:=2) (cs:=bc y3) hw h T hf5 ?_;intro A4 x5 p5 o4 c5 T;obtain⟨c3,c4⟩:=o4.k2 c3 c4;refine gO ?_;by_cases k29:t.k=29
 ·refine wT 13 k29 ?_;refine wL c3 ?_;refine zC rfl (ah T.Fi.wf T.ps) ?_;rintro r A5 ⟨rfl,t5⟩;replace T:=T.then t5;obtain⟨c4,c5⟩:=t5.Fi.k2 c4 c5;refine wL c5 ?_;refine zS c4 ?_;refine aJ (cs:=bc y3) hw h T x4 c4 ?_;intro A6 o6 cN T2;replace T:=T2;replace c4:=cN;clear T2 cN;refine gO ?_;refine zT c4 ?_;refine XP.mk T fun hb=>?_;have hz:=z3 hb;show (match (match eE Y.cx (cW Y.cx n) t with
   | none=>none
   | some y=>if t.k=29∧y.1=0 then none else some y:Option bM) with
   | none=>_
   | some w=>_)
  cases hr:eE Y.cx (cW Y.cx n) t with
  | none=>
   replace hz:b3=true:=by
    have:=hz;simp only[hr] at this;exact this
   show (_ || b3)=true;rw[hz,Bool.or_true]
  | some w=>
   obtain⟨z1,rfl⟩:b3=false∧y3=w:=by
    have:=hz;simp only[hr] at this;exact this
   show (match (if t.k=29∧y3.1=0 then none else some y3:Option bM) with
    | none=>_
    | some w=>_)
   by_cases h0:y3.1=0
   ·rw[iP ⟨k29,h0⟩];exact Bool.or_eq_true_iff.2 (.inl (yT h0))
   ·rw[iN fun h=>h0 h.2];exact⟨Bool.or_eq_false_iff.2 ⟨yF h0,z1⟩,rfl⟩
 ·refine wF 13 k29 ?_;refine wL c3 ?_;refine zC rfl (ah T.Fi.wf T.ps) ?_;rintro r A5 ⟨rfl,t5⟩;replace T:=T.then t5;obtain⟨c4,c5⟩:=t5.Fi.k2 c4 c5;refine wL c5 ?_;refine zS c4 ?_;refine aJ (cs:=bc y3) hw h T x4 c4 ?_;intro A6 o6 cN T2;replace T:=T2;replace c4:=cN;clear T2 cN;refine gO ?_;refine zT c4 ?_;refine XP.mk T fun hb=>?_;have hz:=z3 hb;show (match (match eE Y.cx (cW Y.cx n) t with
   | none=>none
   | some y=>if t.k=29∧y.1=0 then none else some y:Option bM) with
   | none=>_
   | some w=>_)
  cases hr:eE Y.cx (cW Y.cx n) t with
  | none=>
   replace hz:b3=true:=by
    have:=hz;simp only[hr] at this;exact this
   show (_ || b3)=true;rw[hz,Bool.or_true]
  | some w=>
   obtain⟨z1,rfl⟩:b3=false∧y3=w:=by
    have:=hz;simp only[hr] at this;exact this
   show (match (if t.k=29∧y3.1=0 then none else some y3:Option bM) with
    | none=>_
    | some w=>_)
   rw[iN fun h=>k29 h.1];exact⟨Bool.or_eq_false_iff.2 ⟨rfl,z1⟩,rfl⟩
theorem ex_ok{t:Nd}{n:Nat}(h:Ex t)(hs:sz t≤n+1): EOk (fun u=>Ex u∧sz u≤n) t:=by
 have hk:∀u∈t.l,sz u≤n:=fun u hu=>by
  have:=fE hu;omega
 cases h with
 | leaf hk'=>exact⟨fun h=>by simp only[Nd.k] at h;omega,fun h=>by simp only[Nd.k] at h;omega,fun h=>by simp only[Nd.k] at h;omega,fun a1 a2 a3 a4 a5 a6 a7 a8=>by simp only[Nd.k] at *;omega⟩
 | new hn=>exact⟨fun _=>hn,fun h=>absurd h (by show ¬(31:Int)=29;decide),fun h=>absurd h (by show ¬(31:Int)=33;decide),fun a1 a2 a3 a4 a5 a6 a7 a8=>absurd rfl a6⟩
 | @one k a s i x e hk' he=>
  have hP:∀u∈[e],Ex u∧sz u≤n:=fun u hu=>by
   have:=hk u hu;cases List.mem_singleton.1 hu;exact⟨he,this⟩
  refine⟨fun h=>by simp only[Nd.k] at h;omega,fun h=>by simp only[Nd.k] at h;omega,fun h=>⟨by simp [Nd.l],hP,fun h=>?_,fun w hw=>?_⟩,fun a1 a2 a3 a4 a5 a6 a7 a8=>⟨⟨Nat.le_refl _,fun h=>by simp only[Nd.k] at *;omega,fun h=>by simp only[Nd.k] at *;omega⟩,hP⟩⟩
  ·show e.l≠[];have h:e.k=29:=h;cases he with
   | call h1 h2=>exact h1
   | leaf h1=>simp only[Nd.k] at h;omega
   | one h1 _=>simp only[Nd.k] at h;omega
   | cast h1 _ _=>simp only[Nd.k] at h;omega
   | new _=>exact absurd h (by show ¬(31:Int)=29;decide)
   | idx _ _=>exact absurd h (by show ¬(30:Int)=29;decide)
   | bin _ _ _=>exact absurd h (by show ¬(34:Int)=29;decide)
  ·have hw:w∈e.l:=hw;have h1:=fE hw;have h2:=(hP e (List.mem_singleton.2 rfl)).2;refine⟨?_,om⟩;cases he with
   | leaf g1=>cases hw
   | new _=>cases hw
   | one g1 g2=>cases List.mem_singleton.1 hw;exact g2
   | cast g1 _ g2=>cases List.mem_singleton.1 hw;exact g2
   | idx g1 g2=>rcases List.mem_cons.1 hw with rfl|hw;exact g1;cases List.mem_singleton.1 hw;exact g2
   | bin _ g1 g2=>rcases List.mem_cons.1 hw with rfl|hw;exact g1;cases List.mem_singleton.1 hw;exact g2
   | call g1 g2=>exact g2 w hw
 | @cast k a s i x e hk' hn he=>
  have hP:∀u∈[e],Ex u∧sz u≤n:=fun u hu=>by
   have:=hk u hu;cases List.mem_singleton.1 hu;exact⟨he,this⟩
  exact⟨fun _=>hn,fun h=>by simp only[Nd.k] at h;omega,fun h=>by simp only[Nd.k] at h;omega,fun a1 a2 a3 a4 a5 a6 a7 a8=>⟨⟨Nat.le_refl _,fun h=>by simp only[Nd.k] at *;omega,fun _=>hn⟩,hP⟩⟩
 | @idx a s i x e f he hf=>
  have hP:∀u∈[e,f],Ex u∧sz u≤n:=fun u hu=>by
   have:=hk u hu;rcases List.mem_cons.1 hu with rfl|hu
   ·exact⟨he,this⟩
   ·cases List.mem_singleton.1 hu;exact⟨hf,this⟩
  exact⟨fun h=>by simp only[Nd.k] at h;omega,fun h=>by simp only[Nd.k] at h;omega,fun h=>by simp only[Nd.k] at h;omega,fun a1 a2 a3 a4 a5 a6 a7 a8=>⟨⟨by show 1≤2;decide,fun _=>Nat.le_refl _,fun h=>by simp only[Nd.k] at h;omega⟩,hP⟩⟩
 | @bin a s i x e f ho he hf=>
  have hP:∀u∈[e,f],Ex u∧sz u≤n:=fun u hu=>by
   have:=hk u hu;rcases List.mem_cons.1 hu with rfl|hu
   ·exact⟨he,this⟩
   ·cases List.mem_singleton.1 hu;exact⟨hf,this⟩
  exact⟨fun h=>by simp only[Nd.k] at h;omega,fun h=>by simp only[Nd.k] at h;omega,fun h=>by simp only[Nd.k] at h;omega,fun a1 a2 a3 a4 a5 a6 a7 a8=>⟨⟨by show 1≤2;decide,fun _=>Nat.le_refl _,fun h=>by simp only[Nd.k] at h;omega⟩,hP⟩⟩
 | @call a s i x l hl he=>
  exact⟨fun h=>by simp only[Nd.k] at h;omega,fun _=>⟨hl,fun u hu=>⟨he u hu,hk u hu⟩⟩,fun h=>by simp only[Nd.k] at h;omega,fun a1 a2 a3 a4 a5 a6 a7 a8=>absurd rfl a7⟩
theorem Dw(t:Nd): 0<sz t:=by
 cases t with
 | mk k a s i x l=>
  show 0<SizeOf.sizeOf (Nd.mk k a s i x l);rw[Nd.mk.sizeOf_spec];omega
theorem bT{K:FuncId}:∀n,zO K 21 (fun u=>Ex u∧sz u≤n) fun C t=>cW C n t
 | 0=>fun _ _ _ h=>absurd h.2 (Nat.not_le_of_gt (Dw _))
 | n+1=>fun hw h N hP=>yb (bT n) hw h N (ex_ok hP.1 hP.2)
end Go.Proofs.YtafamggbkobcfaaGreat.Ae
