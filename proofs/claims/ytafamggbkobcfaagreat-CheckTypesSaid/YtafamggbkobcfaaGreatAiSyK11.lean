/- A part of the proof of the statement CheckTypes. -/
import Derived.Test.YtafamggbkobcfaaGreatAiSyK10
namespace Go.Proofs.YtafamggbkobcfaaGreat.Ae
open Go.AE
set_option linter.unusedVariables false
set_option maxRecDepth 100000
theorem kL{s:Str}(h:nm s): named s=(4,s):=by
 have hk:=h.2;have n1:¬s=[105,110,116]:=fun e=>hk (by subst e;decide);have n2:¬s=[99,112,120]:=fun e=>hk (by subst e;decide);have n3:¬s=[105,110,116,115]:=fun e=>hk (by subst e;decide);have n4:¬s=[118,111,105,100]:=fun e=>hk (by subst e;decide);exact (iN n1).trans ((iN n2).trans ((iN n3).trans (iN n4)))
theorem vf{rec:Nd→Option bM}{u:Nd}:∀{l:List Nd},db rec (l++[u])=match db rec l with
  | none=>none
  | some ys=>match rec u with
   | none=>none
   | some y=>some (ys++[y])
 | []=>by
  show (match rec u with|none=>none|some y=>match some [] with|none=>none|some ys=>some (y::ys))=_;cases rec u<;>rfl
 | t::l=>by
  show (match rec t with|none=>none|some y=>match db rec (l++[u]) with|none=>none|some ys=>some (y::ys))=_;rw[vf (l:=l)];show _=match (match rec t with|none=>none|some y=>match db rec l with|none=>none|some ys=>some (y::ys)) with
   | none=>none
   | some ys=>_
  cases rec t<;>cases db rec l<;>cases rec u<;>rfl
theorem jq{rec:Nd→Option bM}{l:List Nd}{u:Nd}{ys:List bM}{y:bM}{b1 b2:Bool}(hz:(b1=true→db rec l=none)∧(b1=false→db rec l=some ys))(hb:b1=true→b2=true)
 (z:b1=false→match rec u with
  | none=>b2=true
  | some w=>b2=false∧y=w) : (b2=true→db rec (l++[u])=none)∧(b2=false→db rec (l++[u])=some (ys++[y])):=by
 rw[vf];cases b1 with
 | true=>
  rw[hz.1 rfl,hb rfl];exact⟨fun _=>rfl,(fun h=>by cases h)⟩
 | false=>
  have z:=z rfl;rw[hz.2 rfl];cases hr:rec u with
  | none=>
   rw[hr] at z;have z:b2=true:=z;rw[z];exact⟨fun _=>rfl,(fun h=>by cases h)⟩
  | some w=>
   rw[hr] at z;obtain⟨z1,rfl⟩:b2=false∧y=w:=z;rw[z1];exact⟨(fun h=>by cases h),fun _=>rfl⟩
theorem aI.jT{A:AW}{S:Nat→Prop}{t:Nd}{kv:AV}(h:aI A S t kv): aI A S (Ae.jT t.l) kv:=by
 cases h with
 | mk h1 h2 h3 h4=>exact .mk h1 h2 h3 h4
def zO(K:FuncId)(F:FuncId)(P:Nd→Prop)(z:Cx→Nd→Option bM): Prop:=∀{A:AW} {Y:BY} {b:Bool} {t:Nd} {kv:AV},Wf A→BO A Y b→aI A (fun g=>g<Y.X.M) t kv→P t→
 aD (ES K) F [.ptr Y.fb 0 0,.agg (au t kv)] A fun r A1=>XP A A1 Y b (z Y.cx t) r
theorem XP.tU{A A1:AW}{Y:BY}{b:Bool}{z z':Option bM}{r:AV}(h:XP A A1 Y b z r)(e:z=z'): XP A A1 Y b z' r:=by
 subst e;exact h
structure As (t:Nd) : Prop where
 one:1≤t.l.length
 two:t.k=30∨(t.k≠28∧t.k≠32∧t.k≠35∧t.k≠36∧t.k≠37)→2≤t.l.length
 Cv:t.k=36→nm t.s
set_option maxHeartbeats 8000000 in
theorem zQ{K:FuncId}{n:Nat}{P:Nd→Prop}(hV:zO K 21 P fun C t=>cW C n t): zO K 93 (fun t=>As t∧∀u∈t.l,P u) fun C t=>match db (cW C n) t.l with
 | none=>none
 | some ys=>fF C t ys:=by
 intro A Y b t kv hw h N hP;obtain⟨hA,hE⟩:=hP;show aD (ES K) _ _ A fun r A1=>XP A A1 Y b (match db (cW Y.cx n) t.l with
  | none=>none
  | some ys=>fF Y.cx t ys) r
 refine ap rfl rfl rfl ?_;have T:=BT.refl hw h;have hlp:=h.lt hw;have hM:=h.eO.le;refine gO ?_;refine bA rfl rfl rfl rfl ?_;generalize hf3:A.aa=f3;refine dN (n:=6) (cs:=au t kv) hw h T hf3 ?_;intro A1 x3 p3 o1 c3 T;have l1:=T.Fi.wf _ _ c3;refine aq rfl rfl rfl ?_;generalize hf4:A1.aa=f4;refine dN (n:=2) (cs:=bc (0,[])) hw h T hf4 ?_;intro A2 x4 p4 o2 c4 T;replace c3:=o2.k c3;have l2:=T.Fi.wf _ _ c4;have hlv:=N.bm;have hl9:=N.len;have hst:=N.bh;have N1:aI A2 (fun g=>g<Y.X.M) (jT t.l) kv:=(T.bl N).jT;refine wJ hlv ?_;have lo:=T.Fi.aa;refine aE ?_;refine yL (pp 0 Y.fb (pp 3 f3 (pp 4 f4 (pv 10 kv (pn 11 t.l.length (pn 12 0 (pv 5 (.aj) .nil))))))) ?_
 refine aV (ι:=Nat×AV) (fun i=>t.l.length-i.1) (fun i=>(pp 0 Y.fb (pp 3 f3 (pp 4 f4 (pv 10 kv (pn 11 t.l.length (pn 12 i.1 (pv 5 (i.2) .nil)))))))) (fun i B=>∃b1 ys,BT A B Y b b1∧gt B f3 6 (au t kv)∧gt B f4 2 (bc (0,[]))∧aI B (fun g=>g<Y.X.M) (jT t.l) (kv)∧A2.aa≤B.aa∧ys.length=i.1∧i.1≤t.l.length∧eH B 2 i.2 i.1 (ys.flatMap bc)∧(∀g,i.2.av g→A2.aa≤g)∧(b=true→b1=true)∧(b=false→(b1=true→db (cW Y.cx n) (t.l.take i.1)=none)∧(b1=false→db (cW Y.cx n) (t.l.take i.1)=some ys))) ?_ (0,.aj) A2 ⟨b,[],T,c3,c4,N1,Nat.le_refl _,rfl,Nat.zero_le _,.inl ⟨rfl,rfl,rfl⟩,fun g h=>h.elim,fun h=>h,fun h=>⟨fun z=>(by rw[h] at z;cases z),fun _=>rfl⟩⟩;clear T c3 c4;rintro ⟨i,vb⟩ A3 ⟨b1,ys,T,c3,c4,N1,mB,hyl,hi,hb,gb,hbk,hz⟩ ih;replace hi:i≤t.l.length:=hi;replace hyl:ys.length=i:=hyl;replace hb:eH A3 2 vb i (ys.flatMap bc):=hb;replace gb:∀g,vb.av g→A2.aa≤g:=gb
 replace hz:b=false→(b1=true→db (cW Y.cx n) (t.l.take i)=none)∧(b1=false→db (cW Y.cx n) (t.l.take i)=some ys):=hz;refine wD (fun hlt=>?_) fun hge=>?_
 ·have hlt:i<t.l.length:=Int.ofNat_lt.1 hlt;have hu:t.l[i]?=some t.l[i]:=gE hlt;generalize hx:t.l[i]=u at hu;have hum:u∈t.l:=by rw[←hx];exact List.getElem_mem hlt
  obtain⟨fk,sk,ok,ck,ek,rk,ak,ku,hv,_,hh,hlk,Nu,cw⟩:=bv N1 hu;refine wI hv hlk ?_;refine zK hh ((cw 6 0 (Nat.le_refl _)).trans rfl) ?_;refine gO ?_;refine aq rfl rfl rfl ?_;refine zS (by rw[AW.add_get,iP rfl]) ?_;generalize hf7:A3.aa=f7;refine fG (n:=6) (cs:=au u ku) hw h T hf7 ?_;intro A4 x7 p7 o4 c7 T;obtain⟨c3,c4⟩:=o4.k2 c3 c4;replace N1:=N1.k o4;replace Nu:=Nu.k o4;have l4:=T.Fi.wf _ _ c7;replace hb:=hb.k o4;refine wL c7 ?_;refine zC rfl (hV T.Fi.wf T.ps Nu (hE u hum)) ?_;rintro r A5 ⟨y5,b5,rfl,t5,z5⟩;replace T:=T.then t5;obtain⟨c3,c4⟩:=t5.Fi.k2 c3 c4;replace N1:=t5.bl N1;have m5:=t5.Fi.aa;replace hb:=hb.k t5.Fi;refine oP ?_;refine bE rfl rfl rfl rfl rfl (cH (n:=i) (de:=d30) rfl rfl rfl rfl T.Fi.wf hb rfl dE (cU om dE)) ?_;intro vb' A6 g;replace T:=T.fresh hw h g.Fi fun q hq=>Nat.le_trans lo (gb q hq)
  replace c3:=g.Fi.ae _ _ c3 fun e=>by have:=gb _ e;omega
  replace c4:=g.Fi.ae _ _ c4 fun e=>by have:=gb _ e;omega
  replace N1:=N1.ae g.Fi fun q hq e=>by have:=gb q e;omega
  refine wP ?_;have mG:=g.Fi.aa;refine ai ?_;refine yL (pp 0 Y.fb (pp 3 f3 (pp 4 f4 (pv 10 kv (pn 11 t.l.length (pn 12 (i+1:Nat) (pv 5 (vb') .nil))))))) ?_;refine ih (i+1,vb') A6 (by simp only;omega) ⟨b5,ys++[y5],T,c3,c4,N1,om,(by rw[lA,hyl];rfl),hlt,?_,fun q hq=>(g.grow q hq).elim (gb q) fun h=>om,fun h=>t5.bad (hbk h),fun h=>?_⟩
  ·have:eH A6 2 vb' (i+1) (ys.flatMap bc++bc y5):=g.buf;rw[fA];simpa using this
  ·show (_→db _ (t.l.take (i+1))=none)∧(_→db _ (t.l.take (i+1))=_);rw[tS hlt,hx];exact jq (hz h) t5.bad z5
 have hge:i=t.l.length:=by
  omega
 refine ay rfl ?_;rw[hge,tL] at hz;have mL:A2.aa≤A3.aa:=mB;refine gO ?_;have hc:=T.ps.cell;obtain⟨fe,hpc⟩:=T.ps.eO.cell;refine gO ?_;cases b1 with
 | true=>
  refine bL (v:=.bool true) rfl rfl rfl rfl ?_;refine rU ?_;refine zC rfl (aU T.Fi.wf) ?_;rintro r A4 ⟨rfl,o4⟩;replace T:=T.quiet o4;obtain⟨c3,c4⟩:=o4.k2 c3 c4;replace N1:=N1.k o4;have m4:=o4.aa;refine gO ?_;refine zS c4 ?_;refine aJ (cs:=bc (6,[])) hw h T x4 c4 ?_;intro A5 o5 c4 T;replace c3:=o5.k c3;replace N1:=N1.k o5;have m5:=o5.aa;refine gO ?_;refine zT c4 ?_;exact XP.none T fun hb=>by rw[(hz hb).1 rfl]
 | false=>
  refine bL (v:=.bool false) rfl rfl rfl rfl ?_;refine rU ?_;have hb0:b=false:=T.flag;have hys:=(hz hb0).2 rfl;rw[hys];clear hz ih;rw[hge] at hb hyl;clear hge hi;have h1:=hA.one;cases ys with
  | nil=>exact absurd hyl (by simp only[List.length_nil];omega)
  | cons y0 ys=>
   have hrow:Row A3 2 vb (y0::ys).length ((y0::ys).flatMap bc):=by
    rw[hyl];exact hb.row
   obtain⟨fr,tr,or,cr,er,rr,ar,hvv,hr,hlr,cw⟩:=dT (cl:=bc) (fun _=>rfl) hrow (i:=0) (x:=y0) rfl;have hk0:nth ar (Nat.add (Nat.add or (Nat.mul 0 2)) 0)=some (.int .i64 y0.1):=aR ((cw 1 0 dE).trans rfl);refine zG (fun k28=>?_) fun k28=>?_
   ·refine tD ?_;refine rD ?_;refine zL c3 ?_;refine eR ?_;refine dR ?_;refine ax rfl rfl rfl rfl rfl ?_
    try refine aM rfl ?_
    refine zI 0 hvv hlr ?_;refine eP ?_;refine rD ?_;refine zK hr ((cw 2 0 dE).trans rfl) ?_;refine eR ?_;refine aC ?_;refine zC rfl (Ch (kv:=kv) T.Fi.wf T.ps) ?_;rintro r A4 ⟨y4,b4,rfl,t4,z4⟩;replace T:=T.then t4;replace c4:=t4.Fi.k c4;refine sA ?_;refine aC ?_;refine zS c4 ?_;refine aJ (cs:=bc y4) hw h T x4 c4 ?_;intro A5 o5 c4 T;refine sA ?_;refine eD ?_;refine zT c4 ?_;exact (XP.mk T fun _=>z4 rfl).tU (iP k28).symm
   refine wD (fun k30=>?_) fun k30=>?_
   ·cases ys with
    | nil=>exact absurd hyl (by have:=hA.two (.inl k30);simp only[lC,List.length_nil];omega)
    | cons y1 ys=>
     obtain⟨fs,tS,oS,cS,eS,rS,aS,hvs,hS,hlS,hatS⟩:=dT (cl:=bc) (fun _=>rfl) hrow (i:=1) (x:=y1) rfl;have hk1:nth aS (Nat.add (Nat.add oS (Nat.mul 1 2)) 0)=some (.int .i64 y1.1):=aR ((hatS 1 0 dE).trans rfl);refine tD ?_;refine ax rfl rfl rfl rfl rfl ?_
     try refine aM rfl ?_
     refine zI 0 hvv hlr ?_;refine eP ?_;refine rD ?_;refine zE hr hk0 ?_;refine eR ?_;refine dR ?_;by_cases a3:y0.1=3
     ·refine aL 50 false rfl (yF fun h=>h a3) ?_;refine dR ?_;refine ax rfl rfl rfl rfl rfl ?_
      try refine aM rfl ?_
      refine zI 1 hvs hlS ?_;refine eP ?_;refine rD ?_;refine zE hS hk1 ?_;refine eR ?_;refine rD ?_;refine zL c3 ?_;refine eR ?_;refine aC ?_;refine zC rfl (ah T.Fi.wf T.ps) ?_;rintro r A4 ⟨rfl,t4⟩;replace T:=T.then t4;replace c4:=t4.Fi.k c4;refine sA ?_;refine aK ?_;by_cases hf:¬y1.1=1
      ·rw[yT hf] at T;refine wC (aU T.Fi.wf) ?_;rintro r A5 ⟨rfl,o5⟩;replace T:=T.quiet o5;replace c4:=o5.k c4;refine gO ?_;refine zS c4 ?_;refine aJ (cs:=bc (1,[])) hw h T x4 c4 ?_;intro A6 o6 c4 T;refine gO ?_;refine zT c4 ?_;exact XP.none T fun _=>(iN k28).trans ((iP k30).trans (if_neg fun h=>hf h.2))
      ·rw[yF hf] at T;refine wC (aU T.Fi.wf) ?_;rintro r A5 ⟨rfl,o5⟩;replace T:=T.quiet o5;replace c4:=o5.k c4;refine gO ?_;refine zS c4 ?_;refine aJ (cs:=bc (1,[])) hw h T x4 c4 ?_;intro A6 o6 c4 T;refine gO ?_;refine zT c4 ?_;exact XP.same (hb0▸T) ( (iN k28).trans ((iP k30).trans (iP ⟨a3,Decidable.not_not.1 hf⟩)))
     ·refine aL 50 true rfl (yT a3) ?_;refine dO ?_;refine rD ?_;refine zL c3 ?_;refine eR ?_;refine aC ?_;refine zC rfl (ah T.Fi.wf T.ps) ?_;rintro r A4 ⟨rfl,t4⟩;replace T:=T.then t4;replace c4:=t4.Fi.k c4;refine sA ?_;refine eD ?_;refine zC rfl (aU T.Fi.wf) ?_;rintro r A5 ⟨rfl,o5⟩;replace T:=T.quiet o5;replace c4:=o5.k c4;refine gO ?_;refine zS c4 ?_;refine aJ (cs:=bc (1,[])) hw h T x4 c4 ?_;intro A6 o6 c4 T;refine gO ?_;refine zT c4 ?_;exact XP.none T fun _=>(iN k28).trans ((iP k30).trans (if_neg fun h=>a3 h.1))
   refine wD (fun k32=>?_) fun k32=>?_
   ·refine tD ?_;refine ax rfl rfl rfl rfl rfl ?_
    try refine aM rfl ?_
    refine zI 0 hvv hlr ?_;refine eP ?_;refine rD ?_;refine zE hr hk0 ?_;refine eR ?_;refine rD ?_;refine zL c3 ?_;refine eR ?_;refine aC ?_;refine zC rfl (ah T.Fi.wf T.ps) ?_;rintro r A4 ⟨rfl,t4⟩;replace T:=T.then t4;replace c4:=t4.Fi.k c4;refine sA ?_;refine aK ?_;by_cases hf:¬y0.1=1
    ·rw[yT hf] at T;refine wC (aU T.Fi.wf) ?_;rintro r A5 ⟨rfl,o5⟩;replace T:=T.quiet o5;replace c4:=o5.k c4;refine gO ?_;refine zS c4 ?_;refine aJ (cs:=bc (3,[])) hw h T x4 c4 ?_;intro A6 o6 c4 T;refine gO ?_;refine zT c4 ?_;exact XP.none T fun _=>(iN k28).trans ((iN k30).trans ((iP k32).trans (iN hf)))
    ·rw[yF hf] at T;refine wC (aU T.Fi.wf) ?_;rintro r A5 ⟨rfl,o5⟩;replace T:=T.quiet o5;replace c4:=o5.k c4;refine gO ?_;refine zS c4 ?_;refine aJ (cs:=bc (3,[])) hw h T x4 c4 ?_;intro A6 o6 c4 T;refine gO ?_;refine zT c4 ?_;exact XP.same (hb0▸T) ( (iN k28).trans ((iN k30).trans ((iP k32).trans (iP (Decidable.not_not.1 hf)))))
   refine wD (fun k36=>?_) fun k36=>?_
   ·refine gO ?_;refine zG (fun _=>?_) fun h=>absurd k36 h;refine tD ?_;refine ax rfl rfl rfl rfl rfl ?_
    try refine aM rfl ?_
    refine zI 0 hvv hlr ?_;refine eP ?_;refine rD ?_;refine zE hr hk0 ?_;refine eR ?_;refine dR ?_;by_cases a4:y0.1=4
    ·refine aL 80 false rfl (yF fun h=>h a4) ?_;refine dO ?_
     try refine aL 87 false rfl rfl ?_
     refine rD ?_;refine zL c3 ?_;refine eR ?_;refine aC ?_;refine zC rfl (gR T.ps.eO.hi) ?_;rintro r A' ⟨rfl,rfl⟩;refine sA ?_;refine aC ?_;refine zC rfl (ah T.Fi.wf T.ps) ?_;rintro r A4 ⟨rfl,t4⟩;replace T:=T.then t4;obtain⟨c3,c4⟩:=t4.Fi.k2 c3 c4;refine sA ?_;refine aK ?_;cases hhas:has Y.X.hs t.s with
     | false=>
      rw[hhas] at T;refine gO ?_;refine cD rfl (fun h=>absurd (k36.symm.trans h) dE) fun _=>?_;refine wC (ee T.Fi.wf) ?_;rintro r A5 ⟨rfl,o5⟩;replace T:=T.quiet o5;replace c4:=o5.k c4;rw[kL (hA.Cv k36)];refine gO ?_;refine zS c4 ?_;refine aJ (cs:=bc (4,t.s)) hw h T x4 c4 ?_;intro A6 o6 c4 T;refine gO ?_;refine zT c4 ?_;exact XP.none T fun _=>(iN k28).trans ((iN k30).trans ((iN k32).trans ((iP (show t.k=36∨t.k=37 from .inl k36)).trans (if_neg fun h=>by rw[show has Y.cx.hs t.s=false from hhas] at h;exact absurd h.2 dE))))
     | true=>
      rw[hhas] at T;refine gO ?_;refine cD rfl (fun h=>absurd (k36.symm.trans h) dE) fun _=>?_;refine wC (ee T.Fi.wf) ?_;rintro r A5 ⟨rfl,o5⟩;replace T:=T.quiet o5;replace c4:=o5.k c4;rw[kL (hA.Cv k36)];refine gO ?_;refine zS c4 ?_;refine aJ (cs:=bc (4,t.s)) hw h T x4 c4 ?_;intro A6 o6 c4 T;refine gO ?_;refine zT c4 ?_;exact XP.same (hb0▸T) ((iN k28).trans ((iN k30).trans ((iN k32).trans ((iP (show t.k=36∨t.k=37 from .inl k36)).trans ((iP ⟨.inl a4,hhas⟩).trans (congrArg some (if_neg fun h=>absurd (k36.symm.trans h) dE)))))))
    ·refine aL 80 true rfl (yT a4) ?_;refine dR ?_;refine ax rfl rfl rfl rfl rfl ?_
     try refine aM rfl ?_
     refine zI 0 hvv hlr ?_;refine eP ?_;refine rD ?_;refine zE hr hk0 ?_;refine eR ?_;refine dR ?_;by_cases a5:y0.1=5
     ·refine aL 87 false rfl (yF fun h=>h a5) ?_;refine rD ?_;refine zL c3 ?_;refine eR ?_;refine aC ?_;refine zC rfl (gR T.ps.eO.hi) ?_;rintro r A' ⟨rfl,rfl⟩;refine sA ?_;refine aC ?_;refine zC rfl (ah T.Fi.wf T.ps) ?_;rintro r A4 ⟨rfl,t4⟩;replace T:=T.then t4;obtain⟨c3,c4⟩:=t4.Fi.k2 c3 c4;refine sA ?_;refine aK ?_;cases hhas:has Y.X.hs t.s with
      | false=>
       rw[hhas] at T;refine gO ?_;refine cD rfl (fun h=>absurd (k36.symm.trans h) dE) fun _=>?_;refine wC (ee T.Fi.wf) ?_;rintro r A5 ⟨rfl,o5⟩;replace T:=T.quiet o5;replace c4:=o5.k c4;rw[kL (hA.Cv k36)];refine gO ?_;refine zS c4 ?_;refine aJ (cs:=bc (4,t.s)) hw h T x4 c4 ?_;intro A6 o6 c4 T;refine gO ?_;refine zT c4 ?_;exact XP.none T fun _=>(iN k28).trans ((iN k30).trans ((iN k32).trans ((iP (show t.k=36∨t.k=37 from .inl k36)).trans (if_neg fun h=>by rw[show has Y.cx.hs t.s=false from hhas] at h;exact absurd h.2 dE))))
      | true=>
       rw[hhas] at T;refine gO ?_;refine cD rfl (fun h=>absurd (k36.symm.trans h) dE) fun _=>?_;refine wC (ee T.Fi.wf) ?_;rintro r A5 ⟨rfl,o5⟩;replace T:=T.quiet o5;replace c4:=o5.k c4;rw[kL (hA.Cv k36)];refine gO ?_;refine zS c4 ?_;refine aJ (cs:=bc (4,t.s)) hw h T x4 c4 ?_;intro A6 o6 c4 T;refine gO ?_;refine zT c4 ?_;exact XP.same (hb0▸T) ((iN k28).trans ((iN k30).trans ((iN k32).trans ((iP (show t.k=36∨t.k=37 from .inl k36)).trans ((iP ⟨.inr a5,hhas⟩).trans (congrArg some (if_neg fun h=>absurd (k36.symm.trans h) dE)))))))
     ·refine aL 87 true rfl (yT a5) ?_;refine dO ?_;refine rD ?_;refine zL c3 ?_;refine eR ?_;refine aC ?_;refine sA ?_;refine dO ?_;refine aC ?_;refine zC rfl (ah T.Fi.wf T.ps) ?_;rintro r A4 ⟨rfl,t4⟩;replace T:=T.then t4;obtain⟨c3,c4⟩:=t4.Fi.k2 c3 c4;refine sA ?_;refine eD ?_;refine cD rfl (fun h=>absurd (k36.symm.trans h) dE) fun _=>?_;refine wC (ee T.Fi.wf) ?_;rintro r A5 ⟨rfl,o5⟩;replace T:=T.quiet o5;replace c4:=o5.k c4;rw[kL (hA.Cv k36)];refine gO ?_;refine zS c4 ?_;refine aJ (cs:=bc (4,t.s)) hw h T x4 c4 ?_;intro A6 o6 c4 T;refine gO ?_;refine zT c4 ?_;exact XP.none T fun _=>(iN k28).trans ((iN k30).trans ((iN k32).trans ((iP (show t.k=36∨t.k=37 from .inl k36)).trans (if_neg fun h=>h.1.elim a4 a5))))
   refine wD (fun k37=>?_) fun k37=>?_
   ·refine tD ?_;refine ax rfl rfl rfl rfl rfl ?_
    try refine aM rfl ?_
    refine zI 0 hvv hlr ?_;refine eP ?_;refine rD ?_;refine zE hr hk0 ?_;refine eR ?_;refine dR ?_;by_cases a4:y0.1=4
    ·refine aL 80 false rfl (yF fun h=>h a4) ?_;refine dO ?_
     try refine aL 87 false rfl rfl ?_
     refine rD ?_;refine zL c3 ?_;refine eR ?_;refine aC ?_;refine zC rfl (gR T.ps.eO.hi) ?_;rintro r A' ⟨rfl,rfl⟩;refine sA ?_;refine aC ?_;refine zC rfl (ah T.Fi.wf T.ps) ?_;rintro r A4 ⟨rfl,t4⟩;replace T:=T.then t4;obtain⟨c3,c4⟩:=t4.Fi.k2 c3 c4;replace N1:=t4.bl N1;have m4:=t4.Fi.aa;refine sA ?_;refine aK ?_;cases hhas:has Y.X.hs t.s with
     | false=>
      rw[hhas] at T;refine gO ?_;refine zG (fun _=>?_) fun h=>absurd k37 h;refine wC (aU T.Fi.wf) ?_;rintro r A5 ⟨rfl,o5⟩;replace T:=T.quiet o5;obtain⟨c3,c4⟩:=o5.k2 c3 c4;replace N1:=N1.k o5;have m5:=o5.aa;refine gO ?_;refine zS c4 ?_;refine aJ (cs:=bc (1,[])) hw h T x4 c4 ?_;intro A6 o6 c4 T;replace c3:=o6.k c3;replace N1:=N1.k o6;have m6:=o6.aa;refine gO ?_;refine zT c4 ?_;exact XP.none T fun _=>(iN k28).trans ((iN k30).trans ((iN k32).trans ((iP (show t.k=36∨t.k=37 from .inr k37)).trans (if_neg fun h=>by rw[show has Y.cx.hs t.s=false from hhas] at h;exact absurd h.2 dE))))
     | true=>
      rw[hhas] at T;refine gO ?_;refine zG (fun _=>?_) fun h=>absurd k37 h;refine wC (aU T.Fi.wf) ?_;rintro r A5 ⟨rfl,o5⟩;replace T:=T.quiet o5;obtain⟨c3,c4⟩:=o5.k2 c3 c4;replace N1:=N1.k o5;have m5:=o5.aa;refine gO ?_;refine zS c4 ?_;refine aJ (cs:=bc (1,[])) hw h T x4 c4 ?_;intro A6 o6 c4 T;replace c3:=o6.k c3;replace N1:=N1.k o6;have m6:=o6.aa;refine gO ?_;refine zT c4 ?_;exact XP.same (hb0▸T) ((iN k28).trans ((iN k30).trans ((iN k32).trans ((iP (show t.k=36∨t.k=37 from .inr k37)).trans ((iP ⟨.inl a4,hhas⟩).trans (congrArg some (iP k37)))))))
    ·refine aL 80 true rfl (yT a4) ?_;refine dR ?_;refine ax rfl rfl rfl rfl rfl ?_
     try refine aM rfl ?_
     refine zI 0 hvv hlr ?_;refine eP ?_;refine rD ?_;refine zE hr hk0 ?_;refine eR ?_;refine dR ?_;by_cases a5:y0.1=5
     ·refine aL 87 false rfl (yF fun h=>h a5) ?_;refine rD ?_;refine zL c3 ?_;refine eR ?_;refine aC ?_;refine zC rfl (gR T.ps.eO.hi) ?_;rintro r A' ⟨rfl,rfl⟩;refine sA ?_;refine aC ?_;refine zC rfl (ah T.Fi.wf T.ps) ?_;rintro r A4 ⟨rfl,t4⟩;replace T:=T.then t4;obtain⟨c3,c4⟩:=t4.Fi.k2 c3 c4;replace N1:=t4.bl N1;have m4:=t4.Fi.aa;refine sA ?_;refine aK ?_;cases hhas:has Y.X.hs t.s with
      | false=>
       rw[hhas] at T;refine gO ?_;refine zG (fun _=>?_) fun h=>absurd k37 h;refine wC (aU T.Fi.wf) ?_;rintro r A5 ⟨rfl,o5⟩;replace T:=T.quiet o5;obtain⟨c3,c4⟩:=o5.k2 c3 c4;replace N1:=N1.k o5;have m5:=o5.aa;refine gO ?_;refine zS c4 ?_;refine aJ (cs:=bc (1,[])) hw h T x4 c4 ?_;intro A6 o6 c4 T;replace c3:=o6.k c3;replace N1:=N1.k o6;have m6:=o6.aa;refine gO ?_;refine zT c4 ?_;exact XP.none T fun _=>(iN k28).trans ((iN k30).trans ((iN k32).trans ((iP (show t.k=36∨t.k=37 from .inr k37)).trans (if_neg fun h=>by rw[show has Y.cx.hs t.s=false from hhas] at h;exact absurd h.2 dE))))
      | true=>
       rw[hhas] at T;refine gO ?_;refine zG (fun _=>?_) fun h=>absurd k37 h;refine wC (aU T.Fi.wf) ?_;rintro r A5 ⟨rfl,o5⟩;replace T:=T.quiet o5;obtain⟨c3,c4⟩:=o5.k2 c3 c4;replace N1:=N1.k o5;have m5:=o5.aa;refine gO ?_;refine zS c4 ?_;refine aJ (cs:=bc (1,[])) hw h T x4 c4 ?_;intro A6 o6 c4 T;replace c3:=o6.k c3;replace N1:=N1.k o6;have m6:=o6.aa;refine gO ?_;refine zT c4 ?_;exact XP.same (hb0▸T) ((iN k28).trans ((iN k30).trans ((iN k32).trans ((iP (show t.k=36∨t.k=37 from .inr k37)).trans ((iP ⟨.inr a5,hhas⟩).trans (congrArg some (iP k37)))))))
     ·refine aL 87 true rfl (yT a5) ?_;refine dO ?_;refine rD ?_;refine zL c3 ?_;refine eR ?_;refine aC ?_;refine sA ?_;refine dO ?_;refine aC ?_;refine zC rfl (ah T.Fi.wf T.ps) ?_;rintro r A4 ⟨rfl,t4⟩;replace T:=T.then t4;obtain⟨c3,c4⟩:=t4.Fi.k2 c3 c4;replace N1:=t4.bl N1;have m4:=t4.Fi.aa;refine sA ?_;refine eD ?_;refine zG (fun _=>?_) fun h=>absurd k37 h;refine wC (aU T.Fi.wf) ?_;rintro r A5 ⟨rfl,o5⟩;replace T:=T.quiet o5;obtain⟨c3,c4⟩:=o5.k2 c3 c4;replace N1:=N1.k o5;have m5:=o5.aa;refine gO ?_;refine zS c4 ?_;refine aJ (cs:=bc (1,[])) hw h T x4 c4 ?_;intro A6 o6 c4 T;replace c3:=o6.k c3;replace N1:=N1.k o6;have m6:=o6.aa;refine gO ?_;refine zT c4 ?_;exact XP.none T fun _=>(iN k28).trans ((iN k30).trans ((iN k32).trans ((iP (show t.k=36∨t.k=37 from .inr k37)).trans (if_neg fun h=>h.1.elim a4 a5))))
   refine wD (fun k35=>?_) fun k35=>?_
   ·refine wI hvv hlr ?_;refine wE hr hk0 ?_;refine tD ?_;by_cases c2:y0.1=2
    ·refine aL 119 false rfl (congrArg not (yT c2)) ?_;refine dO ?_;refine rD ?_;refine zL c3 ?_;refine eR ?_;refine aC ?_;refine zC rfl (ah T.Fi.wf T.ps) ?_;rintro r A4 ⟨rfl,t4⟩;replace T:=T.then t4;replace c4:=t4.Fi.k c4;have T0:=t4;refine sA ?_;refine eD ?_;replace hb:=hb.k T0.Fi;obtain⟨fr,tr,or,cr,er,rr,ar,hvv,hr,hlr,cw⟩:=dT (cl:=bc) (fun _=>rfl) (show Row A4 2 vb (y0::ys).length ((y0::ys).flatMap bc) by rw[hyl];exact hb.row) (i:=0) (x:=y0) rfl;refine wI hvv hlr ?_;refine zK hr ((cw 2 0 dE).trans rfl) ?_;refine oP ?_;refine zS c4 ?_;refine aJ (cs:=bc y0) hw h T x4 c4 ?_;intro A5 o5 c4 T;refine gO ?_;refine zT c4 ?_;exact XP.same (hb0▸T) ((iN k28).trans ((iN k30).trans ((iN k32).trans ((iN (fun h=>h.elim k36 k37)).trans ((iP k35).trans (iP (.inl c2)))))))
    ·refine aL 119 true rfl (congrArg not (yF c2)) ?_;refine dR ?_;refine ax rfl rfl rfl rfl rfl ?_
     try refine aM rfl ?_
     refine zI 0 hvv hlr ?_;refine eP ?_;refine rD ?_;refine zE hr hk0 ?_;refine eR ?_;refine dR ?_;by_cases a1:y0.1=1
     ·refine aL 125 true rfl (yT a1) ?_;refine rD ?_;refine zL c3 ?_;refine eR ?_;refine aC ?_;refine zC rfl (ah T.Fi.wf T.ps) ?_;rintro r A4 ⟨rfl,t4⟩;replace T:=T.then t4;replace c4:=t4.Fi.k c4;have T0:=t4;refine sA ?_;refine aK ?_;by_cases hf:t.s=[45]
      ·replace T:BT A A4 Y b (!decide (t.s=[45]) || false):=T;rw[yT hf] at T;refine gO ?_;replace hb:=hb.k T0.Fi;obtain⟨fr,tr,or,cr,er,rr,ar,hvv,hr,hlr,cw⟩:=dT (cl:=bc) (fun _=>rfl) (show Row A4 2 vb (y0::ys).length ((y0::ys).flatMap bc) by rw[hyl];exact hb.row) (i:=0) (x:=y0) rfl;refine wI hvv hlr ?_;refine zK hr ((cw 2 0 dE).trans rfl) ?_;refine oP ?_;refine zS c4 ?_;refine aJ (cs:=bc y0) hw h T x4 c4 ?_;intro A5 o5 c4 T;refine gO ?_;refine zT c4 ?_;exact XP.same (hb0▸T) ((iN k28).trans ((iN k30).trans ((iN k32).trans ((iN (fun h=>h.elim k36 k37)).trans ((iP k35).trans (iP (.inr ⟨a1,hf⟩)))))))
      ·replace T:BT A A4 Y b (!decide (t.s=[45]) || false):=T;rw[yF hf] at T;refine gO ?_;replace hb:=hb.k T0.Fi;obtain⟨fr,tr,or,cr,er,rr,ar,hvv,hr,hlr,cw⟩:=dT (cl:=bc) (fun _=>rfl) (show Row A4 2 vb (y0::ys).length ((y0::ys).flatMap bc) by rw[hyl];exact hb.row) (i:=0) (x:=y0) rfl;refine wI hvv hlr ?_;refine zK hr ((cw 2 0 dE).trans rfl) ?_;refine oP ?_;refine zS c4 ?_;refine aJ (cs:=bc y0) hw h T x4 c4 ?_;intro A5 o5 c4 T;refine gO ?_;refine zT c4 ?_;exact XP.none T fun _=>(iN k28).trans ((iN k30).trans ((iN k32).trans ((iN (fun h=>h.elim k36 k37)).trans ((iP k35).trans (if_neg fun h=>h.elim c2 fun h=>hf h.2)))))
     ·refine aL 125 false rfl (yF a1) ?_;refine dO ?_;refine rD ?_;refine zL c3 ?_;refine eR ?_;refine aC ?_;refine zC rfl (ah T.Fi.wf T.ps) ?_;rintro r A4 ⟨rfl,t4⟩;replace T:=T.then t4;replace c4:=t4.Fi.k c4;have T0:=t4;refine sA ?_;refine eD ?_;replace hb:=hb.k T0.Fi;obtain⟨fr,tr,or,cr,er,rr,ar,hvv,hr,hlr,cw⟩:=dT (cl:=bc) (fun _=>rfl) (show Row A4 2 vb (y0::ys).length ((y0::ys).flatMap bc) by rw[hyl];exact hb.row) (i:=0) (x:=y0) rfl;refine wI hvv hlr ?_;refine zK hr ((cw 2 0 dE).trans rfl) ?_;refine oP ?_;refine zS c4 ?_;refine aJ (cs:=bc y0) hw h T x4 c4 ?_;intro A5 o5 c4 T;refine gO ?_;refine zT c4 ?_;exact XP.none T fun _=>(iN k28).trans ((iN k30).trans ((iN k32).trans ((iN (fun h=>h.elim k36 k37)).trans ((iP k35).trans (if_neg fun h=>h.elim c2 fun h=>a1 h.1)))))
   cases ys with
   | nil=>exact absurd hyl (by have:=hA.two (.inr ⟨k28,k32,k35,k36,k37⟩);simp only[lC,List.length_nil];omega)
   | cons y1 ys=>
    obtain⟨fs,tS,oS,cS,eS,rS,aS,hvs,hS,hlS,hatS⟩:=dT (cl:=bc) (fun _=>rfl) hrow (i:=1) (x:=y1) rfl;refine tD ?_;refine rD ?_;refine zL c3 ?_;refine eR ?_;refine dR ?_;refine ax rfl rfl rfl rfl rfl ?_
    try refine aM rfl ?_
    refine zI 0 hvv hlr ?_;refine eP ?_;refine rD ?_;refine zK hr ((cw 2 0 dE).trans rfl) ?_;refine eR ?_;refine dR ?_;refine ax rfl rfl rfl rfl rfl ?_
    try refine aM rfl ?_
    refine zI 1 hvs hlS ?_;refine eP ?_;refine rD ?_;refine zK hS ((hatS 2 0 dE).trans rfl) ?_;refine eR ?_;refine aC ?_;refine zC rfl (zN T.Fi.wf T.ps (T.bl N)) ?_;rintro r A4 ⟨y4,b4,rfl,t4,z4⟩;replace T:=T.then t4;replace c4:=t4.Fi.k c4;refine sA ?_;refine aC ?_;refine zS c4 ?_;refine aJ (cs:=bc y4) hw h T x4 c4 ?_;intro A5 o5 c4 T;refine sA ?_;refine eD ?_;refine zT c4 ?_;exact (XP.mk T fun _=>z4 rfl).tU ((iN k28).trans ((iN k30).trans ((iN k32).trans ((iN (fun h=>h.elim k36 k37)).trans (iN k35))))).symm
end Go.Proofs.YtafamggbkobcfaaGreat.Ae
