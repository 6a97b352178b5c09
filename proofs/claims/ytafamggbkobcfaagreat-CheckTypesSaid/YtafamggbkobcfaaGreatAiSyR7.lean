/- A part of the proof of the statement CheckTypes. -/
import Derived.Test.YtafamggbkobcfaaGreatAiSyR5
namespace Go.Proofs.YtafamggbkobcfaaGreat.Ae
open Go.AE
set_option linter.unusedVariables false
set_option maxRecDepth 100000
def RFn(K:FuncId)(n:Nat): Prop:=∀{A:AW} {Y:DY} {b:Bool} {t:Nd} {kv:AV},Wf A→DC A Y b→aI A (fun g=>g<Y.X.M) t kv→Ex t→sz t≤n→
 aD (ES K) 11 [.ptr Y.X.dc 0 0,.agg (au t kv)] A fun r A1=>XD A A1 Y b (cW Y.cx n t) r
def nG(C:Cx)(rec:Nd→Option bM)(vd:Bool)(t:Nd): Option bM:=match cK C rec t with
 | none=>none
 | some y=>if vd=true∨y.1≠0 then some y else none
theorem XD.no{A A1:AW}{Y:DY}{b b1:Bool}{z:Option bM}{y:bM}(T:DT A A1 Y b b1)(h:b=false→b1=true∧z=none): XD A A1 Y b z (.agg (bc y)):=⟨y,b1,rfl,T,fun hb=>by
 rw[(h hb).2];exact (h hb).1⟩
theorem Al{C:Cx}{rec:Nd→Option bM}{vd:Bool}{t:Nd}(h:db rec t.l=none): nG C rec vd t=none:=by
 unfold nG cK;rw[h]
theorem wO{C:Cx}{rec:Nd→Option bM}{vd:Bool}{t:Nd}{ys:List bM}(h:db rec t.l=some ys): nG C rec vd t=match nu C t.s ys with
 | none=>none
 | some y=>if vd=true∨y.1≠0 then some y else none:=by
 unfold nG cK;rw[h]
set_option maxHeartbeats 8000000 in
theorem oo{K:FuncId}{n:Nat}(hE:RFn K n){A:AW}{Y:DY}{b vd:Bool}{t:Nd}{kv:AV}(hw:Wf A)(h:DC A Y b)(N:aI A (fun g=>g<Y.X.M) t kv)(hP:t.l≠[]∧∀u∈t.l,Ex u∧sz u≤n):
 aD (ES K) 31 [.ptr Y.X.dc 0 0,.agg (au t kv),.bool vd] A fun r A1=>XD A A1 Y b (nG Y.cx (cW Y.cx n) vd t) r:=by
 refine ap rfl rfl rfl ?_;have T:=DT.refl hw h;have hlp:=h.lt hw;have hM:=h.le;refine gO ?_;have hlv:=N.bm;have hl9:=N.len;refine bA rfl rfl rfl rfl ?_;generalize hf4:A.aa=f4;refine fX (n:=6) (cs:=au t kv) hw h T hf4 ?_;intro A1 x4 p4 o1 c4 T;replace N:=N.k o1;have l1:=T.Fi.wf _ _ c4;refine aq rfl rfl rfl ?_;generalize hf6:A1.aa=f6;refine fX (n:=2) (cs:=bc (0,[])) hw h T hf6 ?_;intro A2 x6 p6 o2 c6 T;replace c4:=o2.k c4;replace N:=N.k o2;refine gO ?_;refine aE ?_;refine yL (pp 0 Y.X.dc (pb 2 vd (pp 4 f4 (pp 6 f6 (.put 7 .aj (pn 8 0 .nil)))))) ?_;refine aV (ι:=Nat×Bool×AV×List bM) (fun i=>t.l.length-i.1) (fun i=>(pp 0 Y.X.dc (pb 2 vd (pp 4 f4 (pp 6 f6 (.put 7 i.2.2.1 (pn 8 i.1 .nil)))))))
  (fun i B=>DT A B Y b i.2.1∧i.1≤t.l.length∧gt B f4 6 (au t kv)∧gt B f6 2 (bc (0,[]))∧aI B (fun g=>g<Y.X.M) t kv∧i.2.2.2.length=i.1∧eH B 2 i.2.2.1 i.2.2.2.length (i.2.2.2.flatMap bc)∧(∀g,i.2.2.1.av g→A.aa≤g∧g≠f4∧g≠f6)∧(b=false→(i.2.1=true→db (cW Y.cx n) (t.l.take i.1)=none)∧(i.2.1=false→db (cW Y.cx n) (t.l.take i.1)=some i.2.2.2))) ?_ (0,b,.aj,[]) A2 ⟨T,Nat.zero_le _,c4,c6,N,rfl,.inl ⟨rfl,rfl,rfl⟩,fun g h=>h.elim,fun hb=>⟨fun h=>(by rw[hb] at h;cases h),fun _=>rfl⟩⟩
 clear T c4 c6 N;rintro ⟨i,b0,vb,ys⟩ A0 ⟨T,hi,c4,c6,N,hyl,hB,hG,hz⟩ ih;replace T:DT A A0 Y b b0:=T;replace hi:i≤t.l.length:=hi;replace hyl:ys.length=i:=hyl;replace hB:eH A0 2 vb ys.length (ys.flatMap bc):=hB;replace hG:∀g,vb.av g→A.aa≤g∧g≠f4∧g≠f6:=hG;replace hz:b=false→(b0=true→db (cW Y.cx n) (t.l.take i)=none)∧(b0=false→db (cW Y.cx n) (t.l.take i)=some ys):=hz;have lt4:=T.Fi.wf _ _ c4;have lt6:=T.Fi.wf _ _ c6;refine wJ hlv ?_;refine zG (fun hlt=>?_) fun hge=>?_
 ·have hltN:i<t.l.length:=Int.ofNat_lt.1 hlt;clear hlt;have hu:t.l[i]?=some t.l[i]:=gE hltN;generalize hx:t.l[i]=u at hu;have hum:u∈t.l:=by rw[←hx];exact List.getElem_mem hltN
  obtain⟨fku,sku,oku,cku,eku,rku,aku,ku,hvu,hsu,hhu,hlu,Nu,htu⟩:=bv N hu;have hku:takeN 6 (aB (Nat.add oku (Nat.mul i 6)) aku)=some (au u ku):=(htu 6 0 (Nat.le_refl _)).trans rfl;refine wI hvu hlu ?_;refine wK hhu hku ?_;refine zC rfl (hE T.Fi.wf T.ps Nu (hP.2 u hum).1 (hP.2 u hum).2) ?_;rintro r A1 ⟨y1,b1,rfl,t1,z1⟩;replace T:=T.then t1;obtain⟨c4,c6⟩:=t1.Fi.k2 c4 c6;replace N:=t1.bl N;have m1:=t1.Fi.aa;replace hB:=hB.ae t1.Fi fun g hg e=>by have:=(hG g hg).1;have e:g=Y.X.dc:=e;omega
  refine oP ?_;refine bE rfl rfl rfl rfl rfl (cH (n:=ys.length) (de:=d30) (xs:=bc y1) rfl rfl rfl rfl T.Fi.wf hB rfl dE (cU om dE)) ?_;intro vb' A9 G;replace c4:=G.Fi.ae _ _ c4 fun k=>(hG _ k).2.1 rfl;replace c6:=G.Fi.ae _ _ c6 fun k=>(hG _ k).2.2 rfl;replace N:=N.ae G.Fi fun g hg k=>by have:=(hG g k).1;omega
  have l5:=T.Fi.aa;replace T:=T.fresh hw h G.Fi fun g hg=>(hG g hg).1;refine wP ?_;refine ai ?_;refine yL (pp 0 Y.X.dc (pb 2 vd (pp 4 f4 (pp 6 f6 (.put 7 vb' (pn 8 (i+1:Nat) .nil)))))) ?_;refine ih (i+1,b1,vb',ys++[y1]) A9 (by simp only;omega) ⟨T,hltN,c4,c6,N,?_,?_,fun g hg=>(G.grow g hg).elim (hG g) fun k=>?_,fun hb=>?_⟩
  ·show (ys++[y1]).length=i+1;rw[lA,hyl];rfl
  ·show eH A9 2 vb' (ys++[y1]).length ((ys++[y1]).flatMap bc);rw[lA,fA];have:=(show eH A9 2 vb' (ys.length+1) _ from G.buf);simpa using this
  ·have:=t1.Fi.aa;exact⟨om,om,om⟩
  ·rw[tS hltN,hx];exact jq (hz hb) t1.bad z1
 have hge:i=t.l.length:=by
  omega
 subst hge;rw[tL] at hz;clear ih;refine ay rfl ?_;obtain⟨a0,hc⟩:=T.ps.cell;refine gO ?_;cases b0 with
 | true=>
  refine rU ?_;refine zS c6 ?_;have oS:=ac.put (x:=.cells 0 false 2 (bc (0,[]))) T.Fi.wf (T.Fi.wf _ _ c6);refine gO ?_;exact zR (XD.no (y:=(0,[])) (T.fresh hw h oS fun g hg=>by cases hg;exact x6) fun hb=>⟨rfl,Al ((hz hb).1 rfl)⟩)
 | false=>
  have hb:b=false:=T.flag;subst hb;have hz:=(hz rfl).2 rfl;obtain⟨y0,ys1,rfl⟩:∃y0 ys1,ys=y0::ys1:=by
   cases ys with
   | nil=>exact absurd (List.eq_nil_of_length_eq_zero hyl.symm) hP.1
   | cons y0 ys1=>exact⟨y0,ys1,rfl⟩
  obtain⟨f7,t7',o7',cc7,ex7,ro7,all7,hv7,hh7,hl7,hat7⟩:=dT (cl:=bc) (fun _=>rfl) hB.row (i:=0) (x:=y0) rfl;have lt7:=T.Fi.wf _ _ hh7;refine da rfl ?_;have hBu:∀g,vb.av g→g<A0.aa:=hB.under T.Fi.wf;refine tD ?_;refine ax rfl rfl rfl rfl rfl ?_;refine zI 0 hv7 hl7 ?_;refine eP ?_;refine dR ?_;have tx7:=aR ((hat7 1 1 dE).trans rfl);refine rD ?_;refine aZ rfl rfl rfl rfl hh7 (v:=.str y0.2) tx7 ?_;refine eR ?_;refine dR ?_;refine bW rfl rfl rfl rfl ?_;refine aq rfl rfl rfl ?_;generalize hf9:A0.aa=f9;refine fX (n:=6) (cs:=au dL .aj) hw h T hf9 ?_;intro A1 x9 p9 o1 c9 T;obtain⟨c4,c6,hh7⟩:=o1.k3 c4 c6 hh7;replace hB:=hB.k o1;have l1:=T.Fi.wf _ _ c9;refine oP ?_;refine aC ?_;refine zC rfl (jm (c:=y0.2) (n:=t.s) (k:=4) T.Fi.wf T.ps) ?_;rintro r44 A2 ⟨o2,hr44⟩;replace T:=T.quiet o2;obtain⟨c4,c6,c9,hh7⟩:=o2.k4 c4 c6 c9 hh7
  replace hB:=hB.k o2;have hu44:∃o ko th,r44=.tuple [.agg (au o ko),.bool th]∧match dM Y.cx.cs Y.cx.hs y0.2 t.s 4 with
   | none=>th=false
   | some o'=>th=true∧o'=o∧aI A2 (fun g=>g<Y.X.M∨A1.aa≤g) o ko:=by
   cases hm:dM Y.cx.cs Y.cx.hs y0.2 t.s 4 with
   | none=>
    have hm':dM Y.X.t.l Y.X.hs y0.2 t.s 4=none:=hm;rw[hm'] at hr44;exact⟨dL,.aj,false,hr44,rfl⟩
   | some o'=>
    have hm':dM Y.X.t.l Y.X.hs y0.2 t.s 4=some o':=hm;rw[hm'] at hr44;obtain⟨ko,g1,g2⟩:=hr44;exact⟨o',ko,true,g1,rfl,rfl,g2⟩
  clear hr44;obtain⟨o,ko,th,rfl,h44⟩:=hu44;refine sA ?_;refine aC ?_;refine zS c9 ?_;refine bD (cs:=au o ko) hw h T x9 c9 ?_;intro A3 o3 c9 T;obtain⟨c4,c6,hh7⟩:=o3.k3 c4 c6 hh7;replace hB:=hB.ae o3 fun g hg e=>by have:=hBu g hg;have:=(hG g hg).2;have e:g=f9:=e;omega
  refine sA ?_;refine aC ?_;refine sA ?_;refine eD ?_;refine tD ?_;refine ax rfl rfl rfl rfl rfl ?_;refine zI 0 hv7 hl7 ?_;refine eP ?_;refine rD ?_;refine zK hh7 ((hat7 2 0 dE).trans rfl) ?_;refine eR ?_;refine aC ?_;refine zC rfl (dB T.Fi.wf) ?_;rintro r A4 ⟨rfl,o4⟩;replace T:=T.quiet o4;obtain⟨c4,c6,c9⟩:=o4.k3 c4 c6 c9;replace hB:=hB.k o4;refine sA ?_;refine dR ?_;by_cases h4:y0.1=4
  ·refine aL 52 true rfl (yT h4) ?_;refine aC ?_;cases hm:dM Y.cx.cs Y.cx.hs y0.2 t.s 4 with
   | none=>
    rw[hm] at h44;have h44:th=false:=h44;subst h44;refine zC rfl (aG T.Fi.wf T.ps) ?_;rintro r A5 ⟨rfl,t5⟩;replace T:=T.then t5;replace c6:=t5.Fi.k c6;refine sA ?_;refine eD ?_;refine rU ?_;refine zS c6 ?_;refine bD (cs:=bc (0,[])) hw h T x6 c6 ?_;intro A6 o6 c6 T;refine gO ?_;exact zT c6 (XD.no (y:=(0,[])) T fun _=>⟨rfl,(wO hz).trans (by rw[xZ hm])⟩)
   | some o'=>
    rw[hm] at h44;obtain⟨rfl,rfl,No⟩:=h44;replace No:aI A2 (fun g=>g<Y.X.M∨A1.aa≤g∧g<A2.aa) o' ko:=by
     have w:=o2.wf;exact No.mono fun g hg ⟨F,hF⟩=>hg.imp (fun h=>h) fun h=>⟨h,w g F hF⟩
    replace No:=No.k o3;replace No:=No.k o4;refine zC rfl (aG T.Fi.wf T.ps) ?_;rintro r A5 ⟨rfl,t5⟩;replace T:=T.then t5;replace No:=No.k t5.Fi;obtain⟨c4,c6,c9⟩:=t5.Fi.k3 c4 c6 c9;replace hB:=hB.ae t5.Fi fun g hg e=>by have:=(hG g hg).1;have e:g=Y.X.dc:=e;omega
    refine sA ?_;refine eD ?_;refine da rfl ?_;have hmo:=(jg h.mem hm).1;have hmk:=(jg h.mem hm).2;have hp:=hmo.2 hmk;refine wL c9 ?_;refine zC rfl (fQ T.Fi.wf No hp.1) ?_;rintro r A6 ⟨Np,o6⟩;replace T:=T.quiet o6;obtain⟨c4,c6,c9⟩:=o6.k3 c4 c6 c9;replace hB:=hB.k o6;replace No:=No.k o6;refine gO ?_;have hpl:bm r=some (params o').length:=Np.bm;have hysl:ys1.length+1≤9000:=by have:=hyl;rw[lC] at this;omega
    generalize hr11:r=r11 at Np hpl ⊢;clear hr11;refine wJ hpl ?_;refine wJ hB.bm ?_;refine fd rfl rfl rfl (by rw[lC];omega) (by rw[lC];omega) ?_;refine gO ?_;refine aE ?_;refine yL (pp 0 Y.X.dc (pb 2 vd (pp 4 f4 (pp 6 f6 (pv 7 vb (pp 9 f9 (.put 10 (.bool (decide (((params o').length:Int)=(((y0::ys1).length:Nat) : Int)-1))) (pv 11 r11 (pn 12 0 .nil))))))))) ?_;refine aV (ι:=Nat×Bool) (fun w=>(params o').length-w.1) (fun w=>(pp 0 Y.X.dc (pb 2 vd (pp 4 f4 (pp 6 f6 (pv 7 vb (pp 9 f9 (pb 10 w.2 (pv 11 r11 (pn 12 w.1 .nil))))))))))
     (fun w B=>DT A B Y false false∧w.1≤(params o').length∧gt B f4 6 (au t kv)∧gt B f6 2 (bc (0,[]))∧gt B f9 6 (au o' ko)∧aI B (fun g=>g<Y.X.M∨A1.aa≤g∧g<A2.aa) o' ko∧aI B (fun g=>g<Y.X.M∨A1.aa≤g∧g<A2.aa) (jT (params o')) r11∧eH B 2 vb (y0::ys1).length ((y0::ys1).flatMap bc)∧(w.2=true→(params o').length=ys1.length∧∀j,j<w.1→bI Y.cx.hs (mU ys1 j) (first ((params o').getD j dL)))∧(w.2=false→¬((params o').length=ys1.length∧∀j,j<(params o').length→bI Y.cx.hs (mU ys1 j) (first ((params o').getD j dL))))) ?_ (0,_) A6 ⟨T,Nat.zero_le _,c4,c6,c9,No,Np,hB,fun h=>⟨?_,fun j hj=>absurd hj (Nat.not_lt_zero _)⟩,fun h k=>?_⟩
    rotate_left
    ·have h:=of_decide_eq_true h;rw[lC] at h;omega
    ·have h:=of_decide_eq_false h;rw[lC] at h;have:=k.1;omega
    clear T c4 c6 c9 No Np hB hh7;rintro ⟨i,ok⟩ B0 ⟨T,hi,c4,c6,c9,No,Np,hB,hok1,hok0⟩ ih;replace T:DT A B0 Y false false:=T;replace hi:i≤(params o').length:=hi;replace hok1:ok=true→(params o').length=ys1.length∧∀j,j<i→bI Y.cx.hs (mU ys1 j) (first ((params o').getD j dL)):=hok1;replace hok0:ok=false→¬((params o').length=ys1.length∧∀j,j<(params o').length→bI Y.cx.hs (mU ys1 j) (first ((params o').getD j dL))):=hok0;refine wJ hpl ?_;refine dU 4 (pp 0 Y.X.dc (pb 2 vd (pp 4 f4 (pp 6 f6 (pv 7 vb (pp 9 f9 (pb 10 ok (pv 11 r11 (pn 12 i (.put 74 (.bool (decide (i<(params o').length∧ok=true))) .nil)))))))))) ?_ ?_
    ·refine oP ?_;by_cases h1:i<(params o').length
     ·refine wT 72 (Int.ofNat_lt.2 h1) ?_;refine oP ?_;refine⟨rfl,rfl,rfl,rfl,rfl,rfl,rfl,rfl,rfl,rfl,?_,trivial⟩;cases ok with
      | true=>exact congrArg (fun x=>some (AV.bool x)) (yT ⟨h1,rfl⟩).symm
      | false=>exact congrArg (fun x=>some (AV.bool x)) (yF fun h=>(by cases h.2)).symm
     ·refine aF 72 false rfl (yF fun h=>h1 (Int.ofNat_lt.1 h)) ?_;refine oP ?_;exact⟨rfl,rfl,rfl,rfl,rfl,rfl,rfl,rfl,rfl,rfl,congrArg (fun x=>some (AV.bool x)) (yF fun h=>h1 h.1).symm,trivial⟩
    refine sQ ?_;refine zG (fun hgo=>?_) fun hgo=>?_
    ·obtain⟨hltN,rfl⟩:i<(params o').length∧ok=true:=hgo;obtain⟨hlen,hfit⟩:=hok1 rfl;have hu:(params o')[i]?=some (params o')[i]:=gE hltN;have hgd:(params o').getD i dL=(params o')[i]:=by rw[List.getD_eq_getElem?_getD,hu];rfl
     have hum:(params o')[i]∈params o':=List.getElem_mem hltN;generalize (params o')[i]=u at hu hgd hum;have hy:(y0::ys1)[i+1]?=some ys1[i]:=by rw[List.getElem?_cons_succ];exact gE om
     have hya:mU ys1 i=ys1[i]'om:=by unfold mU;rw[List.getD_eq_getElem?_getD,gE om];rfl
     generalize ys1[i]'om=yi at hy hya;obtain⟨fy,ty',oy,ccy,exy,roy,ally,hvy,hhy,hly,haty⟩:=dT (cl:=bc) (fun _=>rfl) hB.row hy;obtain⟨fu,tu',ou,ccu,exu,rou,allu,ku,hvu,hsu,hhu,hlu,Nu,hatu⟩:=bv Np hu;have hku:=aR ((hatu 1 5 dE).trans rfl);obtain⟨w,hw0⟩:∃w,u.l[0]?=some w:=⟨_,gE (hp.2 u hum)⟩;obtain⟨fk,sk,ok',ck,ek,rk,ak,kw,hvk,hsk',hhk,hlk,Nk,hatk⟩:=bv Nu hw0;have htx:=aR ((hatk 1 2 dE).trans rfl);have hty:takeN 2 (aB (Nat.add oy (Nat.mul (i+1) 2)) ally)=some (bc yi):=(haty 2 0 dE).trans rfl;have hsy:dC (.agg (bc yi)) (.agg (bc yi))=true:=rN;obtain⟨a0,hc⟩:=T.ps.cell;refine tD ?_;refine ax rfl rfl rfl rfl rfl ?_;refine zP ?_;refine eP ?_;refine ax rfl rfl rfl rfl rfl ?_;refine bg (i+1) rfl (congrArg some hvy) rfl rfl (show (i:Int)+1=((i+1:Nat) : Int) by omega) hly ?_;refine eP ?_;refine rD ?_;refine zK hhy hty ?_;refine eR ?_
     refine dR ?_;refine ax rfl rfl rfl rfl rfl ?_;refine zI i hvu hlu ?_;refine eP ?_;refine rD ?_;refine aZ rfl rfl rfl rfl hhu (v:=ku) hku ?_;refine eR ?_;refine ax rfl rfl rfl rfl rfl ?_;refine zI 0 hvk hlk ?_;refine eP ?_;refine rD ?_;refine aZ rfl rfl rfl rfl hhk (v:=.str w.s) htx ?_;refine eR ?_;refine aC ?_;refine zC rfl (fP T.Fi.wf) ?_;rintro r94 D1 ⟨rfl,oD1⟩;replace T:=T.quiet oD1;obtain⟨c4,c6,c9,hc,hhy⟩:=oD1.k5 c4 c6 c9 hc hhy;replace No:=No.k oD1;replace Np:=Np.k oD1;replace hB:=hB.k oD1;refine sA ?_;refine aC ?_;refine zC rfl (lm T.Fi.wf T.ps) ?_;rintro r95 D2 ⟨rfl,oD2⟩;replace T:=T.quiet oD2;obtain⟨c4,c6,c9⟩:=oD2.k3 c4 c6 c9;replace No:=No.k oD2;replace Np:=Np.k oD2;replace hB:=hB.k oD2;refine sA ?_;refine aC ?_;refine sA ?_;refine eD ?_;refine wP ?_;refine ai ?_
     refine yL (pp 0 Y.X.dc (pb 2 vd (pp 4 f4 (pp 6 f6 (pv 7 vb (pp 9 f9 (.put 10 (.bool (decide (bI Y.X.hs yi (named w.s)))) (pv 11 r11 (pn 12 (i+1:Nat) .nil))))))))) ?_;have ef:decide (bI Y.X.hs yi (named w.s))=decide (bI Y.cx.hs (mU ys1 i) (first ((params o').getD i dL))):=by
      show _=decide (bI Y.X.hs (mU ys1 i) (first ((params o').getD i dL)));unfold first
      rw[hya,hgd,aW hw0]
     refine ih (i+1,_) D2 (by simp only;omega) ⟨T,hltN,c4,c6,c9,No,Np,hB,fun h=>⟨hlen,fun j hj=>?_⟩,fun h k=>?_⟩
     ·by_cases e:j=i
      ·subst e;exact of_decide_eq_true (ef.symm.trans h)
      ·exact hfit j (by have hj:j<i+1:=hj;omega)
     ·exact of_decide_eq_false (ef.symm.trans h) (k.2 i hltN)
    have hall:ok=true↔((params o').length=ys1.length∧∀j,j<(params o').length→bI Y.cx.hs (mU ys1 j) (first ((params o').getD j dL))):=by
     cases ok with
     | true=>
      have hok1:=hok1 rfl;have hge:(params o').length≤i:=by
       refine Nat.not_lt.1 fun hl=>hgo ⟨hl,rfl⟩
      exact⟨fun _=>⟨hok1.1,fun j hj=>hok1.2 j om⟩,fun _=>rfl⟩
     | false=>exact⟨fun h=>(by cases h),fun h=>absurd h (hok0 rfl)⟩
    clear hok1 hok0 ih hgo;refine ay rfl ?_;obtain⟨w,hw0⟩:∃w,o'.l[0]?=some w:=⟨_,gE hmo.1⟩;have efm:first o'=named w.s:=by unfold first;rw[aW hw0]
    obtain⟨fk,sk,ok',ck,ek,rk,ak,kw,hvk,hsk',hhk,hlk,Nk,hatk⟩:=bv No hw0;have htx:=aR ((hatk 1 2 dE).trans rfl);refine wI hvk hlk ?_;refine aZ rfl rfl rfl rfl hhk (v:=.str w.s) htx ?_;refine wC (fP T.Fi.wf) ?_;rintro r A1 ⟨rfl,o1⟩;replace T:=T.quiet o1;obtain⟨c4,c6⟩:=o1.k2 c4 c6;refine oP ?_;refine aq rfl rfl rfl ?_;refine zS (by rw[AW.add_get,iP rfl]) ?_;generalize hf13:A1.aa=f13;refine eZ (n:=2) (cs:=bc (named w.s)) hw h T hf13 ?_;intro A2 x13 p13 o2 c13 T;obtain⟨c4,c6⟩:=o2.k2 c4 c6;refine gO ?_;refine dU 7 (pp 0 Y.X.dc (pb 2 vd (pp 4 f4 (pp 6 f6 (pp 13 f13 (pp 102 Y.X.dc (.put 111 (.bool (decide (ok=true∧(vd=true∨(named w.s).1≠0)))) .nil))))))) ?_ ?_
    ·refine oP ?_;cases ok with
     | false=>
      refine aF 104 false rfl rfl ?_;refine oP ?_;exact⟨rfl,rfl,rfl,rfl,rfl,rfl,rfl,congrArg (fun x=>some (AV.bool x)) ((yF fun h=>(by cases h.1)).symm),trivial⟩
     | true=>
      refine aF 104 true rfl rfl ?_;refine oP ?_;cases vd with
      | true=>
       refine aF 106 true rfl rfl ?_;refine oP ?_;exact⟨rfl,rfl,rfl,rfl,rfl,rfl,rfl,congrArg (fun x=>some (AV.bool x)) ((yT ⟨rfl,.inl rfl⟩).symm),trivial⟩
      | false=>
       refine aF 106 false rfl rfl ?_;refine oP ?_;exact⟨rfl,rfl,rfl,rfl,rfl,rfl,rfl,congrArg (fun x=>some (AV.bool x)) (decide_eq_decide.2 ⟨fun h=>⟨rfl,.inr h⟩,fun h=>h.2.elim (fun h=>(by cases h)) fun h=>h⟩),trivial⟩
    refine wC (aG T.Fi.wf T.ps) ?_;rintro r A3 ⟨rfl,t3⟩;replace T:=T.then t3;obtain⟨c6,c13⟩:=t3.Fi.k2 c6 c13;refine wL c13 ?_;refine zS c6 ?_;refine bD (cs:=bc (named w.s)) hw h T x6 c6 ?_;intro A4 o4 c6 T;refine gO ?_;refine zT c6 (XD.tU (XD.ask (w:=named w.s) T fun _=>rfl) ?_);rw[wO hz];by_cases hok:ok=true
    ·have ha:=hall.1 hok;rw[mM h4 hm ha.1,iP ha.2,efm];by_cases hv:vd=true∨(named w.s).1≠0
     ·rw[iP ⟨hok,hv⟩];exact (iP hv).symm
     ·rw[if_neg fun h=>hv h.2];exact (iN hv).symm
    ·rw[if_neg fun h=>hok h.1];by_cases hln:(params o').length=ys1.length
     ·rw[mM h4 hm hln,if_neg fun h=>hok (hall.2 ⟨hln,h⟩)]
     ·rw[vh hm hln]
  ·refine aL 52 false rfl (yF h4) ?_;refine dO ?_;refine aC ?_;refine zC rfl (aG T.Fi.wf T.ps) ?_;rintro r A5 ⟨rfl,t5⟩;replace T:=T.then t5;replace c6:=t5.Fi.k c6;refine sA ?_;refine eD ?_;refine rU ?_;refine zS c6 ?_;refine bD (cs:=bc (0,[])) hw h T x6 c6 ?_;intro A6 o6 c6 T;refine gO ?_;exact zT c6 (XD.no (y:=(0,[])) T fun _=>⟨rfl,(wO hz).trans (by rw[callY_4 h4])⟩)
theorem lq{C:Cx}{n:Nat}{t:Nd}{z:Option bM}(h:eE C (cW C n) t=z)(hk:¬t.k=29): cW C (n+1) t=z:=by
 show (match eE C (cW C n) t with
  | none=>none
  | some y=>if t.k=29∧y.1=0 then none else some y)=z
 rw[h];cases z with
 | none=>rfl
 | some y=>exact if_neg fun h=>hk h.1
theorem DO{C:Cx}{n:Nat}{t:Nd}(hk:t.k=29): cW C (n+1) t=nG C (cW C n) false t:=by
 have e:eE C (cW C n) t=cK C (cW C n) t:=by
  unfold eE;rw[iN om,iN om,iN om,iN om,iN om,iN om,iP hk]
 show (match eE C (cW C n) t with
  | none=>none
  | some y=>if t.k=29∧y.1=0 then none else some y)=_
 rw[e];unfold nG;cases cK C (cW C n) t with
 | none=>rfl
 | some y=>
  show (if t.k=29∧y.1=0 then none else some y:Option bM)=if false=true∨y.1≠0 then some y else none
  by_cases h0:y.1=0
  ·rw[iP ⟨hk,h0⟩,if_neg fun h=>h.elim (fun h=>by cases h) fun h=>h h0]
  ·rw[if_neg fun h=>h0 h.2,iP (.inr h0)]
theorem ue{C:Cx}{rec:Nd→Option bM}{t:Nd}:nG C rec true t=cK C rec t:=by
 unfold nG;cases cK C rec t with
 | none=>rfl
 | some y=>exact iP (.inl rfl)
theorem vx{C:Cx}{n:Nat}{t:Nd}(h1:¬t.k=23)(h2:¬t.k=24)(h3:¬t.k=25)(h4:¬t.k=26)(h5:¬t.k=27)(h6:¬t.k=29)(h7:¬t.k=31)(h8:¬t.k=33): cW C (n+1) t=match db (cW C n) t.l with
 | none=>none
 | some ys=>fF C t ys:=by
 refine lq ?_ h6;unfold eE;rw[iN h1,iN h2,iN h3,iN h4,iN h5,iN h7,iN h6,iN h8];rfl
theorem Bh{t:Nd}{n:Nat}(h:Ex t)(hs:sz t≤n+1)(h1:¬t.k=23)(h2:¬t.k=24)(h3:¬t.k=25)(h4:¬t.k=26)(h5:¬t.k=27)(h6:¬t.k=29)(h7:¬t.k=31):
 (∀u∈t.l,Ex u∧sz u≤n)∧((∃u,t.l=[u])∨(¬t.k=33∧∃u v,t.l=[u,v]))∧(¬t.k=33→t.k=28∨t.k=30∨t.k=32∨t.k=34∨t.k=35∨t.k=36∨t.k=37)∧(t.k=34→Fd t.s):=by
 have hk:∀u∈t.l,sz u≤n:=fun u hu=>by
  have:=fE hu;omega
 cases h with
 | leaf hk'=>simp only[Nd.k] at *;omega
 | new hn=>exact absurd rfl h7
 | @one k a s i x e hk' he=>
  refine⟨fun u hu=>⟨?_,hk u hu⟩,.inl ⟨e,rfl⟩,fun _=>by simp only[Nd.k] at *;omega,fun h=>by simp only[Nd.k] at h;omega⟩;cases List.mem_singleton.1 (show u∈[e] from hu);exact he
 | @cast k a s i x e hk' hn he=>
  refine⟨fun u hu=>⟨?_,hk u hu⟩,.inl ⟨e,rfl⟩,fun _=>by simp only[Nd.k] at *;omega,fun h=>by simp only[Nd.k] at h;omega⟩;cases List.mem_singleton.1 (show u∈[e] from hu);exact he
 | @idx a s i x e f he hf=>
  refine⟨fun u hu=>⟨?_,hk u hu⟩,.inr ⟨by show ¬(30:Int)=33;decide,e,f,rfl⟩,fun _=>.inr (.inl rfl),fun h=>absurd h (by show ¬(30:Int)=34;decide)⟩;rcases List.mem_cons.1 (show u∈[e,f] from hu) with rfl|hu
  ·exact he
  ·cases List.mem_singleton.1 hu;exact hf
 | @bin a s i x e f ho he hf=>
  refine⟨fun u hu=>⟨?_,hk u hu⟩,.inr ⟨by show ¬(34:Int)=33;decide,e,f,rfl⟩,fun _=>.inr (.inr (.inr (.inl rfl))),fun _=>ho⟩;rcases List.mem_cons.1 (show u∈[e,f] from hu) with rfl|hu
  ·exact he
  ·cases List.mem_singleton.1 hu;exact hf
 | @call a s i x l hl he=>exact absurd rfl h6
theorem XD.same{A A1:AW}{Y:DY}{b:Bool}{z:Option bM}{y:bM}(T:DT A A1 Y b b)(h:z=some y): XD A A1 Y b z (.agg (bc y)):=⟨y,b,rfl,T,fun hb=>by
 subst h;exact⟨hb,rfl⟩⟩
theorem XD.then{A A1 A2:AW}{Y:DY}{z:Option bM}{r:AV}(T:DT A A1 Y false false)(h:XD A1 A2 Y false z r): XD A A2 Y false z r:=by
 obtain⟨y,b1,h1,h2,h3⟩:=h;exact⟨y,b1,h1,T.then h2,h3⟩
theorem XD.quiet{A A1 A2:AW}{Y:DY}{b:Bool}{z:Option bM}{r:AV}(h:XD A A1 Y b z r)(o:ac A1 A2 ag): XD A A2 Y b z r:=by
 obtain⟨y,b1,h1,h2,h3⟩:=h;exact⟨y,b1,h1,h2.quiet o,h3⟩
theorem DP{n:Nat}{t:Nd}(h:Ex t)(k:t.k=29)(hs:sz t≤n+1): t.l≠[]∧∀u∈t.l,Ex u∧sz u≤n:=by
 refine⟨(ex_29 h k hs).1,fun u hu=>⟨((ex_29 h k hs).2 u hu).1,?_⟩⟩;have:=fE hu;omega
set_option maxHeartbeats 8000000 in
theorem Am{K:FuncId}{n:Nat}(hE:RFn K n): RFn K (n+1):=by
 intro A Y b t kv hw h N hx hs;refine ap rfl rfl rfl ?_;have T:=DT.refl hw h;have hlp:=h.lt hw;have hM:=h.le;refine gO ?_;have hlv:=N.bm;refine bA rfl rfl rfl rfl ?_;generalize hf3:A.aa=f3;refine fX (n:=6) (cs:=au t kv) hw h T hf3 ?_;intro A1 x3 p3 o1 c3 T;replace N:=N.k o1;have l1:=T.Fi.wf _ _ c3;refine aq rfl rfl rfl ?_;generalize hf4:A1.aa=f4;refine fX (n:=2) (cs:=bc (0,[])) hw h T hf4 ?_;intro A2 x4 p4 o2 c4 T;replace c3:=o2.k c3;replace N:=N.k o2;have l2:=T.Fi.wf _ _ c4;obtain⟨a0,hc⟩:=T.ps.cell;refine gO ?_;cases b with
 | true=>
  refine rU ?_;refine zS c4 ?_;refine bD (cs:=bc (0,[])) hw h T x4 c4 ?_;intro A3 o3 c4 T;replace c3:=o3.k c3;replace N:=N.k o3;have m3:=o3.aa;refine gO ?_;exact zT c4 (XD.no (y:=(0,[])) T fun h=>(by cases h))
 | false=>
  refine rU ?_;refine aq rfl rfl rfl ?_;refine zS (by rw[AW.add_get,iP rfl]) ?_;generalize hf5:A2.aa=f5;refine eZ (n:=2) (cs:=bc (1,[])) hw h T hf5 ?_;intro A3 x5 p5 o3 c5 T;obtain⟨c3,c4⟩:=o3.k2 c3 c4;replace N:=N.k o3;have l3:=T.Fi.wf _ _ c5;replace hc:=o3.k hc;refine wD (fun k23=>?_) fun k23=>?_
  ·have k23:t.k=23:=k23;have ez:cW Y.cx (n+1) t=some (1,[]):=lq (by
    unfold eE;rw[iP k23]) om
   refine wL c5 ?_;refine zS c4 ?_;refine bD (cs:=bc (1,[])) hw h T x4 c4 ?_;intro A4 o4 c4 T;refine gO ?_;exact zT c4 (XD.same T ez)
  have k23:¬t.k=23:=k23;refine wD (fun k24=>?_) fun k24=>?_
  ·have k24:t.k=24:=k24;have ez:cW Y.cx (n+1) t=some (2,[]):=lq (by
    unfold eE;rw[iN om,iP k24]) om
   refine gO ?_;refine zS c4 ?_;refine bD (cs:=bc (2,[])) hw h T x4 c4 ?_;intro A4 o4 c4 T;refine gO ?_;exact zT c4 (XD.same T ez)
  have k24:¬t.k=24:=k24;refine wD (fun k25=>?_) fun k25=>?_
  ·have k25:t.k=25:=k25;have ez:cW Y.cx (n+1) t=some (5,[]):=lq (by
    unfold eE;rw[iN om,iN om,iP k25]) om
   refine gO ?_;refine zS c4 ?_;refine bD (cs:=bc (5,[])) hw h T x4 c4 ?_;intro A4 o4 c4 T;refine gO ?_;exact zT c4 (XD.same T ez)
  have k25:¬t.k=25:=k25;refine wD (fun k26=>?_) fun k26=>?_
  ·have k26:t.k=26:=k26;have ez:cW Y.cx (n+1) t=some (4,Y.cx.cls):=lq (by
    unfold eE;rw[iN om,iN om,iN om,iP k26]) om
   refine gO ?_;refine zS c4 ?_;refine bD (cs:=bc (4,Y.cls)) hw h T x4 c4 ?_;intro A4 o4 c4 T;refine gO ?_;exact zT c4 (XD.same T ez)
  have k26:¬t.k=26:=k26;refine wD (fun k27=>?_) fun k27=>?_
  ·have k27:t.k=27:=k27;have ez:cW Y.cx (n+1) t=bN Y.cx.vars t.s:=lq (by
    unfold eE;rw[iN om,iN om,iN om,iN om,iP k27]) om
   refine wC (jQ T.Fi.wf T.ps) ?_;rintro r A' ⟨e',z,rfl,hz⟩;obtain rfl:A3=A':=e'.symm;refine wC (aG T.Fi.wf T.ps) ?_;rintro r A4 ⟨rfl,t4⟩;replace T:=T.then t4;replace c4:=t4.Fi.k c4;refine gO ?_;rcases hz with ⟨rfl,hz⟩|⟨i,v,rfl,hv,hvn,hz⟩
   ·refine rU ?_;refine zS c4 ?_;refine bD (cs:=bc (0,[])) hw h T x4 c4 ?_;intro A5 o5 c4 T;refine gO ?_;exact zT c4 (XD.no (y:=(0,[])) T fun _=>⟨rfl,ez.trans hz⟩)
   ·have hge:decide ((0:Int)≤(i:Int))=true:=yT om;rw[hge] at T ⊢;refine da rfl ?_;obtain⟨a1,hc'⟩:=T.ps.cell;obtain⟨f,t',o,cc,ex,ro,all,hvv,hh,hl,cw⟩:=dT (cl:=nE) (fun _=>rfl) T.ps.row.row hv;refine wI hvv hl ?_;refine zK hh ((cw 2 1 dE).trans rfl) ?_;refine oP ?_;refine zS c4 ?_;refine bD (cs:=bc v.2.1) hw h T x4 c4 ?_;intro A5 o5 c4 T;refine gO ?_;exact zT c4 (XD.same T (ez.trans hz))
  have k27:¬t.k=27:=k27;refine wD (fun k29=>?_) fun k29=>?_
  ·have k29:t.k=29:=k29;have ez:cW Y.cx (n+1) t=nG Y.cx (cW Y.cx n) false t:=DO k29;refine wL c3 ?_;refine zC rfl (oo hE T.Fi.wf T.ps N (DP hx k29 hs)) ?_;rintro r A4 ⟨y4,b4,rfl,t4,z4⟩;replace T:=T.then t4;replace c4:=t4.Fi.k c4;refine oP ?_;refine zS c4 ?_;refine bD (cs:=bc y4) hw h T x4 c4 ?_;intro A5 o5 c4 T;refine gO ?_;exact zT c4 (XD.tU ⟨y4,b4,rfl,T,z4⟩ ez.symm)
  have k29:¬t.k=29:=k29;refine wD (fun k31=>?_) fun k31=>?_
  ·have k31:t.k=31:=k31;have ez:cW Y.cx (n+1) t=if has Y.cx.hs t.s=true then some (4,t.s) else none:=lq (by
    unfold eE;rw[iN om,iN om,iN om,iN om,iN om,iP k31]) om
   refine gO ?_;obtain⟨a0,hc⟩:=T.ps.cell;refine tD ?_;refine aC ?_;refine zC rfl (gS T.ps.ri T.ps.ht.len) ?_;rintro r A' ⟨rfl,e'⟩;obtain rfl:A3=A':=e'.symm;refine sA ?_;refine aC ?_;refine zC rfl (aG T.Fi.wf T.ps) ?_;rintro r A4 ⟨rfl,t4⟩;replace T:=T.then t4;obtain⟨c3,c4⟩:=t4.Fi.k2 c3 c4;refine sA ?_;refine eD ?_;refine zS c4 ?_;refine bD (cs:=bc (4,t.s)) hw h T x4 c4 ?_;intro A5 o5 c4 T;refine gO ?_;refine zT c4 (XD.tU (XD.ask (p:=has Y.cx.hs t.s=true) ?_ fun _=>rfl) ez.symm);rw[show decide ((0:Int)≤ix (Y.X.hs.map Prod.fst) t.s 0)=decide (has Y.cx.hs t.s=true) from decide_eq_decide.2 (fW _ _)] at T;exact T
  have k31:¬t.k=31:=k31;refine wD (fun k33=>?_) fun k33=>?_
  ·have k33:t.k=33:=k33;obtain⟨hK,hsh,_,_⟩:=Bh hx hs k23 k24 k25 k26 k27 k29 k31;obtain⟨u,hul⟩:∃u,t.l=[u]:=hsh.resolve_right fun h=>h.1 k33;have hu:t.l[0]?=some u:=by rw[hul];rfl
   have hum:u∈t.l:=by rw[hul];exact List.mem_singleton.2 rfl
   have ek:ba t=u:=aW hu;have ez:cW Y.cx (n+1) t=(if u.k≠29 then none else match cK Y.cx (cW Y.cx n) u with
    | none=>none
    | some y=>if y.1=0∧u.l.length=1 then some (1,[]) else none:Option bM):=lq (by
    unfold eE;rw[iN om,iN om,iN om,iN om,iN om,iN om,iN om,iP k33,ek];rfl) om
   obtain⟨fku,sku,oku,cku,eku,rku,aku,ku,hvu,hsu,hhu,hlu,Nu,htu⟩:=bv N hu;have hku:takeN 6 (aB (Nat.add oku (Nat.mul 0 6)) aku)=some (au u ku):=(htu 6 0 (Nat.le_refl _)).trans rfl;refine wI hvu hlu ?_;refine wK hhu hku ?_;refine aq rfl rfl rfl ?_;refine zS (by rw[AW.add_get,iP rfl]) ?_;generalize hf7:A3.aa=f7;refine eZ (n:=6) (cs:=au u ku) hw h T hf7 ?_;intro A4 x7 p7 o4 c7 T;obtain⟨c3,c4,c5⟩:=o4.k3 c3 c4 c5;replace Nu:=Nu.k o4;refine gO ?_;have hlu9:=Nu.bm;refine zG (fun k29u=>?_) fun k29u=>?_
   ·have k29u:u.k≠29:=k29u;refine wL c7 ?_;refine zC rfl (hE T.Fi.wf T.ps Nu (hK u hum).1 (hK u hum).2) ?_;rintro r A5 ⟨y5,b5,rfl,t5,z5⟩;replace T:=T.then t5;obtain⟨c3,c4,c5⟩:=t5.Fi.k3 c3 c4 c5;refine wC (Aj T.Fi.wf T.ps) ?_;rintro r A6 t6;replace T:=T.then t6;obtain⟨c4,c5⟩:=t6.Fi.k2 c4 c5;refine wL c5 ?_;refine zS c4 ?_;refine bD (cs:=bc (1,[])) hw h T x4 c4 ?_;intro A7 o7 c4 T;refine gO ?_;exact zT c4 (XD.no (y:=(1,[])) T fun _=>⟨rfl,ez.trans (iP k29u)⟩)
   have k29u:u.k=29:=Decidable.not_not.1 k29u;refine wL c7 ?_;refine zC rfl (oo hE T.Fi.wf T.ps Nu (DP (hK u hum).1 k29u (Nat.le_succ_of_le (hK u hum).2))) ?_;rintro r A5 ⟨y5,b5,rfl,t5,z5⟩;replace T:=T.then t5;obtain⟨c3,c4,c5,c7⟩:=t5.Fi.k4 c3 c4 c5 c7;refine oP ?_;refine aq rfl rfl rfl ?_;refine zS (by rw[AW.add_get,iP rfl]) ?_;generalize hf8:A5.aa=f8;refine eZ (n:=2) (cs:=bc y5) hw h T hf8 ?_;intro A6 x8 p8 o6 c8 T;obtain⟨c3,c4,c5,c7⟩:=o6.k4 c3 c4 c5 c7;refine gO ?_;refine dU 5 (pp 0 Y.X.dc (pp 3 f3 (pp 4 f4 (pp 5 f5 (pp 99 Y.X.dc (pb 108 (decide (y5.1=0∧u.l.length=1)) .nil)))))) ?_ ?_
   ·refine oP ?_;by_cases h0:y5.1=0
    ·refine wT 103 h0 ?_;refine oP ?_
     try refine aM rfl ?_
     refine wJ hlu9 ?_;exact⟨rfl,rfl,rfl,rfl,rfl,rfl,congrArg (fun x=>some (AV.bool x)) (decide_eq_decide.2 ⟨fun h=>⟨h0,om⟩,fun h=>congrArg Int.ofNat h.2⟩),trivial⟩
    ·refine wF 103 h0 ?_;refine oP ?_;exact⟨rfl,rfl,rfl,rfl,rfl,rfl,congrArg (fun x=>some (AV.bool x)) ((yF fun h=>h0 h.1).symm),trivial⟩
   refine wC (aG T.Fi.wf T.ps) ?_;rintro r A7 ⟨rfl,t7⟩;replace T:=T.then t7;obtain⟨c4,c5⟩:=t7.Fi.k2 c4 c5;refine wL c5 ?_;refine zS c4 ?_;refine bD (cs:=bc (1,[])) hw h T x4 c4 ?_;intro A8 o8 c4 T;refine gO ?_;refine zT c4 ⟨(1,[]),_,rfl,T,fun _=>?_⟩;rw[ez,if_neg fun h=>h k29u];have z:=z5 rfl;rw[ue] at z;cases hr:cK Y.cx (cW Y.cx n) u with
   | none=>
    rw[hr] at z;have z:b5=true:=z;show (_ || b5)=true;rw[z,Bool.or_true]
   | some w=>
    rw[hr] at z;obtain⟨rfl,rfl⟩:b5=false∧y5=w:=z;show match (if (y5.1=0∧u.l.length=1) then some (1,[]) else none:Option bM) with
     | none=>_
     | some w=>_
    by_cases hp:(y5.1=0∧u.l.length=1)
    ·rw[iP hp,yT hp];exact⟨rfl,rfl⟩
    ·rw[iN hp,yF hp];rfl
  have k33:¬t.k=33:=k33;refine gO ?_;obtain⟨hK,hsh,hkd,hop⟩:=Bh hx hs k23 k24 k25 k26 k27 k29 k31;have ez:=vx (C:=Y.cx) (n:=n) k23 k24 k25 k26 k27 k29 k31 k33;have hsh:(∃u,t.l=[u])∨∃u v,t.l=[u,v]:=hsh.imp (fun h=>h) fun h=>h.2;refine aq rfl rfl rfl ?_;generalize hf9:A3.aa=f9;refine fX (n:=2) (cs:=bc (0,[])++bc (0,[])) hw h T hf9 ?_;intro A4 x9 p9 o4 c9 T;obtain⟨c3,c4⟩:=o4.k2 c3 c4;replace c5:=o4.ae _ _ c5 fun h=>h;replace N:=N.ae o4 fun _ _ h=>h;have m4:=o4.aa;have l4:=T.Fi.wf _ _ c9;refine gO ?_;refine aE ?_;refine gO ?_;obtain⟨u,hu⟩:∃u,t.l[0]?=some u:=by
   rcases hsh with ⟨u,h⟩|⟨u,v,h⟩<;>exact⟨u,by rw[h];rfl⟩
  have hum:u∈t.l:=mG hu;have h0:0<t.l.length:=(List.getElem?_eq_some_iff.1 hu).1;refine gP rfl rfl rfl hlv ?_;refine gO ?_;refine aF 118 true rfl (yT om) ?_;refine gO ?_;refine cD rfl (fun _=>?_) fun h=>absurd dE h;obtain⟨fku,sku,oku,cku,eku,rku,aku,ku,hvu,hsu,hhu,hlu,Nu,htu⟩:=bv N hu;have hku:takeN 6 (aB (Nat.add oku (Nat.mul 0 6)) aku)=some (au u ku):=(htu 6 0 (Nat.le_refl _)).trans rfl;have hnu:=Nu.bh;refine gO ?_;refine bg 0 rfl (congrArg some hvu) rfl rfl rfl hlu ?_;refine oP ?_;refine bS (vs:=au u ku) rfl rfl rfl rfl hhu hku ?_;refine oP ?_;refine cY rfl rfl bF rfl (hE T.Fi.wf T.ps Nu (hK u hum).1 (hK u hum).2) ?_;rintro r A5 ⟨y5,b5,rfl,t5,z5⟩;replace T:=T.then t5;replace c3:=t5.Fi.ae _ _ c3 p3;replace c4:=t5.Fi.ae _ _ c4 p4;replace c5:=t5.Fi.ae _ _ c5 p5;replace c9:=t5.Fi.ae _ _ c9 p9;replace N:=t5.bl N
  have m5:=t5.Fi.aa;refine oP ?_;refine aY (n:=2) (e:=30) 0 rfl rfl rfl rfl rfl rfl rfl dE ?_;refine oP ?_;refine bx rfl rfl rfl rfl rfl rfl c9 rfl ?_;refine bD (cs:=bc y5++bc (0,[])) hw h T x9 c9 ?_;intro A6 o6 c9 T;replace c3:=o6.ae _ _ c3 fun e=>by have e:f3=f9:=e;omega
  replace c4:=o6.ae _ _ c4 fun e=>by have e:f4=f9:=e;omega
  replace c5:=o6.ae _ _ c5 fun e=>by have e:f5=f9:=e;omega
  replace N:=N.ae o6 fun g hg e=>by cases e;first|omega|(rcases hg with hg|hg<;>omega)
  have m6:=o6.aa;refine gO ?_;refine il rfl rfl rfl dE dE ?_;refine gO ?_;refine ai ?_;refine gO ?_;rcases hsh with ⟨u',hl1⟩|⟨u',v,hl2⟩
  ·have hul:t.l=[u]:=by
    rw[hl1] at hu ⊢;cases hu;rfl
   have hzz:(b5=true→db (cW Y.cx n) t.l=none)∧(b5=false→db (cW Y.cx n) t.l=some [y5]):=by
    rw[hul];exact jq (l:=[]) (ys:=[]) (b1:=false) ⟨fun h=>(by cases h),fun _=>rfl⟩ t5.bad z5
   refine gP rfl rfl rfl hlv ?_;refine gO ?_;refine aF 118 false rfl (yF (by rw[hul];exact (by decide:¬((0:Int)+1<((1:Nat) : Int))))) ?_;refine gO ?_
   try refine da rfl ?_
   refine ay rfl ?_;obtain⟨a9,hc9⟩:=T.ps.cell;refine gO ?_;cases hbb:b5 with
   | true=>
    subst hbb;refine rU ?_;refine bx rfl rfl rfl rfl rfl rfl c4 rfl ?_;refine bD (cs:=bc (0,[])) hw h T x4 c4 ?_;intro A7 o7 c4 T;replace c3:=o7.ae _ _ c3 fun e=>by have e:f3=f4:=e;omega
    replace c5:=o7.ae _ _ c5 fun e=>by have e:f5=f4:=e;omega
    replace c9:=o7.ae _ _ c9 fun e=>by have e:f9=f4:=e;omega
    replace N:=N.k o7;have m7:=o7.aa;refine gO ?_;exact zT c4 (XD.no (y:=(0,[])) T fun _=>⟨rfl,by rw[ez,(hzz).1 rfl]⟩)
   | false=>
    subst hbb;refine rU ?_;refine wL c3 ?_;refine aY (n:=2) (e:=30) 0 rfl rfl rfl rfl rfl rfl rfl dE ?_;refine oP ?_;refine bS (vs:=bc y5) rfl rfl rfl rfl c9 rfl ?_;refine oP ?_;refine aY (n:=2) (e:=30) 1 rfl rfl rfl rfl rfl rfl rfl dE ?_;refine oP ?_;refine bS (vs:=bc (0,[])) rfl rfl rfl rfl c9 rfl ?_;refine oP ?_;refine cY rfl rfl bF rfl (vw (ys:=[y5]) T.Fi.wf T.ps N rfl rfl (hkd k33) hop) ?_;rintro r A7 ⟨y7,b7,rfl,t7,z7⟩;replace T:=T.then t7;replace c4:=t7.Fi.k c4;refine oP ?_;refine zS c4 ?_;refine bD (cs:=bc y7) hw h T x4 c4 ?_;intro A8 o8 c4 T;refine gO ?_;exact zT c4 (XD.tU ⟨y7,b7,rfl,T,z7⟩ (by rw[ez,(hzz).2 rfl]))
  ·have hul:t.l=[u,v]:=by
    rw[hl2] at hu ⊢;cases hu;rfl
   have hv:t.l[1]?=some v:=by rw[hul];rfl
   have hvm:v∈t.l:=mG hv;have h1:1<t.l.length:=(List.getElem?_eq_some_iff.1 hv).1;refine wJ hlv ?_;refine aF 118 true rfl (yT om) ?_;refine gO ?_;refine cD rfl (fun _=>?_) fun h=>absurd dE h;obtain⟨fkw1,skw1,okw1,ckw1,ekw1,rkw1,akw1,kw1,hvw1,hsw1,hhw1,hlw1,Nw1,htw1⟩:=bv N hv;have hkw1:takeN 6 (aB (Nat.add okw1 (Nat.mul 1 6)) akw1)=some (au v kw1):=(htw1 6 0 (Nat.le_refl _)).trans rfl;refine wI hvw1 hlw1 ?_;refine wK hhw1 hkw1 ?_;refine zC rfl (hE T.Fi.wf T.ps Nw1 (hK v hvm).1 (hK v hvm).2) ?_;rintro r A7 ⟨y7,b7,rfl,t7,z7⟩;replace T:=T.then t7;replace c3:=t7.Fi.ae _ _ c3 p3;replace c4:=t7.Fi.ae _ _ c4 p4;replace c5:=t7.Fi.ae _ _ c5 p5;replace c9:=t7.Fi.ae _ _ c9 p9;replace N:=t7.bl N;have m7:=t7.Fi.aa;refine oP ?_;refine aY (n:=2) (e:=30) 1 rfl rfl rfl rfl rfl rfl rfl dE ?_;refine oP ?_;refine bx rfl rfl rfl rfl rfl rfl c9 rfl ?_
   refine bD (cs:=bc y5++bc y7) hw h T x9 c9 ?_;intro A8 o8 c9 T;replace c3:=o8.ae _ _ c3 fun e=>by have e:f3=f9:=e;omega
   replace c4:=o8.ae _ _ c4 fun e=>by have e:f4=f9:=e;omega
   replace c5:=o8.ae _ _ c5 fun e=>by have e:f5=f9:=e;omega
   replace N:=N.ae o8 fun g hg e=>by cases e;first|omega|(rcases hg with hg|hg<;>omega)
   have m8:=o8.aa;refine gO ?_;refine il rfl rfl rfl dE dE ?_;refine gO ?_;refine ai ?_;refine gO ?_;have hzz:(b7=true→db (cW Y.cx n) t.l=none)∧(b7=false→db (cW Y.cx n) t.l=some [y5,y7]):=by
    rw[hul];exact jq (l:=[u]) (ys:=[y5]) (jq (l:=[]) (ys:=[]) (b1:=false) ⟨fun h=>(by cases h),fun _=>rfl⟩ t5.bad z5) t7.bad z7
   refine gP rfl rfl rfl hlv ?_;refine gO ?_;refine aF 118 false rfl (yF (by rw[hul];exact (by decide:¬((0:Int)+1+1<((2:Nat) : Int))))) ?_;refine gO ?_
   try refine da rfl ?_
   refine ay rfl ?_;obtain⟨a9,hc9⟩:=T.ps.cell;refine gO ?_;cases hbb:b7 with
   | true=>
    subst hbb;refine rU ?_;refine bx rfl rfl rfl rfl rfl rfl c4 rfl ?_;refine bD (cs:=bc (0,[])) hw h T x4 c4 ?_;intro A9 o9 c4 T;replace c3:=o9.ae _ _ c3 fun e=>by have e:f3=f4:=e;omega
    replace c5:=o9.ae _ _ c5 fun e=>by have e:f5=f4:=e;omega
    replace c9:=o9.ae _ _ c9 fun e=>by have e:f9=f4:=e;omega
    replace N:=N.k o9;have m9:=o9.aa;refine gO ?_;exact zT c4 (XD.no (y:=(0,[])) T fun _=>⟨rfl,by rw[ez,(hzz).1 rfl]⟩)
   | false=>
    subst hbb;refine rU ?_;refine wL c3 ?_;refine aY (n:=2) (e:=30) 0 rfl rfl rfl rfl rfl rfl rfl dE ?_;refine oP ?_;refine bS (vs:=bc y5) rfl rfl rfl rfl c9 rfl ?_;refine oP ?_;refine aY (n:=2) (e:=30) 1 rfl rfl rfl rfl rfl rfl rfl dE ?_;refine oP ?_;refine bS (vs:=bc y7) rfl rfl rfl rfl c9 rfl ?_;refine oP ?_;refine cY rfl rfl bF rfl (vw (ys:=[y5,y7]) T.Fi.wf T.ps N rfl rfl (hkd k33) hop) ?_;rintro r A9 ⟨y9,b9,rfl,t9,z9⟩;replace T:=T.then t9;replace c4:=t9.Fi.k c4;refine oP ?_;refine zS c4 ?_;refine bD (cs:=bc y9) hw h T x4 c4 ?_;intro A10 o10 c4 T;refine gO ?_;exact zT c4 (XD.tU ⟨y9,b9,rfl,T,z9⟩ (by rw[ez,(hzz).2 rfl]))
theorem cq{K:FuncId}:∀n,RFn K n
 | 0=>fun _ _ _ _ hs=>absurd hs (Nat.not_le_of_gt (Dw _))
 | n+1=>Am (cq n)
end Go.Proofs.YtafamggbkobcfaaGreat.Ae
