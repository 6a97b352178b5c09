/- A part of the proof of the statement CheckTypes. -/
import Derived.Test.YtafamggbkobcfaaGreatAiSyR11
namespace Go.Proofs.YtafamggbkobcfaaGreat.Ae
open Go.AE
set_option linter.unusedVariables false
set_option maxRecDepth 100000
set_option exponentiation.threshold 1000
theorem Bl{z:Option bM}{y:bM}{b b0 b1:Bool}{vs:Vs}{l us:List Nd}{p:Nd→Bool}(hv:match z with
 | none=>b=true
 | some w=>b=false∧y=w) (hb:(!decide (y.1=1) || b)=b0) (hus:l.drop 1=us) (hz:b1=false↔b0=false∧us.all p=true) :
 match (match (generalizing:=false) z with
  | none=>none
  | some y=>if y.1=1∧(l.drop 1).all p=true then some vs else none:Option Vs) with
  | none=>b1=true
  | some ws=>b1=false∧ws=vs:=zZ hv (by rw[←hb];by_cases h:y.1=1<;>simp [h]) hus hz
theorem DW{Y:DY}{lk:List Str}{i:Nat}{v:Str×bM×Bool}{s:Str}{vv:AV}(hlk:LK Y lk)(hnd:(Y.w.map Prod.fst).Nodup)(hv:Y.w[i]?=some v)(hvn:v.1=s): LK (Y.set vv (Y.w.set i (v.1,v.2.1,true)) (Y.nl+1)) (lk++[s]):=by
 subst hvn;have hi:=(List.getElem?_eq_some_iff.1 hv).1;refine⟨fun u hu=>?_,fun n hn=>?_,by rw[List.length_append,hlk.len];rfl⟩
 ·have hu:u∈Y.w.set i (v.1,v.2.1,true):=hu;obtain⟨j,hj,hx⟩:=List.getElem_of_mem hu;rw[List.length_set] at hj;rw[List.getElem_set] at hx;by_cases e:i=j
  ·rw[if_pos e] at hx;rw[←hx];exact (decide_eq_true (List.mem_append_right _ (List.mem_singleton.2 rfl))).symm
  ·rw[if_neg e] at hx;have hju:Y.w[j]?=some u:=by rw[List.getElem?_eq_getElem hj,hx]
   rw[hlk.flag u (List.mem_of_getElem? hju)];refine decide_eq_decide.2 ⟨fun h=>List.mem_append_left _ h,fun h=>?_⟩;rcases List.mem_append.1 h with h|h
   ·exact h
   ·have h:=List.mem_singleton.1 h;exfalso;have hp:=List.pairwise_iff_getElem.1 hnd;have e1:(Y.w.map Prod.fst)[i]'(by rw[List.length_map];exact hi)=v.1:=by
     rw[List.getElem_map];rw[List.getElem?_eq_getElem hi,Option.some.injEq] at hv;rw[hv]
    have e2:(Y.w.map Prod.fst)[j]'(by rw[List.length_map];exact hj)=u.1:=by
     rw[List.getElem_map,hx]
    rcases Nat.lt_or_gt_of_ne e with hlt|hlt
    ·exact hp i j _ _ hlt (by rw[e1,e2,h])
    ·exact hp j i _ _ hlt (by rw[e1,e2,h])
 ·show n∈(Y.w.set i (v.1,v.2.1,true)).map Prod.fst;rw[mR hv];rcases List.mem_append.1 hn with hn|hn
  ·exact hlk.sub n hn
  ·rw[List.mem_singleton.1 hn];exact List.mem_map_of_mem (List.mem_of_getElem? hv)
theorem rT{p:Prop}[Decidable p](h:(!decide p)=false): p:=by
 by_cases hp:p
 ·exact hp
 ·rw[decide_eq_false hp] at h;cases h
theorem DT.flag'{A A1:AW}{Y:DY}{b b1:Bool}(T:DT A A1 Y b b1)(h:b1=false): b=false:=by
 subst h;exact T.flag
theorem EY{E:Ev}{vs:Vs}{t:Nd}{b:Bool}(h:b=false↔(bN vs t.s=none∧there E.hs (first t)∧(1<t.l.length→∃v,E.ty vs (eg t 1)=some v∧bI E.hs v (first t)))): match wu E vs t with
 | none=>b=true
 | some us=>b=false∧us=vs++[(t.s,first t)]:=by
 have nt:¬b=false→b=true:=fun h=>by
  cases b
  ·exact absurd rfl h
  ·rfl
 unfold wu;by_cases h1:there E.hs (first t)
 ·rw[if_neg fun k=>k h1];by_cases h2:bN vs t.s=none
  ·rw[if_neg fun k=>k h2];by_cases h3:1<t.l.length
   ·rw[if_pos h3];cases hy:E.ty vs (eg t 1) with
    | none=>
     refine nt fun e=>?_;obtain⟨v,hv,_⟩:=(h.1 e).2.2 h3;rw[hy] at hv;cases hv
    | some v=>
     show match (if bI E.hs v (first t) then some (vs++[(t.s,first t)]) else none) with
      | none=>_
      | some _=>_
     by_cases h4:bI E.hs v (first t)
     ·rw[if_pos h4];exact⟨h.2 ⟨h2,h1,fun _=>⟨v,hy,h4⟩⟩,rfl⟩
     ·rw[if_neg h4];refine nt fun e=>?_;obtain⟨v',hv,hf⟩:=(h.1 e).2.2 h3;rw[hy] at hv;cases hv;exact h4 hf
   ·rw[if_neg h3];exact⟨h.2 ⟨h2,h1,fun k=>absurd k h3⟩,rfl⟩
  ·rw[if_pos h2];exact nt fun e=>h2 (h.1 e).1
 ·rw[if_pos h1];exact nt fun e=>h1 (h.1 e).2.1
set_option maxHeartbeats 16000000 in
theorem Aq{K:FuncId}{n m:Nat}(hS:DQ K n m): DQ K n (m+1):=by
 intro A Y b lk t kv hw h hlk hm N hSt hs hv;refine ap rfl rfl rfl ?_;have T:DS A A Y (Y.set Y.vv Y.w Y.nl) b b:=DS.refl hw h;have hM:=h.le;refine gO ?_;have hst:=N.bh;have hlv:=N.bm;have hl9:=N.len;refine bA rfl rfl rfl rfl ?_;generalize hf3:A.aa=f3;refine Ao (n:=6) (cs:=au t kv) hw h T hf3 ?_;intro A1 x3 p3 o1 c3 T;replace N:=N.k o1;obtain⟨a0,hc⟩:=T.ps.cell;refine gO ?_;cases b with
 | true=>
  refine lf rfl ?_;refine gO ?_;exact af rfl (eG.zero T fun h=>(by cases h))
 | false=>
  have hlk:=hlk rfl;have hnd:=h.nd rfl;have hsk:∀u∈t.l,sz u≤n:=fun u hu=>by
   have:=fE hu;omega
  refine da rfl ?_;refine gO ?_;clear hc;refine zG (fun k7=>?_) fun k7=>?_
  ·have k7:t.k=7:=k7;have ez:cP (Y.ev n) (m+1) lk Y.vars t=match lF (cP (Y.ev n) m lk) Y.vars t.l with
    | none=>none
    | some _=>some Y.vars:=by
    conv=>lhs;unfold cP
    rw[if_pos k7]
    try rfl
   obtain⟨a0,hc⟩:=T.ps.cell;refine gO ?_;refine zJ h.row.row.bm ?_;refine gO ?_;clear hc;refine aE ?_;refine yL (pp 0 Y.X.dc (pp 3 f3 (pn 4 Y.w.length (pn 5 0 .nil)))) ?_;refine aV (ι:=Nat×Bool×AV×Vs) (fun i=>t.l.length-i.1) (fun i=>(pp 0 Y.X.dc (pp 3 f3 (pn 4 Y.w.length (pn 5 i.1 .nil)))))
    (fun i B=>DS A B Y (Y.set i.2.2.1 (Y.w++i.2.2.2.map un) Y.nl) false i.2.1∧i.2.2.2.length≤i.1∧i.1≤t.l.length∧B.heap.get f3=some (.cells 0 false 6 (au t kv))∧¬(Y.set i.2.2.1 (Y.w++i.2.2.2.map un) Y.nl).mod f3∧aI B (fun g=>g<Y.X.M) t kv∧(i.2.1=true→lF (cP (Y.ev n) m lk) Y.vars (t.l.take i.1)=none)∧(i.2.1=false→lF (cP (Y.ev n) m lk) Y.vars (t.l.take i.1)=some (Y.vars++i.2.2.2))) ?_ (0,false,Y.vv,[]) A1 ⟨?_,Nat.zero_le _,Nat.zero_le _,c3,?_,N,fun h=>(by cases h),fun _=>by rw[List.append_nil];rfl⟩
   rotate_left
   ·show DS A _ Y (Y.set Y.vv (Y.w++[]) Y.nl) false false;rw[List.append_nil];exact T
   ·show ¬(Y.set Y.vv (Y.w++[]) Y.nl).mod f3;exact p3
   clear T c3 p3 N;rintro ⟨i,b0,vv,ws⟩ A0 ⟨T,hws,hi,c3,p3,N,hz⟩ ih;replace T:DS A A0 Y (Y.set vv (Y.w++ws.map un) Y.nl) false b0:=T;replace hws:ws.length≤i:=hws;replace hi:i≤t.l.length:=hi;replace p3:¬(Y.set vv (Y.w++ws.map un) Y.nl).mod f3:=p3;replace hz:(b0=true→lF (cP (Y.ev n) m lk) Y.vars (t.l.take i)=none)∧(b0=false→lF (cP (Y.ev n) m lk) Y.vars (t.l.take i)=some (Y.vars++ws)):=hz;refine gO ?_;refine zJ hlv ?_;refine gO ?_;refine zG (fun hlt=>?_) fun hge=>?_
   ·have hltN:i<t.l.length:=Int.ofNat_lt.1 hlt;clear hlt;have hu:t.l[i]?=some t.l[i]:=List.getElem?_eq_getElem hltN;generalize hx:t.l[i]=u at hu;have hum:u∈t.l:=by rw[←hx];exact List.getElem_mem hltN
    obtain⟨fku,sku,oku,cku,eku,rku,aku,ku,hvu,hsu,hhu,hlu,Nu,htu⟩:=bv N hu;have hku:takeN 6 (aB (Nat.add oku (Nat.mul i 6)) aku)=some (au u ku):=(htu 6 0 (Nat.le_refl _)).trans rfl;refine gO ?_;refine zI i hvu hlu ?_;refine oP ?_;refine zK hhu hku ?_;refine oP ?_;have hwl:(Y.w++ws.map un).length=Y.w.length+ws.length:=by rw[List.length_append,List.length_map]
    refine zC rfl (hS (Y:=Y.set vv (Y.w++ws.map un) Y.nl) (lk:=lk) T.Fi.wf T.ps (fun e=>LK.app hlk (T.ps.nd e)) hm Nu (st_7 hSt k7 u hum) (hsk u hum) (by show (Y.w++ws.map un).length+9001*m+2≤_;omega)) ?_;rintro r40 A9 ⟨vv9,ws9,b9,t9,n9,z9⟩;have z9:b0=false→match (generalizing:=false) cP (Y.ev n) m lk (Y.vars++ws) u with
     | none=>b9=true
     | some us=>b9=false∧us=(Y.vars++ws)++ws9:=by
     have:=z9;rw[pm] at this;exact this
    obtain⟨c3',p3'⟩:=t9.dg T.Fi.wf rfl c3 p3;replace N:=t9.bl T.ps N;have T9:=T.then hw rfl t9;have eun:(Y.w++ws.map un)++ws9.map un=Y.w++(ws++ws9).map un:=by rw[List.append_assoc,List.map_append]
    have T9:DS A A9 Y (Y.set vv9 ((Y.w++ws.map un)++ws9.map un) Y.nl) false b9:=T9;have p3':¬(Y.set vv9 ((Y.w++ws.map un)++ws9.map un) Y.nl).mod f3:=p3';rw[eun] at T9 p3';refine gO ?_;refine zP ?_;refine gO ?_;refine ai ?_;refine yL (pp 0 Y.X.dc (pp 3 f3 (pn 4 Y.w.length (pn 5 (i+1:Nat) .nil)))) ?_;refine ih (i+1,b9,vv9,ws++ws9) A9 (by simp only;omega) ⟨T9,by simp only[List.length_append];omega,hltN,c3',p3',N,?_⟩;have:=vm hz t9.bad z9;rw[List.take_succ_eq_append_getElem hltN,hx];rw[List.append_assoc] at this;exact this
   have hge:i=t.l.length:=by
    omega
   subst hge;rw[List.take_length] at hz;clear ih;refine ay rfl ?_;obtain⟨a1,hc⟩:=T.ps.cell;refine gO ?_;refine tD ?_;refine rD ?_;refine zJ T.ps.row.row.bm ?_;refine eR ?_;refine ax rfl rfl rfl rfl rfl ?_;refine zy rfl rfl rfl ?_;refine eP ?_;have hle:Y.w.length≤(Y.w++ws.map un).length:=by rw[List.length_append];omega
   rw[Ff hle];refine rD ?_;refine bQ (Q:=fun r=>lE A0 4 r Y.w.length (((Y.w++ws.map un).flatMap nE).take (Y.w.length*4))∧∀g,r.av g→vv.av g) rfl rfl rfl rfl rfl (pk (d:=d39) (de:=d72) rfl rfl rfl T.ps.row hle) ?_;rintro r53 ⟨hr,hg⟩;refine eR ?_;refine dR ?_;refine aC ?_;refine bx rfl rfl hr.cells rfl rfl rfl hc rfl ?_;refine bG (fun A2=>DS A A2 Y (Y.set r53 Y.w Y.nl) false b0) (T.cut hw h.vl h.ll hc hr hg) ?_;intro A9 T9;refine sA ?_;refine aK ?_;refine gO ?_;refine bd rfl (eG.zero T9 fun _=>?_);rw[ez];cases hb0:b0 with
   | true=>
    rw[hz.1 hb0]
   | false=>
    rw[hz.2 hb0];exact⟨rfl,rfl⟩
  have k7:¬t.k=7:=k7;refine gO ?_;refine zG (fun k8=>?_) fun k8=>?_
  ·have k8:t.k=8:=k8;have ez:cP (Y.ev n) (m+1) lk Y.vars t=wu (Y.ev n) Y.vars t:=by
    conv=>lhs;unfold cP
    rw[if_neg om,if_pos k8]
    try rfl
   obtain⟨h0,h1⟩:=st_8 hSt k8;have hlen2:t.l.length≤2:=by
    have k8':=k8;cases hSt<;>first|(exfalso;simp only[Nd.k] at k8';omega)|(exfalso;revert k8';decide)|exact Nat.le_refl _|exact Nat.le_succ _
   obtain⟨u0,hu0⟩:∃u,t.l[0]?=some u:=⟨_,List.getElem?_eq_getElem h0⟩;obtain⟨fku0,sku0,oku0,cku0,eku0,rku0,aku0,ku0,hvu0,hsu0,hhu0,hlu0,Nu0,htu0⟩:=bv N hu0;have hku0:takeN 6 (aB (Nat.add oku0 (Nat.mul 0 6)) aku0)=some (au u0 ku0):=(htu0 6 0 (Nat.le_refl _)).trans rfl;refine gO ?_;refine zI 0 hvu0 hlu0 ?_;refine oP ?_;refine zK hhu0 hku0 ?_;refine oP ?_;refine zC rfl (mQ (Y:=(Y.set Y.vv Y.w Y.nl)) T.Fi.wf T.ps) ?_;rintro r A2 ⟨rfl,t2⟩;replace T:=T.step hw rfl t2;replace c3:=t2.Fi.ae _ _ c3 fun e=>p3 (.inl e);replace N:=t2.bl N;refine oP ?_;refine aq rfl rfl rfl ?_;refine zS (by rw[AW.add_get,if_pos rfl]) ?_;generalize hf6:A2.aa=f6;refine kN (n:=2) (cs:=bc (named u0.s)) hw h T hf6 ?_;intro A3 x6 p6 o3 c6 T;replace c3:=o3.k c3;replace N:=N.k o3;have efs:named u0.s=first t:=by unfold first;rw[aW hu0]
   rw[efs] at T c6 ⊢;refine gO ?_;refine zJ hlv ?_;refine gO ?_;refine ce (fun l1 B=>∃b',((pp 0 Y.X.dc (pp 3 f3 (pp 6 f6 .nil))) : Kn).le l1∧DT A3 B Y (!decide (there Y.X.hs (first t)) || false) b'∧(((!decide (there Y.X.hs (first t)) || false)=false∧b'=false)↔(there Y.X.hs (first t)∧(1<t.l.length→∃v,(Y.ev n).ty Y.vars (eg t 1)=some v∧bI Y.X.hs v (first t))))) ?_ ?_
   ·intro k' hk';refine zG (fun hl2=>?_) fun hl2=>?_
    ·obtain⟨u1,hu1⟩:∃u,t.l[1]?=some u:=⟨_,List.getElem?_eq_getElem om⟩;have e1:eg t 1=u1:=cO hu1;have hE1:=h1 u1 hu1;obtain⟨fku1,sku1,oku1,cku1,eku1,rku1,aku1,ku1,hvu1,hsu1,hhu1,hlu1,Nu1,htu1⟩:=bv N hu1;have hku1:takeN 6 (aB (Nat.add oku1 (Nat.mul 1 6)) aku1)=some (au u1 ku1):=(htu1 6 0 (Nat.le_refl _)).trans rfl;refine gO ?_;refine zI 1 hvu1 hlu1 ?_;refine oP ?_;refine zK hhu1 hku1 ?_;refine oP ?_;have T0:DT A3 A3 Y (!decide (there Y.X.hs (first t)) || false) (!decide (there Y.X.hs (first t)) || false):=DT.refl T.Fi.wf T.ps;refine zC rfl (cq (Y:=Y) n T.Fi.wf T.ps Nu1 hE1 (hsk u1 (List.mem_of_getElem? hu1))) ?_;rintro r A4 ⟨y4,b4,rfl,t4,z4⟩;replace T:=T.step hw rfl t4;replace T0:=T0.then t4;replace c3:=t4.Fi.ae _ _ c3 fun e=>p3 (.inl e);replace c6:=t4.Fi.ae _ _ c6 fun e=>p6 (.inl e);refine oP ?_;refine aq rfl rfl rfl ?_
     refine zS (by rw[AW.add_get,if_pos rfl]) ?_;generalize hf7:A4.aa=f7;refine kN (n:=2) (cs:=bc y4) hw h T hf7 ?_;intro A5 x7 p7 o5 c7 T;obtain⟨c3,c6⟩:=o5.k2 c3 c6;replace T0:=T0.quiet o5;obtain⟨a0,hc⟩:=T.ps.cell;refine gO ?_;refine tD ?_;cases hbb:b4 with
     | true=>
      subst hbb;refine aL 79 true rfl rfl ?_;refine dO ?_;refine aC ?_;refine sA ?_;refine dO ?_;refine aC ?_;refine zC rfl (aG (Y:=Y) T.Fi.wf T.ps) ?_;rintro r90 B ⟨rfl,tB⟩;refine sA ?_;refine aK ?_;refine gO ?_;refine hk' _ _ ⟨_,⟨rfl,rfl,rfl,trivial⟩,T0.then tB,fun h=>(by cases h.2),fun h=>?_⟩;obtain⟨g1,g2⟩:=h;obtain⟨v,hv,_⟩:=g2 om;rw[e1] at hv;rw[decide_eq_true g1] at z4;have:=z4 rfl;rw[show cW Y.cx n u1=some v from hv] at this;cases this.1
     | false=>
      subst hbb;have hth:(!decide (there Y.X.hs (first t)) || false)=false:=t4.flag;rw[hth] at z4 T0;have z:=z4 rfl;obtain⟨w,hyw⟩:∃w,cW Y.cx n u1=some w:=by
       cases hx:cW Y.cx n u1 with
       | none=>
        rw[hx] at z;exact absurd (show false=true from z) (by decide)
       | some w=>exact⟨w,rfl⟩
      rw[hyw] at z;obtain⟨_,rfl⟩:=z;have hth':there Y.X.hs (first t):=by
       have:=(Bool.or_eq_false_iff.1 hth).1;exact rT this
      refine aL 79 false rfl rfl ?_;refine dR ?_;refine rD ?_;refine zL c7 ?_;refine eR ?_;refine rD ?_;refine zL c6 ?_;refine eR ?_;refine dR ?_;refine aC ?_;refine zC rfl (lm (Y:=Y) T.Fi.wf T.ps) ?_;rintro r86 B1 ⟨rfl,oB⟩;replace T:=T.quiet oB;replace T0:=T0.quiet oB;replace c3:=oB.k c3;refine sA ?_;refine dR ?_;refine aC ?_;refine zC rfl (aG (Y:=Y) T.Fi.wf T.ps) ?_;rintro r90 B ⟨rfl,tB⟩;refine sA ?_;refine aK ?_;refine gO ?_;refine hk' _ _ ⟨_,⟨rfl,rfl,rfl,trivial⟩,by rw[hth];exact T0.then tB,?_⟩;rw[hth,e1];by_cases hf:bI Y.X.hs y4 (first t)
      ·rw[decide_eq_true hf];exact⟨fun _=>⟨hth',fun _=>⟨_,hyw,hf⟩⟩,fun _=>⟨rfl,rfl⟩⟩
      ·rw[decide_eq_false hf];refine⟨fun h=>(by cases h.2),fun h=>?_⟩;obtain⟨v,hv,hfv⟩:=h.2 om;have:some y4=some v:=hyw.symm.trans hv;cases this;exact absurd hfv hf
    ·have hl1:¬1<t.l.length:=by
      have:¬(t.l.length:Int)=2:=hl2;omega
     refine sQ ?_;refine hk' _ _ ⟨_,⟨rfl,rfl,rfl,trivial⟩,DT.refl T.Fi.wf T.ps,?_⟩;constructor
     ·intro h;exact⟨rT (Bool.or_eq_false_iff.1 h.2).1,fun h=>absurd h hl1⟩
     ·intro h;rw[decide_eq_true h.1];exact⟨rfl,rfl⟩
   rintro l1 A4 ⟨b4,hl,t4,e4⟩;refine bY (pp 0 Y.X.dc (pp 3 f3 (pp 6 f6 .nil))) ?_ hl;clear hl;replace T:=T.step hw rfl t4;replace c3:=t4.Fi.ae _ _ c3 fun e=>p3 (.inl e);replace c6:=t4.Fi.ae _ _ c6 fun e=>p6 (.inl e);refine gO ?_;refine tD ?_;refine aC ?_;refine zC rfl (jQ (Y:=Y) T.Fi.wf T.ps) ?_;rintro r95 A' ⟨e',z,rfl,hz⟩;obtain rfl:A4=A':=e'.symm;refine sA ?_;refine dR ?_;refine aC ?_;refine zC rfl (aG (Y:=(Y.set Y.vv Y.w Y.nl)) T.Fi.wf T.ps) ?_;rintro r A5 ⟨rfl,t5⟩;replace T:=T.step hw rfl t5;replace c3:=t5.Fi.ae _ _ c3 fun e=>p3 (.inl e);replace c6:=t5.Fi.ae _ _ c6 fun e=>p6 (.inl e);refine sA ?_;refine dR ?_;refine aK ?_;have hzz:decide (z<0)=decide (bN Y.vars t.s=none):=by
    rcases hz with ⟨rfl,hz⟩|⟨i,v,rfl,hv',hvn,hz⟩
    ·rw[hz];rfl
    ·rw[hz];exact (decide_eq_false om).trans (decide_eq_false fun h=>by cases h).symm
   rw[hzz] at T t5;clear hzz hz;generalize hb9:(!decide (bN Y.vars t.s=none) || b4)=b9 at T t5;obtain⟨a0,hc⟩:=T.ps.cell;have hnod:b9=false→((Y.w++[(t.s,first t,false)]).map Prod.fst).Nodup:=fun e=>by
    rw[e] at hb9;refine Bi rfl hnd ?_;have:=(Bool.or_eq_false_iff.1 hb9).1;exact rT this
   refine gO ?_;refine tD ?_;refine rD ?_;refine zJ T.ps.row.row.bm ?_;refine eR ?_;refine dR ?_;refine rD ?_;refine zJ T.ps.row.row.bm ?_;refine eR ?_;refine rD ?_;refine bQ (Q:=fun r=>Cut A5 4 r Y.w.length (Y.w.flatMap nE)∧dC r r=true) rfl rfl rfl rfl rfl (tK (t:=39) (d:=d39) (de:=d72) rfl rfl rfl T.ps.row.row) ?_;rintro r115 ⟨hcut,hs115⟩;refine eR ?_;refine dR ?_;refine rD ?_;refine zL c6 ?_;refine eR ?_;refine dR ?_;refine bW rfl rfl rfl rfl ?_;refine bq rfl rfl rfl ?_;refine oP ?_;refine aC ?_;refine bE rfl rfl rfl rfl rfl (od (n:=Y.w.length) (de:=d72) (xs:=nE (t.s,first t,false)) rfl rfl rfl rfl T.Fi.wf hcut rfl (by decide) (pZ om (by decide))) ?_;rintro v46 A20 ⟨o20,hb20,hg20⟩;replace hc:=o20.k hc;refine sA ?_;refine dR ?_;refine aC ?_;refine bx rfl rfl hb20.cells rfl rfl rfl hc rfl ?_
   have hB:lE A20 4 v46 (Y.w++[(t.s,first t,false)]).length ((Y.w++[(t.s,first t,false)]).flatMap nE):=by
    have:=eH.cap (A:=A20) (es:=4) hb20;rw[List.length_append,List.flatMap_append];have e:([(t.s,first t,false)]:List (Str×bM×Bool)).flatMap nE=nE (t.s,first t,false):=rfl;rw[e];exact this
   refine bG (fun A2=>DS A A2 Y (Y.set v46 (Y.w++[(t.s,first t,false)]) Y.nl) false b9) (DS.tW (Y1:=Y) (v':=v46) (w':=Y.w++[(t.s,first t,false)]) (nl':=Y.nl) hw T rfl (o20.mono fun _ h=>h.elim) hc hB (fun g hg=>.inr (hg20 g hg)) (by rw[List.length_append,List.length_singleton];omega) h.ll hnod) ?_;intro A21 T2;refine sA ?_;refine aK ?_;refine gO ?_;refine bd rfl ⟨v46,[(t.s,first t)],b9,T2,Nat.le_refl _,fun _=>?_⟩;rw[ez];have hcond:b9=false↔(bN Y.vars t.s=none∧there Y.X.hs (first t)∧(1<t.l.length→∃v,(Y.ev n).ty Y.vars (eg t 1)=some v∧bI Y.X.hs v (first t))):=by
    rw[←hb9,Bool.or_eq_false_iff,←e4];constructor
    ·rintro ⟨g1,g2⟩;exact⟨rT g1,t4.flag' g2,g2⟩
    ·rintro ⟨g1,_,g2⟩;exact⟨by rw[decide_eq_true g1];rfl,g2⟩
   exact EY hcond
  have k8:¬t.k=8:=k8;refine gO ?_;refine zG (fun k9=>?_) fun k9=>?_
  ·have k9:t.k=9:=k9;have ez:cP (Y.ev n) (m+1) lk Y.vars t=yd (Y.ev n) lk Y.vars t:=by
    conv=>lhs;unfold cP
    rw[if_neg om,if_neg om,if_pos k9]
    try rfl
   obtain⟨u0,u1,hul,hE0,hE1⟩:=st_9 hSt k9;have hu0:t.l[0]?=some u0:=by rw[hul];rfl
   have hu1:t.l[1]?=some u1:=by rw[hul];rfl
   have hs0:=hsk u0 (List.mem_of_getElem? hu0);refine gO ?_;refine zL c3 ?_;refine oP ?_;refine zC rfl (wQ (Y:=Y) (lk:=lk) T.Fi.wf T.ps hlk N hu0 hu1 ⟨hE0,hs0⟩ ⟨hE1,hsk u1 (List.mem_of_getElem? hu1)⟩ fun k=>ex_28 hE0 k hs0) ?_;rintro r A9 ⟨b9,t9,z9⟩;have T9:=T.step hw rfl t9;refine gO ?_;refine bd rfl (eG.zero T9 fun _=>?_);rw[ez];exact z9
  have k9:¬t.k=9:=k9;refine gO ?_;refine zG (fun k10=>?_) fun k10=>?_
  ·have k10:t.k=10:=k10;refine sQ ?_;refine cD rfl (fun _=>?_) fun h=>absurd k10 h;have ez:cP (Y.ev n) (m+1) lk Y.vars t=match (Y.ev n).ty Y.vars (ba t) with
    | none=>none
    | some y=>if y.1=1∧(t.l.drop 1).all (fun u=>(cP (Y.ev n) m lk Y.vars u).isSome)=true then some Y.vars else none:=by
    conv=>lhs;unfold cP
    rw[if_neg om,if_neg om,if_neg om,if_pos (Or.inl k10)]
    try rfl
   obtain⟨u0,hu0,hE0,hSk⟩:=wx hSt (Or.inl k10);have e0:ba t=u0:=aW hu0;obtain⟨fku0,sku0,oku0,cku0,eku0,rku0,aku0,ku0,hvu0,hsu0,hhu0,hlu0,Nu0,htu0⟩:=bv N hu0;have hku0:takeN 6 (aB (Nat.add oku0 (Nat.mul 0 6)) aku0)=some (au u0 ku0):=(htu0 6 0 (Nat.le_refl _)).trans rfl;refine gO ?_;refine tD ?_;refine ax rfl rfl rfl rfl rfl ?_
   try refine aM rfl ?_
   refine zI 0 hvu0 hlu0 ?_;refine eP ?_;refine rD ?_;refine zK hhu0 hku0 ?_;refine eR ?_;refine dR ?_;refine aC ?_;refine zC rfl (cq (Y:=Y) n T.Fi.wf T.ps Nu0 hE0 (hsk u0 (List.mem_of_getElem? hu0))) ?_;rintro r A2 ⟨y2,b2,rfl,t2,z2⟩;replace T:=T.step hw rfl t2;replace c3:=t2.Fi.ae _ _ c3 fun e=>p3 (.inl e);replace N:=t2.bl N;refine sA ?_;refine dR ?_;refine ax rfl rfl rfl rfl rfl ?_;refine dx rfl rfl (v:=.int .i64 y2.1) rfl ?_;refine eP ?_;refine dR ?_;refine aC ?_;refine zC rfl (aG (Y:=(Y.set Y.vv Y.w Y.nl)) T.Fi.wf T.ps) ?_;rintro r A3 ⟨rfl,t3⟩;replace T:=T.step hw rfl t3;replace c3:=t3.Fi.ae _ _ c3 fun e=>p3 (.inl e);replace N:=t3.bl N;refine sA ?_;refine aK ?_;refine gO ?_;have h0l:0<t.l.length:=(List.getElem?_eq_some_iff.1 hu0).1;refine aE ?_;refine yL (pp 0 Y.X.dc (pp 3 f3 (.put 8 (.int .i64 (((0:Nat) : Int)+1)) .nil))) ?_
   refine aV (ι:=Nat×Bool×AV) (fun i=>t.l.length-i.1) (fun i=>(pp 0 Y.X.dc (pp 3 f3 (.put 8 (.int .i64 ((i.1:Int)+1)) .nil))))
    (fun i B=>DS A B Y (Y.set i.2.2 Y.w Y.nl) false i.2.1∧i.1+1≤t.l.length∧B.heap.get f3=some (.cells 0 false 6 (au t kv))∧¬(Y.set i.2.2 Y.w Y.nl).mod f3∧aI B (fun g=>g<Y.X.M) t kv∧(i.2.1=false↔(!decide (y2.1=1) || b2)=false∧((t.l.drop 1).take i.1).all (fun u=>(cP (Y.ev n) m lk Y.vars u).isSome)=true)) ?_ (0,(!decide (y2.1=1) || b2),Y.vv) A3 ⟨T,h0l,c3,p3,N,fun h=>⟨h,rfl⟩,fun h=>h.1⟩
   clear T c3 p3 N;rintro ⟨i,b0,vv⟩ A0 ⟨T,hi,c3,p3,N,hz⟩ ih;replace T:DS A A0 Y (Y.set vv Y.w Y.nl) false b0:=T;replace hi:i+1≤t.l.length:=hi;replace p3:¬(Y.set vv Y.w Y.nl).mod f3:=p3;replace hz:(b0=false↔(!decide (y2.1=1) || b2)=false∧((t.l.drop 1).take i).all (fun u=>(cP (Y.ev n) m lk Y.vars u).isSome)=true):=hz;refine gO ?_;refine zJ hlv ?_;refine gO ?_;refine zG (fun hlt=>?_) fun hge=>?_
   ·have hltN:i+1<t.l.length:=by
     omega
    clear hlt;have hu:t.l[i+1]?=some t.l[i+1]:=List.getElem?_eq_getElem hltN;have htk:(t.l.drop 1).take (i+1)=(t.l.drop 1).take i++[t.l[i+1]]:=by
     rw[List.take_succ_eq_append_getElem (by rw[List.length_drop];omega),List.getElem_drop];simp only[Nat.add_comm 1 i]
    generalize t.l[i+1]=u at hu htk;have hum:u∈t.l.drop 1:=List.mem_of_getElem? (i:=i) (by rw[List.getElem?_drop,Nat.add_comm];exact hu);obtain⟨fku,sku,oku,cku,eku,rku,aku,ku,hvu,hsu,hhu,hlu,Nu,htu⟩:=bv N hu;have hku:takeN 6 (aB (Nat.add oku (Nat.mul (i+1) 6)) aku)=some (au u ku):=(htu 6 0 (Nat.le_refl _)).trans rfl;refine gO ?_;refine bg (i+1) rfl (congrArg some hvu) rfl rfl (show (i:Int)+1=((i+1:Nat) : Int) by omega) hlu ?_;refine oP ?_;refine zK hhu hku ?_;refine oP ?_;refine zC rfl (po hS (Y:=Y.set vv Y.w Y.nl) (lk:=lk) T.Fi.wf T.ps (fun e=>⟨hlk.flag,hlk.sub,hlk.len⟩) hm Nu ⟨hSk u hum,hsk u (List.mem_of_getElem? hu)⟩ (by show Y.w.length+9001*m+2≤_;omega)) ?_;rintro r40 A9 ⟨vv9,ws9,b9,t9,n9,z9⟩;obtain rfl:ws9=[]:=List.eq_nil_of_length_eq_zero om;have t9:DS A0 A9 (Y.set vv Y.w Y.nl) (Y.set vv9 Y.w Y.nl) b0 b9:=by
     have:=t9;rw[show (Y.set vv Y.w Y.nl).w++List.map un ([]:Vs)=Y.w from List.append_nil _] at this;exact this
    obtain⟨c3',p3'⟩:=t9.dg T.Fi.wf rfl c3 p3;replace N:=t9.bl T.ps N;have T9:DS A A9 Y (Y.set vv9 Y.w Y.nl) false b9:=T.then hw rfl t9;refine gO ?_;refine zP ?_;refine gO ?_;refine ai ?_;refine yL (pp 0 Y.X.dc (pp 3 f3 (.put 8 (.int .i64 (((i+1:Nat) : Int)+1)) .nil))) ?_;refine ih (i+1,b9,vv9) A9 (by simp only;omega) ⟨T9,hltN,c3',p3',N,?_⟩;show b9=false↔_∧((t.l.drop 1).take (i+1)).all _=true;rw[htk,List.all_append];refine rP hz t9.bad fun e=>?_;have z:=z9 e;cases hs:cP (Y.ev n) m lk Y.vars u with
    | none=>
     rw[show cP ((Y.set vv Y.w Y.nl).ev n) m lk (Y.set vv Y.w Y.nl).vars u=none from hs] at z;have z:b9=true:=z;rw[z];exact⟨fun h=>(by cases h),fun h=>(by cases h)⟩
    | some us=>
     rw[show cP ((Y.set vv Y.w Y.nl).ev n) m lk (Y.set vv Y.w Y.nl).vars u=some us from hs] at z;exact⟨fun _=>rfl,fun _=>z.1⟩
   have hge:(t.l.drop 1).take i=t.l.drop 1:=by
    exact List.take_of_length_le (by rw[List.length_drop];omega)
   rw[hge] at hz;clear ih;refine ay rfl ?_;refine gO ?_;refine bd rfl (eG.zero T fun _=>?_);rw[ez,e0];exact Bl (z2 rfl) rfl rfl hz
  have k10:¬t.k=10:=k10;refine gO ?_;refine zG (fun k11=>?_) fun k11=>?_
  ·have k11:t.k=11:=k11;have ez:cP (Y.ev n) (m+1) lk Y.vars t=match (Y.ev n).ty Y.vars (ba t) with
    | none=>none
    | some y=>if y.1=1∧(t.l.drop 1).all (fun u=>(cP (Y.ev n) m lk Y.vars u).isSome)=true then some Y.vars else none:=by
    conv=>lhs;unfold cP
    rw[if_neg om,if_neg om,if_neg om,if_pos (Or.inr k11)]
    try rfl
   obtain⟨u0,hu0,hE0,hSk⟩:=wx hSt (Or.inr k11);have e0:ba t=u0:=aW hu0;obtain⟨fku0,sku0,oku0,cku0,eku0,rku0,aku0,ku0,hvu0,hsu0,hhu0,hlu0,Nu0,htu0⟩:=bv N hu0;have hku0:takeN 6 (aB (Nat.add oku0 (Nat.mul 0 6)) aku0)=some (au u0 ku0):=(htu0 6 0 (Nat.le_refl _)).trans rfl;refine gO ?_;refine tD ?_;refine ax rfl rfl rfl rfl rfl ?_
   try refine aM rfl ?_
   refine zI 0 hvu0 hlu0 ?_;refine eP ?_;refine rD ?_;refine zK hhu0 hku0 ?_;refine eR ?_;refine dR ?_;refine aC ?_;refine zC rfl (cq (Y:=Y) n T.Fi.wf T.ps Nu0 hE0 (hsk u0 (List.mem_of_getElem? hu0))) ?_;rintro r A2 ⟨y2,b2,rfl,t2,z2⟩;replace T:=T.step hw rfl t2;replace c3:=t2.Fi.ae _ _ c3 fun e=>p3 (.inl e);replace N:=t2.bl N;refine sA ?_;refine dR ?_;refine ax rfl rfl rfl rfl rfl ?_;refine dx rfl rfl (v:=.int .i64 y2.1) rfl ?_;refine eP ?_;refine dR ?_;refine aC ?_;refine zC rfl (aG (Y:=(Y.set Y.vv Y.w Y.nl)) T.Fi.wf T.ps) ?_;rintro r A3 ⟨rfl,t3⟩;replace T:=T.step hw rfl t3;replace c3:=t3.Fi.ae _ _ c3 fun e=>p3 (.inl e);replace N:=t3.bl N;refine sA ?_;refine aK ?_;refine gO ?_;have h0l:0<t.l.length:=(List.getElem?_eq_some_iff.1 hu0).1;refine aE ?_;refine yL (pp 0 Y.X.dc (pp 3 f3 (.put 8 (.int .i64 (((0:Nat) : Int)+1)) .nil))) ?_
   refine aV (ι:=Nat×Bool×AV) (fun i=>t.l.length-i.1) (fun i=>(pp 0 Y.X.dc (pp 3 f3 (.put 8 (.int .i64 ((i.1:Int)+1)) .nil))))
    (fun i B=>DS A B Y (Y.set i.2.2 Y.w Y.nl) false i.2.1∧i.1+1≤t.l.length∧B.heap.get f3=some (.cells 0 false 6 (au t kv))∧¬(Y.set i.2.2 Y.w Y.nl).mod f3∧aI B (fun g=>g<Y.X.M) t kv∧(i.2.1=false↔(!decide (y2.1=1) || b2)=false∧((t.l.drop 1).take i.1).all (fun u=>(cP (Y.ev n) m lk Y.vars u).isSome)=true)) ?_ (0,(!decide (y2.1=1) || b2),Y.vv) A3 ⟨T,h0l,c3,p3,N,fun h=>⟨h,rfl⟩,fun h=>h.1⟩
   clear T c3 p3 N;rintro ⟨i,b0,vv⟩ A0 ⟨T,hi,c3,p3,N,hz⟩ ih;replace T:DS A A0 Y (Y.set vv Y.w Y.nl) false b0:=T;replace hi:i+1≤t.l.length:=hi;replace p3:¬(Y.set vv Y.w Y.nl).mod f3:=p3;replace hz:(b0=false↔(!decide (y2.1=1) || b2)=false∧((t.l.drop 1).take i).all (fun u=>(cP (Y.ev n) m lk Y.vars u).isSome)=true):=hz;refine gO ?_;refine zJ hlv ?_;refine gO ?_;refine zG (fun hlt=>?_) fun hge=>?_
   ·have hltN:i+1<t.l.length:=by
     omega
    clear hlt;have hu:t.l[i+1]?=some t.l[i+1]:=List.getElem?_eq_getElem hltN;have htk:(t.l.drop 1).take (i+1)=(t.l.drop 1).take i++[t.l[i+1]]:=by
     rw[List.take_succ_eq_append_getElem (by rw[List.length_drop];omega),List.getElem_drop];simp only[Nat.add_comm 1 i]
    generalize t.l[i+1]=u at hu htk;have hum:u∈t.l.drop 1:=List.mem_of_getElem? (i:=i) (by rw[List.getElem?_drop,Nat.add_comm];exact hu);obtain⟨fku,sku,oku,cku,eku,rku,aku,ku,hvu,hsu,hhu,hlu,Nu,htu⟩:=bv N hu;have hku:takeN 6 (aB (Nat.add oku (Nat.mul (i+1) 6)) aku)=some (au u ku):=(htu 6 0 (Nat.le_refl _)).trans rfl;refine gO ?_;refine bg (i+1) rfl (congrArg some hvu) rfl rfl (show (i:Int)+1=((i+1:Nat) : Int) by omega) hlu ?_;refine oP ?_;refine zK hhu hku ?_;refine oP ?_;refine zC rfl (po hS (Y:=Y.set vv Y.w Y.nl) (lk:=lk) T.Fi.wf T.ps (fun e=>⟨hlk.flag,hlk.sub,hlk.len⟩) hm Nu ⟨hSk u hum,hsk u (List.mem_of_getElem? hu)⟩ (by show Y.w.length+9001*m+2≤_;omega)) ?_;rintro r40 A9 ⟨vv9,ws9,b9,t9,n9,z9⟩;obtain rfl:ws9=[]:=List.eq_nil_of_length_eq_zero om;have t9:DS A0 A9 (Y.set vv Y.w Y.nl) (Y.set vv9 Y.w Y.nl) b0 b9:=by
     have:=t9;rw[show (Y.set vv Y.w Y.nl).w++List.map un ([]:Vs)=Y.w from List.append_nil _] at this;exact this
    obtain⟨c3',p3'⟩:=t9.dg T.Fi.wf rfl c3 p3;replace N:=t9.bl T.ps N;have T9:DS A A9 Y (Y.set vv9 Y.w Y.nl) false b9:=T.then hw rfl t9;refine gO ?_;refine zP ?_;refine gO ?_;refine ai ?_;refine yL (pp 0 Y.X.dc (pp 3 f3 (.put 8 (.int .i64 (((i+1:Nat) : Int)+1)) .nil))) ?_;refine ih (i+1,b9,vv9) A9 (by simp only;omega) ⟨T9,hltN,c3',p3',N,?_⟩;show b9=false↔_∧((t.l.drop 1).take (i+1)).all _=true;rw[htk,List.all_append];refine rP hz t9.bad fun e=>?_;have z:=z9 e;cases hs:cP (Y.ev n) m lk Y.vars u with
    | none=>
     rw[show cP ((Y.set vv Y.w Y.nl).ev n) m lk (Y.set vv Y.w Y.nl).vars u=none from hs] at z;have z:b9=true:=z;rw[z];exact⟨fun h=>(by cases h),fun h=>(by cases h)⟩
    | some us=>
     rw[show cP ((Y.set vv Y.w Y.nl).ev n) m lk (Y.set vv Y.w Y.nl).vars u=some us from hs] at z;exact⟨fun _=>rfl,fun _=>z.1⟩
   have hge:(t.l.drop 1).take i=t.l.drop 1:=by
    exact List.take_of_length_le (by rw[List.length_drop];omega)
   rw[hge] at hz;clear ih;refine ay rfl ?_;refine gO ?_;refine bd rfl (eG.zero T fun _=>?_);rw[ez,e0];exact Bl (z2 rfl) rfl rfl hz
  have k11:¬t.k=11:=k11;refine gO ?_;refine zG (fun k12=>?_) fun k12=>?_
  ·have k12:t.k=12:=k12;obtain⟨w,hmw⟩:∃w,Y.mt.l[0]?=some w:=⟨_,List.getElem?_eq_getElem hm⟩;have efm:first Y.mt=named w.s:=by unfold first;rw[aW hmw]
   obtain⟨fm,sm,om,cm,em,rm,am,kw,hvm,hsm,hhm,hlm,Nw,htm⟩:=bv T.ps.mtr hmw;obtain⟨a0,hc⟩:=T.ps.cell;refine gO ?_;refine zI 0 hvm hlm ?_;refine oP ?_;refine aZ rfl rfl rfl rfl hhm (v:=.str w.s) (aR ((htm 1 2 (by decide)).trans rfl)) ?_;refine oP ?_;refine zC rfl (fP T.Fi.wf) ?_;rintro r A2 ⟨rfl,o2⟩;replace T:=T.quiet o2;replace c3:=o2.k c3;replace N:=N.k o2;refine oP ?_;refine aq rfl rfl rfl ?_;refine zS (by rw[AW.add_get,if_pos rfl]) ?_;generalize hf9:A2.aa=f9;refine kN (n:=2) (cs:=bc (named w.s)) hw h T hf9 ?_;intro A3 x9 p9 o3 c9 T;replace c3:=o3.k c3;replace N:=N.k o3;clear hc;refine gO ?_;refine zJ hlv ?_;refine gO ?_;refine zG (fun hl0=>?_) fun hl0=>?_
   ·have hl0:t.l.length=0:=by
     omega
    have ez:cP (Y.ev n) (m+1) lk Y.vars t=if (first Y.mt).1=0 then some Y.vars else none:=by
     conv=>lhs;unfold cP
     rw[if_neg (by omega),if_neg (by omega),if_neg (by omega),if_neg (by omega),if_pos k12,if_pos hl0]
     try rfl
    refine gO ?_;refine zC rfl (aG (Y:=(Y.set Y.vv Y.w Y.nl)) T.Fi.wf T.ps) ?_;rintro r A4 ⟨rfl,t4⟩;replace T:=T.step hw rfl t4;refine gO ?_;refine af rfl (eG.zero T fun _=>?_);rw[ez,efm];by_cases h0:(named w.s).1=0
    ·rw[if_pos h0,decide_eq_true h0];exact⟨rfl,rfl⟩
    ·rw[if_neg h0,decide_eq_false h0];rfl
   have hl0:¬t.l.length=0:=by
    have:¬(t.l.length:Int)=0:=hl0;omega
   obtain⟨u0,hu0,hE0⟩:=st_12 hSt k12 hl0;have e0:ba t=u0:=aW hu0;have ez:cP (Y.ev n) (m+1) lk Y.vars t=qR (Y.ev n) Y.vars t fun y=>decide ((first Y.mt).1≠0∧bI Y.X.hs y (first Y.mt)):=by
    conv=>lhs;unfold cP
    rw[if_neg (by omega),if_neg (by omega),if_neg (by omega),if_neg (by omega),if_pos k12,if_neg hl0]
    try rfl
   obtain⟨fku0,sku0,oku0,cku0,eku0,rku0,aku0,ku0,hvu0,hsu0,hhu0,hlu0,Nu0,htu0⟩:=bv N hu0;have hku0:takeN 6 (aB (Nat.add oku0 (Nat.mul 0 6)) aku0)=some (au u0 ku0):=(htu0 6 0 (Nat.le_refl _)).trans rfl;refine gO ?_;refine zI 0 hvu0 hlu0 ?_;refine oP ?_;refine zK hhu0 hku0 ?_;refine oP ?_;refine zC rfl (cq (Y:=Y) n T.Fi.wf T.ps Nu0 hE0 (hsk u0 (List.mem_of_getElem? hu0))) ?_;rintro r A4 ⟨y4,b4,rfl,t4,z4⟩;replace T:=T.step hw rfl t4;replace c3:=t4.Fi.ae _ _ c3 fun e=>p3 (.inl e);replace c9:=t4.Fi.ae _ _ c9 fun e=>p9 (.inl e);refine oP ?_;refine aq rfl rfl rfl ?_;refine zS (by rw[AW.add_get,if_pos rfl]) ?_;generalize hf10:A4.aa=f10;refine kN (n:=2) (cs:=bc y4) hw h T hf10 ?_;intro A5 x10 p10 o5 c10 T;obtain⟨c3,c9⟩:=o5.k2 c3 c9;obtain⟨a0,hc⟩:=T.ps.cell;refine gO ?_;refine tD ?_;cases hbb:b4 with
   | true=>
    subst hbb;refine aL 191 true rfl rfl ?_;refine dO ?_;refine aC ?_;refine sA ?_;refine dO ?_;refine aC ?_;refine zC rfl (aG (Y:=Y) T.Fi.wf T.ps) ?_;rintro r207 B ⟨rfl,tB⟩;refine sA ?_;refine aK ?_;refine gO ?_;refine bd rfl (eG.zero (T.step hw rfl tB) fun _=>?_);rw[ez];refine dA (y:=y4) (b:=true) (by rw[e0];exact z4 rfl) ?_;rw[efm];cases decide ((named w.s).1≠0∧bI Y.X.hs y4 (named w.s))<;>rfl
   | false=>
    subst hbb;refine aL 191 false rfl rfl ?_;refine dR ?_;by_cases h0:(named w.s).1=0
    ·refine aL 195 false rfl (decide_eq_false fun h=>h h0) ?_;refine dO ?_;refine aC ?_;refine sA ?_;refine dO ?_;refine aC ?_;refine zC rfl (aG (Y:=Y) T.Fi.wf T.ps) ?_;rintro r207 B ⟨rfl,tB⟩;refine sA ?_;refine aK ?_;refine gO ?_;refine bd rfl (eG.zero (T.step hw rfl tB) fun _=>?_);rw[ez];refine dA (y:=y4) (b:=false) (by rw[e0];exact z4 rfl) ?_;rw[efm];rw[decide_eq_false (fun h=>h.1 h0:¬((named w.s).1≠0∧bI Y.X.hs y4 (named w.s)))]
    refine aL 195 true rfl (decide_eq_true h0) ?_;refine dR ?_;refine rD ?_;refine zL c10 ?_;refine eR ?_;refine rD ?_;refine zL c9 ?_;refine eR ?_;refine dR ?_;refine aC ?_;refine zC rfl (lm (Y:=Y) T.Fi.wf T.ps) ?_;rintro r202 B1 ⟨rfl,oB⟩;replace T:=T.quiet oB;replace c3:=oB.k c3;refine sA ?_;refine dR ?_;refine aC ?_;refine zC rfl (aG (Y:=Y) T.Fi.wf T.ps) ?_;rintro r207 B ⟨rfl,tB⟩;refine sA ?_;refine aK ?_;refine gO ?_;refine bd rfl (eG.zero (T.step hw rfl tB) fun _=>?_);rw[ez];refine dA (y:=y4) (b:=false) (by rw[e0];exact z4 rfl) ?_;rw[efm];rw[show decide ((named w.s).1≠0∧bI Y.X.hs y4 (named w.s))=decide (bI Y.X.hs y4 (named w.s)) from decide_eq_decide.2 ⟨fun h=>h.2,fun h=>⟨h0,h⟩⟩]
  have k12:¬t.k=12:=k12;refine gO ?_;refine zG (fun k13=>?_) fun k13=>?_
  ·have k13:t.k=13:=k13;refine sQ ?_;refine cD rfl (fun _=>?_) fun h=>absurd k13 h;have ez:cP (Y.ev n) (m+1) lk Y.vars t=qR (Y.ev n) Y.vars t fun y=>decide (y.1=4):=by
    conv=>lhs;unfold cP
    rw[if_neg om,if_neg om,if_neg om,if_neg om,if_neg om,if_pos om]
    try rfl
   obtain⟨u0,hu0,hE0⟩:=gU hSt om;have e0:ba t=u0:=aW hu0;obtain⟨fku0,sku0,oku0,cku0,eku0,rku0,aku0,ku0,hvu0,hsu0,hhu0,hlu0,Nu0,htu0⟩:=bv N hu0;have hku0:takeN 6 (aB (Nat.add oku0 (Nat.mul 0 6)) aku0)=some (au u0 ku0):=(htu0 6 0 (Nat.le_refl _)).trans rfl;refine gO ?_;refine tD ?_;refine ax rfl rfl rfl rfl rfl ?_
   try refine aM rfl ?_
   refine zI 0 hvu0 hlu0 ?_;refine eP ?_;refine rD ?_;refine zK hhu0 hku0 ?_;refine eR ?_;refine dR ?_;refine aC ?_;refine zC rfl (cq (Y:=Y) n T.Fi.wf T.ps Nu0 hE0 (hsk u0 (List.mem_of_getElem? hu0))) ?_;rintro r A2 ⟨y2,b2,rfl,t2,z2⟩;replace T:=T.step hw rfl t2;replace c3:=t2.Fi.ae _ _ c3 fun e=>p3 (.inl e);refine sA ?_;refine dR ?_;refine aC ?_;refine zC rfl (dB T.Fi.wf) ?_;rintro r A3 ⟨rfl,o3⟩;replace T:=T.quiet o3;replace c3:=o3.k c3;refine sA ?_;refine dR ?_;refine aC ?_;refine zC rfl (aG (Y:=(Y.set Y.vv Y.w Y.nl)) T.Fi.wf T.ps) ?_;rintro r A4 ⟨rfl,t4⟩;replace T:=T.step hw rfl t4;refine sA ?_;refine aK ?_;refine gO ?_;refine bd rfl (eG.zero T fun _=>?_);rw[ez];exact dA (y:=y2) (b:=b2) (by rw[e0];exact z2 rfl) rfl
  have k13:¬t.k=13:=k13;refine gO ?_;refine zG (fun k16=>?_) fun k16=>?_
  ·have k16:t.k=16:=k16;refine sQ ?_;refine cD rfl (fun _=>?_) fun h=>absurd k16 h;have ez:cP (Y.ev n) (m+1) lk Y.vars t=qR (Y.ev n) Y.vars t fun y=>decide (y.1=4):=by
    conv=>lhs;unfold cP
    rw[if_neg om,if_neg om,if_neg om,if_neg om,if_neg om,if_pos om]
    try rfl
   obtain⟨u0,hu0,hE0⟩:=gU hSt om;have e0:ba t=u0:=aW hu0;obtain⟨fku0,sku0,oku0,cku0,eku0,rku0,aku0,ku0,hvu0,hsu0,hhu0,hlu0,Nu0,htu0⟩:=bv N hu0;have hku0:takeN 6 (aB (Nat.add oku0 (Nat.mul 0 6)) aku0)=some (au u0 ku0):=(htu0 6 0 (Nat.le_refl _)).trans rfl;refine gO ?_;refine tD ?_;refine ax rfl rfl rfl rfl rfl ?_
   try refine aM rfl ?_
   refine zI 0 hvu0 hlu0 ?_;refine eP ?_;refine rD ?_;refine zK hhu0 hku0 ?_;refine eR ?_;refine dR ?_;refine aC ?_;refine zC rfl (cq (Y:=Y) n T.Fi.wf T.ps Nu0 hE0 (hsk u0 (List.mem_of_getElem? hu0))) ?_;rintro r A2 ⟨y2,b2,rfl,t2,z2⟩;replace T:=T.step hw rfl t2;replace c3:=t2.Fi.ae _ _ c3 fun e=>p3 (.inl e);refine sA ?_;refine dR ?_;refine aC ?_;refine zC rfl (dB T.Fi.wf) ?_;rintro r A3 ⟨rfl,o3⟩;replace T:=T.quiet o3;replace c3:=o3.k c3;refine sA ?_;refine dR ?_;refine aC ?_;refine zC rfl (aG (Y:=(Y.set Y.vv Y.w Y.nl)) T.Fi.wf T.ps) ?_;rintro r A4 ⟨rfl,t4⟩;replace T:=T.step hw rfl t4;refine sA ?_;refine aK ?_;refine gO ?_;refine bd rfl (eG.zero T fun _=>?_);rw[ez];exact dA (y:=y2) (b:=b2) (by rw[e0];exact z2 rfl) rfl
  have k16:¬t.k=16:=k16;refine gO ?_;refine zG (fun k17=>?_) fun k17=>?_
  ·have k17:t.k=17:=k17;refine sQ ?_;refine cD rfl (fun _=>?_) fun h=>absurd k17 h;have ez:cP (Y.ev n) (m+1) lk Y.vars t=qR (Y.ev n) Y.vars t fun y=>decide (y.1=4):=by
    conv=>lhs;unfold cP
    rw[if_neg om,if_neg om,if_neg om,if_neg om,if_neg om,if_pos om]
    try rfl
   obtain⟨u0,hu0,hE0⟩:=gU hSt om;have e0:ba t=u0:=aW hu0;obtain⟨fku0,sku0,oku0,cku0,eku0,rku0,aku0,ku0,hvu0,hsu0,hhu0,hlu0,Nu0,htu0⟩:=bv N hu0;have hku0:takeN 6 (aB (Nat.add oku0 (Nat.mul 0 6)) aku0)=some (au u0 ku0):=(htu0 6 0 (Nat.le_refl _)).trans rfl;refine gO ?_;refine tD ?_;refine ax rfl rfl rfl rfl rfl ?_
   try refine aM rfl ?_
   refine zI 0 hvu0 hlu0 ?_;refine eP ?_;refine rD ?_;refine zK hhu0 hku0 ?_;refine eR ?_;refine dR ?_;refine aC ?_;refine zC rfl (cq (Y:=Y) n T.Fi.wf T.ps Nu0 hE0 (hsk u0 (List.mem_of_getElem? hu0))) ?_;rintro r A2 ⟨y2,b2,rfl,t2,z2⟩;replace T:=T.step hw rfl t2;replace c3:=t2.Fi.ae _ _ c3 fun e=>p3 (.inl e);refine sA ?_;refine dR ?_;refine aC ?_;refine zC rfl (dB T.Fi.wf) ?_;rintro r A3 ⟨rfl,o3⟩;replace T:=T.quiet o3;replace c3:=o3.k c3;refine sA ?_;refine dR ?_;refine aC ?_;refine zC rfl (aG (Y:=(Y.set Y.vv Y.w Y.nl)) T.Fi.wf T.ps) ?_;rintro r A4 ⟨rfl,t4⟩;replace T:=T.step hw rfl t4;refine sA ?_;refine aK ?_;refine gO ?_;refine bd rfl (eG.zero T fun _=>?_);rw[ez];exact dA (y:=y2) (b:=b2) (by rw[e0];exact z2 rfl) rfl
  have k17:¬t.k=17:=k17;refine gO ?_;refine zG (fun k18=>?_) fun k18=>?_
  ·have ez:cP (Y.ev n) (m+1) lk Y.vars t=qR (Y.ev n) Y.vars t fun y=>decide (y.1=4):=by
    conv=>lhs;unfold cP
    rw[if_neg om,if_neg om,if_neg om,if_neg om,if_neg om,if_pos om]
    try rfl
   obtain⟨u0,hu0,hE0⟩:=gU hSt om;have e0:ba t=u0:=aW hu0;obtain⟨fku0,sku0,oku0,cku0,eku0,rku0,aku0,ku0,hvu0,hsu0,hhu0,hlu0,Nu0,htu0⟩:=bv N hu0;have hku0:takeN 6 (aB (Nat.add oku0 (Nat.mul 0 6)) aku0)=some (au u0 ku0):=(htu0 6 0 (Nat.le_refl _)).trans rfl;refine gO ?_;refine tD ?_;refine ax rfl rfl rfl rfl rfl ?_
   try refine aM rfl ?_
   refine zI 0 hvu0 hlu0 ?_;refine eP ?_;refine rD ?_;refine zK hhu0 hku0 ?_;refine eR ?_;refine dR ?_;refine aC ?_;refine zC rfl (cq (Y:=Y) n T.Fi.wf T.ps Nu0 hE0 (hsk u0 (List.mem_of_getElem? hu0))) ?_;rintro r A2 ⟨y2,b2,rfl,t2,z2⟩;replace T:=T.step hw rfl t2;replace c3:=t2.Fi.ae _ _ c3 fun e=>p3 (.inl e);refine sA ?_;refine dR ?_;refine aC ?_;refine zC rfl (dB T.Fi.wf) ?_;rintro r A3 ⟨rfl,o3⟩;replace T:=T.quiet o3;replace c3:=o3.k c3;refine sA ?_;refine dR ?_;refine aC ?_;refine zC rfl (aG (Y:=(Y.set Y.vv Y.w Y.nl)) T.Fi.wf T.ps) ?_;rintro r A4 ⟨rfl,t4⟩;replace T:=T.step hw rfl t4;refine sA ?_;refine aK ?_;refine gO ?_;refine bd rfl (eG.zero T fun _=>?_);rw[ez];exact dA (y:=y2) (b:=b2) (by rw[e0];exact z2 rfl) rfl
  have k18:¬t.k=18:=k18;refine gO ?_;refine zG (fun k14=>?_) fun k14=>?_
  ·have k14:t.k=14:=k14;have ez:cP (Y.ev n) (m+1) lk Y.vars t=match cP (Y.ev n) m lk Y.vars (ba t) with
    | none=>none
    | some vs1=>if there (Y.ev n).hs (named (eg t 1).s)∧bN vs1 t.s=none then (match cP (Y.ev n) m lk (vs1++[(t.s,named (eg t 1).s)]) (eg t 2) with
     | none=>none
     | some _=>some vs1) else none:=by
    conv=>lhs;unfold cP
    rw[if_neg om,if_neg om,if_neg om,if_neg om,if_neg om,if_neg om,if_pos k14]
    try rfl
   obtain⟨u0,u1,u2,hul,hE0,hE2⟩:=st_14 hSt k14;have hu0:t.l[0]?=some u0:=by rw[hul];rfl
   have hu1:t.l[1]?=some u1:=by rw[hul];rfl
   have hu2:t.l[2]?=some u2:=by rw[hul];rfl
   refine gO ?_;refine zL c3 ?_;refine oP ?_;refine zC rfl (Cs hS (Y:=Y) (lk:=lk) T.Fi.wf T.ps hlk hm N hu0 hu1 hu2 ⟨hE0,hsk u0 (List.mem_of_getElem? hu0)⟩ ⟨hE2,hsk u2 (List.mem_of_getElem? hu2)⟩ (by omega)) ?_;rintro r A9 ⟨vv9,ws9,b9,t9,n9,z9⟩;have T9:DS A A9 Y (Y.set vv9 (Y.w++ws9.map un) Y.nl) false b9:=T.then hw rfl t9;refine gO ?_;refine bd rfl ⟨vv9,ws9,b9,T9,n9,fun _=>?_⟩;rw[ez];exact z9 rfl
  have k14:¬t.k=14:=k14;refine gO ?_;refine zG (fun k15=>?_) fun k15=>?_
  ·have k15:t.k=15:=k15;have ez:cP (Y.ev n) (m+1) lk Y.vars t=match bN Y.vars t.s with
    | none=>none
    | some y=>if y.1=4∧t.s∉lk∧lk.length<6 then cP (Y.ev n) m (lk++[t.s]) Y.vars (ba t) else none:=by
    conv=>lhs;unfold cP
    rw[if_neg om,if_neg om,if_neg om,if_neg om,if_neg om,if_neg om,if_neg om,if_pos k15]
    try rfl
   obtain⟨u0,hu0,hE0⟩:=st_15 hSt k15;have e0:ba t=u0:=aW hu0;refine gO ?_;refine zC rfl (jQ (Y:=Y) T.Fi.wf T.ps) ?_;rintro r234 A' ⟨e',z,rfl,hz⟩;obtain rfl:A1=A':=e'.symm;refine oP ?_;refine sQ ?_;refine ce (fun l1 B=>∃x,((pp 0 Y.X.dc (pp 3 f3 (.put 11 (.int .i64 z) (.put 272 (.bool (!x)) .nil)))) : Kn).le l1∧DT A1 B Y false (!x || false)∧(x=true↔∃i v,z=((i:Nat) : Int)∧Y.w[i]?=some v∧v.1=t.s∧v.2.1.1=4∧v.2.2=false∧Y.nl<6)) ?_ ?_
   ·intro k' hk';have h9:=T.ps;have hw9:=T.Fi.wf;have T9:=DT.refl hw9 h9;obtain⟨a0,hc⟩:=h9.cell;unfold DY.more at hc;refine gO ?_;refine tD ?_;rcases hz with ⟨rfl,hz⟩|⟨i,v,rfl,hv,hvn,hz⟩
    ·refine aL 238 false rfl rfl ?_;refine dO ?_;refine aC ?_;refine sA ?_;refine dO ?_;refine aC ?_;refine zC rfl (aG (Y:=Y) T9.Fi.wf T9.ps) ?_;rintro r271 B ⟨rfl,tB⟩;refine sA ?_;refine dO ?_;refine aK ?_;exact hk' _ _ ⟨false,⟨rfl,rfl,rfl,rfl,trivial⟩,T9.then tB,fun h=>(by cases h),fun ⟨i,v,h,_⟩=>om⟩
    obtain⟨f,t',o,cc,ex,ro,all,hvv,hh,hl,cw⟩:=dT (cl:=nE) (fun _=>rfl) h9.row.row hv;have htt:takeN 2 (aB (Nat.add (Nat.add o (Nat.mul i 4)) 1) all)=some (bc v.2.1):=(cw 2 1 (by decide)).trans rfl;have htl:=aR ((cw 1 3 (by decide)).trans rfl);have only:∀j u,((i:Nat) : Int)=((j:Nat) : Int)∧Y.w[j]?=some u→u=v:=fun j u hj=>by
     have:i=j:=by omega
     subst this;rw[hv] at hj;cases hj.2;rfl
    refine aL 238 true rfl (decide_eq_true om) ?_;refine dR ?_;refine ax rfl rfl rfl rfl rfl ?_
    try refine aM rfl ?_
    refine DU rfl rfl rfl ?_;refine eP ?_;refine ax rfl rfl rfl rfl rfl ?_
    try refine aM rfl ?_
    refine bg i rfl (congrArg some hvv) rfl rfl Fg hl ?_;refine eP ?_;refine dR ?_;refine rD ?_;refine zK hh htt ?_;refine eR ?_;refine dR ?_;refine aC ?_;refine zC rfl (dB hw9) ?_;rintro r248 B1 ⟨rfl,oB⟩;replace T9:=T9.quiet oB;obtain⟨c3,hc,hh⟩:=oB.k3 c3 hc hh;refine sA ?_;refine dR ?_;by_cases h4:v.2.1.1=4
    ·refine aL 250 true rfl (decide_eq_true h4) ?_;refine dR ?_;refine ax rfl rfl rfl rfl rfl ?_
     try refine aM rfl ?_
     refine DU rfl rfl rfl ?_;refine eP ?_;refine ax rfl rfl rfl rfl rfl ?_
     try refine aM rfl ?_
     refine bg i rfl (congrArg some hvv) rfl rfl Fg hl ?_;refine eP ?_;refine dR ?_;refine rD ?_;refine aZ rfl rfl rfl rfl hh (v:=.bool v.2.2) htl ?_;refine eR ?_;refine dR ?_;cases hfl:v.2.2 with
     | true=>
      refine aL 262 false rfl rfl ?_;refine dO ?_;refine aC ?_;refine zC rfl (aG (Y:=Y) T9.Fi.wf T9.ps) ?_;rintro r271 B ⟨rfl,tB⟩;refine sA ?_;refine dO ?_;refine aK ?_;exact hk' _ _ ⟨false,⟨rfl,rfl,rfl,rfl,trivial⟩,T9.then tB,fun h=>(by cases h),fun ⟨j,u,g1,g2,_,_,g3,_⟩=>by
       rw[only j u ⟨g1,g2⟩,hfl] at g3;cases g3⟩
     | false=>
      refine aL 262 true rfl rfl ?_;refine dR ?_;refine aC ?_;refine zC rfl (aG (Y:=Y) T9.Fi.wf T9.ps) ?_;rintro r271 B ⟨rfl,tB⟩;refine sA ?_;refine dO ?_;refine aK ?_;refine hk' _ _ ⟨decide ((Y.nl:Int)<6),⟨rfl,rfl,rfl,congrArg (fun b=>some (AV.bool !b)) (Bool.and_true _),trivial⟩,T9.then tB,?_⟩;constructor
      ·exact fun h=>⟨i,v,rfl,hv,hvn,h4,hfl,by have:=of_decide_eq_true h;omega⟩
      ·rintro ⟨j,u,_,_,_,_,_,g⟩;exact decide_eq_true om
    ·refine aL 250 false rfl (decide_eq_false h4) ?_;refine dO ?_;refine aC ?_;refine zC rfl (aG (Y:=Y) T9.Fi.wf T9.ps) ?_;rintro r271 B ⟨rfl,tB⟩;refine sA ?_;refine dO ?_;refine aK ?_;exact hk' _ _ ⟨false,⟨rfl,rfl,rfl,rfl,trivial⟩,T9.then tB,fun h=>(by cases h),fun ⟨j,u,g1,g2,_,g3,_⟩=>by
      rw[only j u ⟨g1,g2⟩] at g3;exact absurd g3 h4⟩
   rintro l1 A2 ⟨x,hl,t2,hx⟩;refine bY (pp 0 Y.X.dc (pp 3 f3 (.put 11 (.int .i64 z) (.put 272 (.bool (!x)) .nil)))) ?_ hl;clear hl;replace T:=T.step hw rfl t2;replace c3:=t2.Fi.ae _ _ c3 fun e=>p3 (.inl e);replace N:=t2.bl N;cases hxx:x with
   | false=>
    subst hxx;refine lf rfl ?_;refine gO ?_;refine af rfl (eG.zero T fun _=>?_);rw[ez];rcases hz with ⟨rfl,hz⟩|⟨i,v,rfl,hv,hvn,hz⟩
    ·rw[hz];rfl
    ·rw[hz];show match (if v.2.1.1=4∧t.s∉lk∧lk.length<6 then cP (Y.ev n) m (lk++[t.s]) Y.vars (ba t) else none) with
      | none=>_
      | some _=>_
     rw[if_neg fun hq=>?_]
     ·rfl
     ·have:=hx.2 ⟨i,v,rfl,hv,hvn,hq.1,?_,by rw[←hlk.len];exact hq.2.2⟩
      ·cases this
      ·rw[hlk.flag v (List.mem_of_getElem? hv),hvn];exact decide_eq_false hq.2.1
   | true=>
    subst hxx;obtain⟨i,v,rfl,hv,hvn,h4,hfl,hnl⟩:=hx.1 rfl;have hfv:bN Y.vars t.s=some v.2.1:=by
     rcases hz with ⟨hz,_⟩|⟨j,u,hj,hu,_,hz⟩
     ·omega
     ·have:i=j:=by omega
      subst this;rw[hv] at hu;cases hu;exact hz
    have hnlk:t.s∉lk:=by
     have:=hlk.flag v (List.mem_of_getElem? hv);rw[hfl,hvn] at this;exact of_decide_eq_false this.symm
    have hez:cP (Y.ev n) (m+1) lk Y.vars t=cP (Y.ev n) m (lk++[t.s]) Y.vars u0:=by
     rw[ez,hfv,e0];exact if_pos ⟨h4,hnlk,by rw[hlk.len];exact hnl⟩
    clear ez hz hx;have T:DS A A2 Y (Y.set Y.vv Y.w Y.nl) false false:=T;obtain⟨a0,hc⟩:=T.ps.cell;obtain⟨f,t',c9,all,all',hvv,hh,hpu,hcap,hi⟩:=Bk true T.Fi.wf T.ps.row hv;have hvv:Y.vv=.slice f t' 0 Y.w.length c9 false:=hvv;have hfam:Y.vv.av f:=by rw[hvv];rfl
    refine da rfl ?_;refine gO ?_;refine zI i hvv hi ?_;refine oP ?_;refine bx rfl rfl rfl rfl rfl rfl hh hpu ?_;have op:=ac.put (x:=.cells t' false 4 all') T.Fi.wf (T.Fi.wf _ _ hh);refine bG (fun Z=>DS A Z Y (Y.set Y.vv (Y.w.set i (v.1,v.2.1,true)) Y.nl) false false∧ac A2 Z (one f)) ⟨DS.ii (Y1:=Y) hw T rfl (op.mono fun g hg=>by cases hg;exact hfam) hcap (by rw[List.length_set];exact h.vl) (fun _=>by rw[mR hv];exact hnd) rfl,op⟩ ?_;clear op hcap;rintro A20 ⟨T2,oW⟩;replace T:=T2;clear T2;have hfo:=h.out f hfam;replace c3:=oW.ae _ _ c3 fun e=>p3 (.inr (by have e:f3=f:=e;rw[e];exact hfam));replace N:=N.k oW;replace hc:=oW.ae _ _ hc fun e=>hfo.2.1 (by have e:Y.X.dc=f:=e;exact e.symm);refine gO ?_;refine il rfl rfl rfl (by show -9223372036854775808≤(Y.nl:Int)+1;omega) (by show (Y.nl:Int)+1<9223372036854775808;omega) ?_;refine oP ?_;refine zS hc ?_
    have op:=ac.put (x:=.cells 0 false 18 ((Y.set Y.vv (Y.w.set i (v.1,v.2.1,true)) (Y.nl+1)).cells false a0)) T.Fi.wf (T.Fi.wf _ _ hc);refine bG (fun A2=>DS A A2 Y (Y.set Y.vv (Y.w.set i (v.1,v.2.1,true)) (Y.nl+1)) false false∧ac A20 A2 (one Y.X.dc)) ⟨DS.tW (Y1:=Y.set Y.vv (Y.w.set i (v.1,v.2.1,true)) Y.nl) (v':=Y.vv) (w':=Y.w.set i (v.1,v.2.1,true)) (nl':=Y.nl+1) hw T rfl (ac.refl T.Fi.wf _) hc T.ps.row (ge.refl _ _) (by rw[List.length_set];exact h.vl) om (fun _=>by rw[mR hv];exact hnd),op⟩ ?_;clear op;rintro A21 ⟨T2,oW2⟩;replace T:=T2;clear T2;replace c3:=oW2.ae _ _ c3 fun e=>p3 (.inl e);replace N:=N.k oW2;obtain⟨fku0,sku0,oku0,cku0,eku0,rku0,aku0,ku0,hvu0,hsu0,hhu0,hlu0,Nu0,htu0⟩:=bv N hu0;have hku0:takeN 6 (aB (Nat.add oku0 (Nat.mul 0 6)) aku0)=some (au u0 ku0):=(htu0 6 0 (Nat.le_refl _)).trans rfl;refine gO ?_;refine zI 0 hvu0 hlu0 ?_;refine oP ?_
    refine zK hhu0 hku0 ?_;refine oP ?_;have hvs:(Y.set Y.vv (Y.w.set i (v.1,v.2.1,true)) (Y.nl+1)).vars=Y.vars:=DV hv;refine zC rfl (hS (Y:=(Y.set Y.vv (Y.w.set i (v.1,v.2.1,true)) (Y.nl+1))) (lk:=lk++[t.s]) T.Fi.wf T.ps (fun _=>DW hlk hnd hv hvn) hm Nu0 hE0 (hsk u0 (List.mem_of_getElem? hu0)) (by show (Y.w.set i (v.1,v.2.1,true)).length+9001*m+2≤_;rw[List.length_set];omega)) ?_;rintro r292 A22 ⟨vv9,ws9,b9,t9,n9,z9⟩;have z9:=z9 rfl;rw[hvs] at z9;have T9:DS A A22 Y (Y.set vv9 (Y.w.set i (v.1,v.2.1,true)++ws9.map un) (Y.nl+1)) false b9:=T.then hw rfl t9;clear T t9;obtain⟨a1,hc⟩:=T9.ps.cell;refine gO ?_;refine fd rfl rfl rfl (by show -9223372036854775808≤((Y.nl+1:Nat) : Int)-1;omega) (by show ((Y.nl+1:Nat) : Int)-1<9223372036854775808;omega) ?_;refine oP ?_;have enl:(((Y.nl+1:Nat) : Int)-1)=(Y.nl:Int):=by omega
    rw[enl];refine zS hc ?_;refine bG (fun A2=>DS A A2 Y (Y.set vv9 (Y.w.set i (v.1,v.2.1,true)++ws9.map un) Y.nl) false b9) (DS.tW (Y1:=Y.set vv9 (Y.w.set i (v.1,v.2.1,true)++ws9.map un) (Y.nl+1)) (v':=vv9) (w':=Y.w.set i (v.1,v.2.1,true)++ws9.map un) (nl':=Y.nl) hw T9 rfl (ac.refl T9.Fi.wf _) hc T9.ps.row (ge.refl _ _) (by rw[List.length_append,List.length_set,List.length_map];omega) h.ll T9.ps.nd) ?_;intro A23 T;clear T9 hc;have hi':i<Y.w.length:=(List.getElem?_eq_some_iff.1 hv).1;have hv9:(Y.w.set i (v.1,v.2.1,true)++ws9.map un)[i]?=some (v.1,v.2.1,true):=by
     rw[List.getElem?_append_left (by rw[List.length_set];exact hi'),List.getElem?_set_self hi']
    obtain⟨a2,hc⟩:=T.ps.cell;obtain⟨f2,t2,c2,al2,al2',hvv2,hh2,hpu2,hcap2,hi2⟩:=Bk false T.Fi.wf T.ps.row hv9;have hvv2:vv9=.slice f2 t2 0 (Y.w.set i (v.1,v.2.1,true)++ws9.map un).length c2 false:=hvv2;refine gO ?_;refine zI i hvv2 hi2 ?_;refine oP ?_;refine bx rfl rfl rfl rfl rfl rfl hh2 hpu2 ?_;have op:=ac.put (x:=.cells t2 false 4 al2') T.Fi.wf (T.Fi.wf _ _ hh2);have ew:(Y.w.set i (v.1,v.2.1,true)++ws9.map un).set i (v.1,v.2.1,false)=Y.w++ws9.map un:=by
     rw[List.set_append_left _ _ (by rw[List.length_set];exact hi'),List.set_set];rw[ug];rw[hv];show some v=some (v.1,v.2.1,false);rw[←hfl]
    have hcap2:lE (A23.put f2 (.cells t2 false 4 al2')) 4 vv9 (Y.w++ws9.map un).length ((Y.w++ws9.map un).flatMap nE):=by
     have:=hcap2;rw[ew] at this;exact this
    refine bG (fun A2=>DS A A2 Y (Y.set vv9 (Y.w++ws9.map un) Y.nl) false b9) (DS.ii (Y1:=Y.set vv9 (Y.w.set i (v.1,v.2.1,true)++ws9.map un) Y.nl) hw T rfl (op.mono fun g hg=>by cases hg;rw[hvv2];rfl) hcap2 (by rw[List.length_append,List.length_map];omega) (fun e=>by
     have:=T.ps.nd e;rw[←ew];have hx:=mR (q:=false) hv9;rw[hx];exact this) rfl) ?_
    intro A24 T;refine gO ?_;refine bd rfl ⟨vv9,ws9,b9,T,n9,fun _=>?_⟩;rw[hez];exact z9
  have k15:¬t.k=15:=k15;refine gO ?_;refine zG (fun k20=>?_) fun k20=>?_
  ·have k20:t.k=20:=k20;have ez:cP (Y.ev n) (m+1) lk Y.vars t=qR (Y.ev n) Y.vars t fun y=>decide (y.1=1∨(t.k=21∧y.1=2)):=by
    conv=>lhs;unfold cP
    rw[if_neg om,if_neg om,if_neg om,if_neg om,if_neg om,if_neg om,if_neg om,if_neg om,if_pos (Or.inl k20)]
    try rfl
   obtain⟨u0,hu0,hE0⟩:=gU hSt om;have e0:ba t=u0:=aW hu0;obtain⟨fku0,sku0,oku0,cku0,eku0,rku0,aku0,ku0,hvu0,hsu0,hhu0,hlu0,Nu0,htu0⟩:=bv N hu0;have hku0:takeN 6 (aB (Nat.add oku0 (Nat.mul 0 6)) aku0)=some (au u0 ku0):=(htu0 6 0 (Nat.le_refl _)).trans rfl;refine gO ?_;refine tD ?_;refine ax rfl rfl rfl rfl rfl ?_
   try refine aM rfl ?_
   refine zI 0 hvu0 hlu0 ?_;refine eP ?_;refine rD ?_;refine zK hhu0 hku0 ?_;refine eR ?_;refine dR ?_;refine aC ?_;refine zC rfl (cq (Y:=Y) n T.Fi.wf T.ps Nu0 hE0 (hsk u0 (List.mem_of_getElem? hu0))) ?_;rintro r A2 ⟨y2,b2,rfl,t2,z2⟩;replace T:=T.step hw rfl t2;replace c3:=t2.Fi.ae _ _ c3 fun e=>p3 (.inl e);refine sA ?_;refine dR ?_;refine ax rfl rfl rfl rfl rfl ?_;refine dx rfl rfl (v:=.int .i64 y2.1) rfl ?_;refine eP ?_;refine dR ?_;refine aC ?_;refine zC rfl (aG (Y:=(Y.set Y.vv Y.w Y.nl)) T.Fi.wf T.ps) ?_;rintro r A3 ⟨rfl,t3⟩;replace T:=T.step hw rfl t3;refine sA ?_;refine aK ?_;refine gO ?_;refine bd rfl (eG.zero T fun _=>?_);rw[ez];refine dA (y:=y2) (b:=b2) (by rw[e0];exact z2 rfl) ?_;rw[show decide (y2.1=1∨(t.k=21∧y2.1=2))=decide (y2.1=1) from decide_eq_decide.2 ⟨fun h=>h.elim (fun h=>h) fun h=>absurd h.1 om,.inl⟩]
  have k20:¬t.k=20:=k20;refine gO ?_;refine zG (fun k21=>?_) fun k21=>?_
  ·have k21:t.k=21:=k21;have ez:cP (Y.ev n) (m+1) lk Y.vars t=qR (Y.ev n) Y.vars t fun y=>decide (y.1=1∨(t.k=21∧y.1=2)):=by
    conv=>lhs;unfold cP
    rw[if_neg om,if_neg om,if_neg om,if_neg om,if_neg om,if_neg om,if_neg om,if_neg om,if_pos (Or.inr k21)]
    try rfl
   obtain⟨u0,hu0,hE0⟩:=gU hSt om;have e0:ba t=u0:=aW hu0;obtain⟨fku0,sku0,oku0,cku0,eku0,rku0,aku0,ku0,hvu0,hsu0,hhu0,hlu0,Nu0,htu0⟩:=bv N hu0;have hku0:takeN 6 (aB (Nat.add oku0 (Nat.mul 0 6)) aku0)=some (au u0 ku0):=(htu0 6 0 (Nat.le_refl _)).trans rfl;refine gO ?_;refine zI 0 hvu0 hlu0 ?_;refine oP ?_;refine zK hhu0 hku0 ?_;refine oP ?_;refine zC rfl (cq (Y:=Y) n T.Fi.wf T.ps Nu0 hE0 (hsk u0 (List.mem_of_getElem? hu0))) ?_;rintro r A2 ⟨y2,b2,rfl,t2,z2⟩;replace T:=T.step hw rfl t2;replace c3:=t2.Fi.ae _ _ c3 fun e=>p3 (.inl e);refine oP ?_;refine dx rfl rfl (v:=.int .i64 y2.1) rfl ?_;refine gO ?_;refine dU 3 (pp 0 Y.X.dc (pp 3 f3 (pp 330 Y.X.dc (.put 336 (.bool (decide (y2.1=1∨(t.k=21∧y2.1=2)))) .nil)))) ?_ ?_
   ·refine oP ?_;by_cases h1:y2.1=1
    ·refine wT 333 h1 ?_;refine oP ?_;exact⟨rfl,rfl,rfl,rfl,congrArg (fun x=>some (AV.bool x)) ((decide_eq_true (.inl h1)).symm),trivial⟩
    ·refine wF 333 h1 ?_;refine oP ?_;exact⟨rfl,rfl,rfl,rfl,congrArg (fun x=>some (AV.bool x)) (decide_eq_decide.2 ⟨fun h=>.inr ⟨k21,h⟩,fun h=>(h.resolve_left h1).2⟩),trivial⟩
   refine oP ?_;refine zC rfl (aG (Y:=(Y.set Y.vv Y.w Y.nl)) T.Fi.wf T.ps) ?_;rintro r A3 ⟨rfl,t3⟩;replace T:=T.step hw rfl t3;refine gO ?_;refine bd rfl (eG.zero T fun _=>?_);rw[ez];exact dA (y:=y2) (b:=b2) (by rw[e0];exact z2 rfl) rfl
  have k21:¬t.k=21:=k21;refine gO ?_;refine zG (fun k22=>?_) fun k22=>?_
  ·have k22:t.k=22:=k22;have ez:cP (Y.ev n) (m+1) lk Y.vars t=if (ba t).k=29 then (match cK (Y.ev n |>.cx Y.vars) (cW ((Y.ev n).cx Y.vars) n) (ba t) with
    | none=>none
    | some _=>some Y.vars) else (match (Y.ev n).ty Y.vars (ba t) with
    | none=>none
    | some _=>if (ba t).k=33 then some Y.vars else none):=by
    conv=>lhs;unfold cP
    rw[if_neg om,if_neg om,if_neg om,if_neg om,if_neg om,if_neg om,if_neg om,if_neg om,if_neg om,if_pos k22]
    try rfl
   obtain⟨u0,hu0,hE0⟩:=gU hSt om;have e0:ba t=u0:=aW hu0;rw[e0] at ez;have hs0:=hsk u0 (List.mem_of_getElem? hu0);obtain⟨fku0,sku0,oku0,cku0,eku0,rku0,aku0,ku0,hvu0,hsu0,hhu0,hlu0,Nu0,htu0⟩:=bv N hu0;have hku0:takeN 6 (aB (Nat.add oku0 (Nat.mul 0 6)) aku0)=some (au u0 ku0):=(htu0 6 0 (Nat.le_refl _)).trans rfl;refine gO ?_;refine zI 0 hvu0 hlu0 ?_;refine oP ?_;refine zK hhu0 hku0 ?_;refine oP ?_;refine aq rfl rfl rfl ?_;refine zS (by rw[AW.add_get,if_pos rfl]) ?_;generalize hf13:A1.aa=f13;refine kN (n:=6) (cs:=au u0 ku0) hw h T hf13 ?_;intro A2 x13 p13 o2 c13 T;replace c3:=o2.k c3;replace Nu0:=Nu0.k o2;refine gO ?_;refine zG (fun k29=>?_) fun k29=>?_
   ·have k29:u0.k=29:=k29;rw[if_pos k29] at ez;refine gO ?_;refine zL c13 ?_;refine oP ?_;refine zC rfl (oo (cq n) (Y:=Y) T.Fi.wf T.ps Nu0 (ex_29 hE0 k29 hs0)) ?_;rintro r A9 ⟨y9,b9,rfl,t9,z9⟩;have T9:=T.step hw rfl t9;refine gO ?_;refine af rfl (eG.zero T9 fun _=>?_);have z:=z9 rfl;rw[ue] at z;rw[ez];cases hr:cK ((Y.ev n).cx Y.vars) (cW ((Y.ev n).cx Y.vars) n) u0 with
    | none=>
     rw[show cK Y.cx (cW Y.cx n) u0=none from hr] at z;exact z
    | some y=>
     rw[show cK Y.cx (cW Y.cx n) u0=some y from hr] at z;exact⟨z.1,rfl⟩
   have k29:¬u0.k=29:=k29;rw[if_neg k29] at ez;refine gO ?_;refine zL c13 ?_;refine oP ?_;refine zC rfl (cq (Y:=Y) n T.Fi.wf T.ps Nu0 hE0 hs0) ?_;rintro r A3 ⟨y3,b3,rfl,t3,z3⟩;replace T:=T.step hw rfl t3;replace c3:=t3.Fi.ae _ _ c3 fun e=>p3 (.inl e);replace c13:=t3.Fi.ae _ _ c13 fun e=>p13 (.inl e);refine gO ?_;refine zC rfl (aG (Y:=(Y.set Y.vv Y.w Y.nl)) T.Fi.wf T.ps) ?_;rintro r A4 ⟨rfl,t4⟩;replace T:=T.step hw rfl t4;refine gO ?_;refine bd rfl (eG.zero T fun _=>?_);have z:=z3 rfl;rw[ez];cases hr:(Y.ev n).ty Y.vars u0 with
   | none=>
    rw[show cW Y.cx n u0=none from hr] at z;have z:b3=true:=z;show (_ || b3)=true;rw[z,Bool.or_true]
   | some y=>
    rw[show cW Y.cx n u0=some y from hr] at z;rw[z.1];show match (if u0.k=33 then some Y.vars else none) with
     | none=>_
     | some _=>_
    by_cases h3:u0.k=33
    ·rw[if_pos h3,decide_eq_true h3];exact⟨rfl,rfl⟩
    ·rw[if_neg h3,decide_eq_false h3];rfl
  have k22:¬t.k=22:=k22;refine gO ?_;have ez:cP (Y.ev n) (m+1) lk Y.vars t=some Y.vars:=by
   conv=>lhs;unfold cP
   rw[if_neg om,if_neg om,if_neg om,if_neg om,if_neg om,if_neg om,if_neg om,if_neg om,if_neg om,if_neg om]
  refine bd rfl (eG.zero T fun _=>?_);rw[ez];exact⟨rfl,rfl⟩
theorem uh{K:FuncId}{n:Nat}:∀m,DQ K n m
 | 0=>fun _ _ _ _ _ h=>by cases h
 | m+1=>Aq (uh m)
end Go.Proofs.YtafamggbkobcfaaGreat.Ae
