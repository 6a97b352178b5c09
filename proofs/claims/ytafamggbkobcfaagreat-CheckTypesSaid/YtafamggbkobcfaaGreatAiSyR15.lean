/- A part of the proof of the statement CheckTypes. -/
import Derived.Test.YtafamggbkobcfaaGreatAiSyR14
namespace Go.Proofs.YtafamggbkobcfaaGreat.Ae
open Go.AE
set_option linter.unusedVariables false
set_option maxRecDepth 100000
structure DH (A:AW) (M dc:Nat) (t:Nd) (kv:AV) (b:Bool) (more:List AV) : Prop where
 cell:RC A dc t kv .bJ b more
 tree:aI A (fun g=>g<M) t kv
 le:M≤dc
 wf:Wf A
section
variable{A A1:AW}{M dc:Nat}{t:Nd}{kv:AV}{b:Bool}{more:List AV}{T:Nat→Prop}
theorem DH.ae(h:DH A M dc t kv b more)(o:ac A A1 T)(h1:¬T dc)(h2:∀g,g<M→¬T g): DH A1 M dc t kv b more:=⟨h.cell.ae o h1,h.tree.ae o h2,h.le,o.wf⟩
theorem DH.quiet(h:DH A M dc t kv b more)(o:ac A A1 ag): DH A1 M dc t kv b more:=h.ae o (fun h=>h) fun _ _ h=>h
theorem DH.lts(hw:Wf A)(h:DH A M dc t kv b more): dc<A.aa:=h.cell.lt hw
theorem DH.under(h:DH A M dc t kv b more): ∀g,g<M→g<A.aa:=fun g hg=>by
 have:=h.cell.lt h.wf;have:=h.le;omega
end
theorem qa{K:FuncId}{A:AW}{M dc:Nat}{t:Nd}{kv:AV}{b x:Bool}{more:List AV}{a:Int}(hw:Wf A)(h:DH A M dc t kv b more):
 aD (ES K) 25 [.ptr dc 0 0,.bool x,.int .i64 a] A fun r A1=>r=.bool (x && !b)∧DH A1 M dc t kv (!x || b) more∧ac A A1 (one dc):=by
 refine (vu hw h.cell).mono ?_;rintro r A1 ⟨rfl,c,o⟩;exact⟨rfl,⟨c,h.tree.ae o fun g hg e=>by have e:g=dc:=e;have:=h.le;omega,h.le,o.wf⟩,o⟩
set_option maxHeartbeats 4000000 in
theorem Au{K:FuncId}{A:AW}{M dc:Nat}{t:Nd}{kv:AV}{more:List AV}(hw:Wf A)(h:DH A M dc t kv false more)(hMA:M≤A.aa)(h0:∀c∈t.l,0<c.l.length)(hn:∀c∈t.l,rI c.s):
 aD (ES K) 22 [.ptr dc 0 0] A fun r A1=>ac A A1 (one dc)∧((DH A1 M dc t kv true more∧¬gW t.l)∨(gW t.l∧∃fr vn vs,RC A1 dc t kv (.ptr fr 0 0) false more∧Ri A1 fr vn vs (cI t.l)∧Hd (cI t.l)∧fr≠dc∧¬vn.av dc∧¬vs.av dc)):=by
 have hl9:t.l.length≤9000:=h.tree.len;have hlv:bm kv=some t.l.length:=h.tree.bm;have lpc:=h.cell.lt hw;have hM:=h.le;refine ap rfl rfl rfl ?_;obtain⟨a0,hc⟩:=h.cell;refine gO ?_;clear hc a0;refine aE ?_;refine yL (pp 0 dc (pv 2 kv (pn 3 0 .nil))) ?_;refine aV (ι:=Nat) (fun i=>t.l.length-i) (fun i=>(pp 0 dc (pv 2 kv (pn 3 i .nil))))
  (fun i B=>ac A B (one dc)∧∃b,DH B M dc t kv b more∧i≤t.l.length∧(b=false↔∀(j:Nat) (c:Nd),j<i→t.l[j]?=some c→gV t.l j c)) ?_ 0 A ⟨ac.refl hw _,false,h,Nat.zero_le _,fun _ j c hj _=>absurd hj (Nat.not_lt_zero _),fun _=>rfl⟩
 rintro i B ⟨T,b,P,hi,hp⟩ ih;refine wJ hlv ?_;refine zG (fun hlt=>?_) fun hge=>?_
 ·have hlt:i<t.l.length:=Int.ofNat_lt.1 hlt;have hu:t.l[i]?=some t.l[i]:=gE hlt;generalize hx:t.l[i]=u at hu;obtain⟨f,s,o,cc,ex,ro,all,ku,hv,hs',hh,hl,hN,cw⟩:=bv P.tree hu;have htx:=aR ((cw 1 2 dE).trans rfl);have hta:=aR ((cw 1 1 dE).trans rfl);have htk:=aR ((cw 1 5 dE).trans rfl);refine wI hv hl ?_;refine aZ rfl rfl rfl rfl hh (v:=.str u.s) htx ?_;refine oP ?_;refine dU 12 (pp 0 dc (pv 2 kv (pn 3 i (pb 4 (decide (u.s=bB∨u.s=cV∨16≤i)) .nil)))) ?_ ?_
  ·by_cases h1:u.s=bB
   ·refine wT 30 h1 ?_;refine oP ?_;exact⟨rfl,rfl,rfl,rfl,congrArg (fun x=>some (AV.bool x)) ((yT (show u.s=bB∨u.s=cV∨16≤i from .inl h1)).symm),trivial⟩
   refine wF 30 h1 ?_;refine oP ?_
   try refine aM rfl ?_
   refine wI hv hl ?_
   try refine aM rfl ?_
   refine aZ rfl rfl rfl rfl hh (v:=.str u.s) htx ?_;refine oP ?_;by_cases h2:u.s=cV
   ·refine wT 38 h2 ?_;refine oP ?_;exact⟨rfl,rfl,rfl,rfl,congrArg (fun x=>some (AV.bool x)) ((yT (show u.s=bB∨u.s=cV∨16≤i from .inr (.inl h2))).symm),trivial⟩
   refine wF 38 h2 ?_;refine oP ?_;exact⟨rfl,rfl,rfl,rfl,congrArg (fun x=>some (AV.bool x)) (decide_eq_decide.2 ⟨fun k=>.inr (.inr (Int.ofNat_le.1 k)),fun k=>Int.ofNat_le.2 ((k.resolve_left h1).resolve_left h2)⟩),trivial⟩
  refine gO ?_;refine aE ?_;refine yL (pp 0 dc (pv 2 kv (pn 3 i (pb 4 (decide (u.s=bB∨u.s=cV∨16≤i)) (pn 5 0 .nil))))) ?_;have hq0:decide (u.s=bB∨u.s=cV∨16≤i)=false↔(t.l.take 0).find? (fun o=>decide (o.s=u.s))=none∧u.s≠bB∧u.s≠cV∧i<16:=by
   constructor
   ·intro k;have k:=of_decide_eq_false k;exact⟨rfl,fun e=>k (.inl e),fun e=>k (.inr (.inl e)),Nat.lt_of_not_le fun e=>k (.inr (.inr e))⟩
   ·exact fun k=>yF fun z=>z.elim k.2.1 fun z=>z.elim k.2.2.1 fun z=>absurd k.2.2.2 (Nat.not_lt.2 z)
  refine aV (ι:=Nat×Bool) (fun i'=>i-i'.1) (fun i'=>(pp 0 dc (pv 2 kv (pn 3 i (pb 4 i'.2 (pn 5 i'.1 .nil))))))
   (fun i' B'=>B'=B∧i'.1≤i∧(i'.2=false↔(t.l.take i'.1).find? (fun o=>decide (o.s=u.s))=none∧u.s≠bB∧u.s≠cV∧i<16)) ?_ (0,decide (u.s=bB∨u.s=cV∨16≤i)) B ⟨rfl,Nat.zero_le _,hq0⟩
  rintro ⟨j,x⟩ B' ⟨e',hj,hq⟩ ih2;obtain rfl:B=B':=e'.symm;replace hj:j≤i:=hj;replace hq:x=false↔(t.l.take j).find? (fun o=>decide (o.s=u.s))=none∧u.s≠bB∧u.s≠cV∧i<16:=hq;refine wD (fun hlt2=>?_) fun hge2=>?_
  ·have hlt2:j<i:=Int.ofNat_lt.1 hlt2;have hy:t.l[j]?=some t.l[j]:=gE om;have hjl:j<t.l.length:=om;generalize hyx:t.l[j]=y at hy;obtain⟨f',s',o',cc',ex',ro',all',ku',hv',hs'',hh',hl',hN',hat'⟩:=bv P.tree hy;have htx':=aR ((hat' 1 2 dE).trans rfl);have eq:(t.l.take (j+1)).find? (fun o=>decide (o.s=u.s))=none↔(t.l.take j).find? (fun o=>decide (o.s=u.s))=none∧¬y.s=u.s:=by
    rw[tS hjl,hyx,List.find?_append,Option.or_eq_none_iff,List.find?_cons];by_cases e:y.s=u.s
    ·rw[yT e];exact⟨fun k=>(by cases k.2),fun k=>absurd e k.2⟩
    ·rw[yF e];exact⟨fun k=>⟨k.1,e⟩,fun k=>⟨k.1,rfl⟩⟩
   refine wG ?_;refine tD ?_;cases x with
   | true=>
    refine aL 48 true rfl rfl ?_;refine dO ?_;refine aC ?_;refine sA ?_;refine eD ?_;refine wP ?_;refine ai ?_;refine yL (pp 0 dc (pv 2 kv (pn 3 i (pb 4 true (pn 5 (j+1:Nat) .nil))))) ?_;exact ih2 (j+1,true) B (by simp only;omega) ⟨rfl,Int.ofNat_lt.1 hlt2,⟨fun k=>(by cases k),fun k=>hq.2 ⟨(eq.1 k.1).1,k.2⟩⟩⟩
   | false=>
    refine aL 48 false rfl rfl ?_;refine dR ?_;refine ax rfl rfl rfl rfl rfl ?_
    try refine aM rfl ?_
    refine zI j hv' hl' ?_;refine eP ?_;refine rD ?_;refine aZ rfl rfl rfl rfl hh' (v:=.str y.s) htx' ?_;refine eR ?_;refine dR ?_;refine ax rfl rfl rfl rfl rfl ?_
    try refine aM rfl ?_
    refine zI i hv hl ?_;refine eP ?_;refine rD ?_;refine aZ rfl rfl rfl rfl hh (v:=.str u.s) htx ?_;refine eR ?_;refine aC ?_;refine sA ?_;refine eD ?_;refine wP ?_;refine ai ?_;refine yL (pp 0 dc (pv 2 kv (pn 3 i (pb 4 (decide (y.s=u.s)) (pn 5 (j+1:Nat) .nil))))) ?_;exact ih2 (j+1,decide (y.s=u.s)) B (by simp only;omega) ⟨rfl,Int.ofNat_lt.1 hlt2,⟨fun k=>⟨eq.2 ⟨(hq.1 rfl).1,of_decide_eq_false k⟩,(hq.1 rfl).2⟩,fun k=>yF (eq.1 k.1).2⟩⟩
  have hge2:j=i:=by
   omega
  subst hge2;replace hq:x=false↔gV t.l j u:=hq;clear ih2;refine ay rfl ?_;refine wI hv hl ?_;refine aZ rfl rfl rfl rfl hh (v:=.int .i64 u.a) hta ?_;refine wC (qa (x:=!x) T.wf P) ?_;rintro r B2 ⟨rfl,P2,o2⟩;refine pH ?_;refine wP ?_;refine ai ?_;refine yL (pp 0 dc (pv 2 kv (pn 3 (j+1:Nat) .nil))) ?_;refine ih  (j+1) B2 om ⟨T.same o2,_,P2,hlt,?_⟩;rw[Bool.not_not,Bool.or_eq_false_iff,hq,hp];constructor
  ·rintro ⟨k1,k2⟩ j' c hj' hc;by_cases e:j'=j
   ·subst e;rw[hu] at hc;cases hc;exact k1
   ·exact k2 j' c om hc
  ·exact fun k=>⟨k j u om hu,fun j' c hj' hc=>k j' c om hc⟩
 have hge:i=t.l.length:=by
  omega
 subst hge;refine ay rfl ?_;have hf:b=false↔∀(j:Nat) (c:Nd),t.l[j]?=some c→gV t.l j c:=hp.trans ⟨fun k j c hj=>k j c (List.getElem?_eq_some_iff.1 hj).1 hj,fun k j c _ hj=>k j c hj⟩;clear hp ih;refine gO ?_;refine aE ?_;refine yL (pp 0 dc (pv 2 kv (pn 6 0 .nil))) ?_;refine aV (ι:=Nat) (fun i=>t.l.length-i) (fun i=>(pp 0 dc (pv 2 kv (pn 6 i .nil))))
  (fun i B=>ac A B (one dc)∧∃b,DH B M dc t kv b more∧i≤t.l.length∧(b=false↔(∀(j:Nat) (c:Nd),t.l[j]?=some c→gV t.l j c)∧∀(j:Nat) (c:Nd),j<i→t.l[j]?=some c→gg t.l (bZ c))) ?_ 0 B ⟨T,b,P,Nat.zero_le _,hf.trans ⟨fun k=>⟨k,fun j c hj _=>absurd hj (Nat.not_lt_zero _)⟩,fun k=>k.1⟩⟩
 clear hf T P;rintro i B ⟨T,b,P,hi,hp⟩ ih;refine wJ hlv ?_;refine zG (fun hlt=>?_) fun hge=>?_
 ·have hlt:i<t.l.length:=Int.ofNat_lt.1 hlt;have hu:t.l[i]?=some t.l[i]:=gE hlt;generalize hx:t.l[i]=u at hu;have hum:u∈t.l:=by rw[←hx];exact List.getElem_mem hlt
  obtain⟨f,s,o,cc,ex,ro,all,ku,hv,hs',hh,hl,hN,cw⟩:=bv P.tree hu;have htx:=aR ((cw 1 2 dE).trans rfl);have hta:=aR ((cw 1 1 dE).trans rfl);have htk:=aR ((cw 1 5 dE).trans rfl);obtain⟨w,hw0⟩:∃w,u.l[0]?=some w:=⟨_,gE (h0 u hum)⟩;have ew:bZ u=w.s:=by unfold bZ;rw[aW hw0]
  obtain⟨fk,sk,ok,ck,ek,rk,ak,kw,hvk,hsk,hhk,hlk,Nk,hatk⟩:=bv hN hw0;have hkx:=aR ((hatk 1 2 dE).trans rfl);have hka:=aR ((hatk 1 1 dE).trans rfl);have hstk:=hN.fS;refine wG ?_;refine tD ?_;refine ax rfl rfl rfl rfl rfl ?_;refine zI i hv hl ?_;refine eP ?_;refine rD ?_;refine aZ rfl rfl rfl rfl hh (v:=ku) htk ?_;refine eR ?_;refine dR ?_;refine ax rfl rfl rfl rfl rfl ?_;refine zI 0 hvk hlk ?_;refine eP ?_;refine rD ?_;refine aZ rfl rfl rfl rfl hhk (v:=.str w.s) hkx ?_;refine eR ?_;refine dR ?_;refine ax rfl rfl rfl rfl rfl ?_;refine zI i hv hl ?_;refine eP ?_;refine rD ?_;refine aZ rfl rfl rfl rfl hh (v:=ku) htk ?_;refine eR ?_;refine dR ?_;refine ax rfl rfl rfl rfl rfl ?_;refine zI 0 hvk hlk ?_;refine eP ?_;refine rD ?_;refine aZ rfl rfl rfl rfl hhk (v:=.int .i64 w.a) hka ?_;refine eR ?_;refine aC ?_
  refine zC rfl (yq T.wf P.cell P.tree P.under) ?_;rintro r B1 ⟨rfl,o1⟩;replace P:=P.quiet o1;replace T:=T.same (o1.mono fun _ h=>h.elim);obtain⟨hh,hhk⟩:=o1.k2 hh hhk;refine sA ?_;refine aC ?_;refine zC rfl (qa (x:=decide (gg t.l w.s)) T.wf P) ?_;rintro r B2 ⟨rfl,P2,o2⟩;refine sA ?_;refine eD ?_;refine wP ?_;refine ai ?_;refine yL (pp 0 dc (pv 2 kv (pn 6 (i+1:Nat) .nil))) ?_;refine ih  (i+1) B2 om ⟨T.same o2,_,P2,hlt,?_⟩;rw[Bool.or_eq_false_iff,hp,←ew];constructor
  ·rintro ⟨k1,k2,k3⟩;refine⟨k2,fun j' c hj' hc=>?_⟩;by_cases e:j'=i
   ·subst e;rw[hu] at hc;cases hc;have k1:(!decide (gg t.l (bZ u)))=false:=k1;rw[Bool.not_eq_false'] at k1;exact of_decide_eq_true k1
   ·exact k3 j' c om hc
  ·rintro ⟨k2,k3⟩;refine⟨?_,k2,fun j' c hj' hc=>k3 j' c om hc⟩;rw[yT (k3 i u om hu)];rfl
 have hge:i=t.l.length:=by
  omega
 subst hge;refine ay rfl ?_;have hf:b=false↔(∀(j:Nat) (c:Nd),t.l[j]?=some c→gV t.l j c)∧∀(j:Nat) (c:Nd),t.l[j]?=some c→gg t.l (bZ c):=hp.trans ⟨fun k=>⟨k.1,fun j c hj=>k.2 j c (List.getElem?_eq_some_iff.1 hj).1 hj⟩,fun k=>⟨k.1,fun j c _ hj=>k.2 j c hj⟩⟩;clear hp ih;refine gO ?_;refine aE ?_;refine yL (pp 0 dc (pv 2 kv (.put 7 .aj (.put 8 .aj (pn 9 0 .nil))))) ?_;refine aV (ι:=Nat×AV×AV) (fun i=>t.l.length-i.1) (fun i=>(pp 0 dc (pv 2 kv (.put 7 i.2.1 (.put 8 i.2.2 (pn 9 i.1 .nil))))))
  (fun i B=>ac A B (one dc)∧(∃b,DH B M dc t kv b more∧(b=false↔((∀(j:Nat) (c:Nd),t.l[j]?=some c→gV t.l j c)∧∀(j:Nat) (c:Nd),t.l[j]?=some c→gg t.l (bZ c))∧∀(j:Nat) (c:Nd),j<i.1→t.l[j]?=some c→jU t.l (t.l.length-1) (bZ c)=false))∧i.1≤t.l.length∧eH B 1 i.2.1 i.1 (ip (ei (t.l.take i.1)))∧eH B 1 i.2.2 i.1 (ip (jO (t.l.take i.1)))∧(∀g,i.2.1.av g→A.aa≤g∧¬i.2.2.av g)∧∀g,i.2.2.av g→A.aa≤g) ?_ (0,.aj,.aj) B ⟨T,⟨b,P,hf.trans ⟨fun k=>⟨k,fun j c hj _=>absurd hj (Nat.not_lt_zero _)⟩,fun k=>k.1⟩⟩,Nat.zero_le _,.inl ⟨rfl,rfl,rfl⟩,.inl ⟨rfl,rfl,rfl⟩,fun g h=>h.elim,fun g h=>h.elim⟩
 clear hf T P;rintro ⟨i,v7,v8⟩ B ⟨T,⟨b,P,hp⟩,hi,b7,b8,g7,g8⟩ ih;replace hi:i≤t.l.length:=hi;replace b7:eH B 1 v7 i (ip (ei (t.l.take i))):=b7;replace b8:eH B 1 v8 i (ip (jO (t.l.take i))):=b8;replace g7:∀g,v7.av g→A.aa≤g∧¬v8.av g:=g7;replace g8:∀g,v8.av g→A.aa≤g:=g8;obtain⟨a1,hc⟩:=P.cell;refine wJ hlv ?_;cases b with
 | true=>
  by_cases hlt:(i:Int)<(t.l.length:Int)
  ·refine wT 100 hlt ?_;refine rU ?_;refine ay rfl ?_;refine rU ?_;exact bd rfl ⟨T,.inl ⟨P,fun k=>by
    have z:=hp.2 ⟨⟨(gn.1 k).1,(gn.1 k).2.1⟩,fun j c _ hj=>(gn.1 k).2.2 j c hj⟩;cases z⟩⟩
  ·refine wF 100 hlt ?_;refine rU ?_;refine ay rfl ?_;refine rU ?_;exact bd rfl ⟨T,.inl ⟨P,fun k=>by
    have z:=hp.2 ⟨⟨(gn.1 k).1,(gn.1 k).2.1⟩,fun j c _ hj=>(gn.1 k).2.2 j c hj⟩;cases z⟩⟩
 | false=>
  by_cases hlt:(i:Int)<(t.l.length:Int)
  ·refine wT 100 hlt ?_;refine rU ?_;clear hc a1;have hlt:i<t.l.length:=Int.ofNat_lt.1 hlt;have hu:t.l[i]?=some t.l[i]:=gE hlt;generalize hx:t.l[i]=u at hu;have hum:u∈t.l:=by rw[←hx];exact List.getElem_mem hlt
   obtain⟨f,s,o,cc,ex,ro,all,ku,hv,hs',hh,hl,hN,cw⟩:=bv P.tree hu;have htx:=aR ((cw 1 2 dE).trans rfl);have hta:=aR ((cw 1 1 dE).trans rfl);have htk:=aR ((cw 1 5 dE).trans rfl);have hkd:=P.lts T.wf;obtain⟨w,hw0⟩:∃w,u.l[0]?=some w:=⟨_,gE (h0 u hum)⟩;have ew:bZ u=w.s:=by unfold bZ;rw[aW hw0]
   obtain⟨fk,sk,ok,ck,ek,rk,ak,kw,hvk,hsk,hhk,hlk,Nk,hatk⟩:=bv hN hw0;have hkx:=aR ((hatk 1 2 dE).trans rfl);have hstk:=hN.fS;refine wI hv hl ?_;refine zK hh ((cw 6 0 (Nat.le_refl _)).trans rfl) ?_;refine aq rfl rfl rfl ?_;refine oP ?_;refine zS (by rw[AW.add_get,iP rfl]) ?_;refine bG (fun B2=>ac B B2 ag∧B2.heap.get B.aa=some (.cells 0 false 6 (au u ku))) ⟨made T.wf,by rw[AW.aw,iP rfl];rfl⟩ ?_;rintro B2 ⟨o2,c10⟩;have hwB:=T.wf;have m0:=T.aa;have u7:∀g,v7.av g→g<B.aa:=fun g hg=>b7.under hwB g hg;have u8:∀g,v8.av g→g<B.aa:=fun g hg=>b8.under hwB g hg;generalize hf10:B.aa=f10 at c10 u7 u8 ⊢;replace P:=P.quiet o2;replace hN:=hN.k o2;obtain⟨hh,hhk⟩:=o2.k2 hh hhk;replace b7:=b7.k o2;replace b8:=b8.k o2;have l10:=o2.wf _ _ c10;have T2:ac A B2 (one dc):=T.same (o2.mono fun _ h=>h.elim);clear T;refine gO ?_;refine aE ?_
   refine yL (pp 0 dc (pv 2 kv (pv 7 v7 (pv 8 v8 (pn 9 i (pp 10 f10 (pn 11 0 (pb 12 true .nil)))))))) ?_;refine aV (ι:=Nat×Bool×Nd×AV) (fun x=>t.l.length+1-x.1) (fun x=>(pp 0 dc (pv 2 kv (pv 7 v7 (pv 8 v8 (pn 9 i (pp 10 f10 (pn 11 x.1 (pb 12 x.2.1 .nil)))))))))
    (fun x C=>ac B2 C (one f10)∧gt C f10 6 (au x.2.2.1 x.2.2.2)∧aI C (fun g=>g<M) x.2.2.1 x.2.2.2∧x.1≤t.l.length+1∧(x.2.1=true→x.2.2.1∈t.l∧(x.1<t.l.length→jU t.l (t.l.length-1) (bZ u)=jU t.l (t.l.length-1-x.1) (bZ x.2.2.1))∧(t.l.length≤x.1→jU t.l (t.l.length-1) (bZ u)=true))∧(x.2.1=false→jU t.l (t.l.length-1) (bZ u)=decide (t.l.length<x.1))) ?_ (0,true,u,ku) B2 ⟨ac.refl o2.wf _,c10,hN,Nat.zero_le _,fun _=>⟨hum,fun _=>rfl,fun k=>(by have:t.l.length≤0:=k;omega)⟩,fun k=>by cases k⟩
   clear c10;rintro ⟨n,okb,z,kz⟩ C ⟨oC,c10,Nz,hn,hy,hno⟩ ih2;replace hn:n≤t.l.length+1:=hn;replace c10:gt C f10 6 (au z kz):=c10;replace Nz:aI C (fun g=>g<M) z kz:=Nz;have hkd:f10≠dc:=om;have PC2:DH C M dc t kv false more:=P.ae oC (fun e=>hkd e.symm) fun g hg e=>by have e:g=f10:=e;omega
   refine gO ?_;have hx:okb=true∧n≤t.l.length∨(okb=false∨t.l.length<n)∧jU t.l (t.l.length-1) (bZ u)=decide (t.l.length<n):=by
    cases okb with
    | false=>exact .inr ⟨.inl rfl,hno rfl⟩
    | true=>
     by_cases k:n≤t.l.length
     ·exact .inl ⟨rfl,k⟩
     ·exact .inr ⟨.inr om,((hy rfl).2.2 (by show t.l.length≤n;omega)).trans (yT om).symm⟩
   rcases hx with ⟨rfl,hnl⟩|⟨hout,hR⟩
   ·refine aF 114 true rfl rfl ?_;refine gO ?_
    try refine aM rfl ?_
    refine wJ hlv ?_;refine cD rfl (fun _=>?_) fun h=>absurd (Int.ofNat_le.2 hnl) h;obtain⟨hzm,hy1,hy2⟩:=hy rfl;replace hzm:z∈t.l:=hzm;obtain⟨w2,hw2⟩:∃w,z.l[0]?=some w:=⟨_,gE (h0 z hzm)⟩;have ew2:bZ z=w2.s:=by unfold bZ;rw[aW hw2]
    obtain⟨f2,s2,q2,cc2,e2,r2,a2,kw2,hv2,hs2,hh2,hl2,N2,hat2⟩:=bv Nz hw2;have htx2:=aR ((hat2 1 2 dE).trans rfl);refine wI hv2 hl2 ?_;refine aZ rfl rfl rfl rfl hh2 (v:=.str w2.s) htx2 ?_;refine wC (kh oC.wf PC2.cell PC2.tree PC2.under) ?_;rintro r C1 ⟨o3,hr⟩;replace c10:=o3.k c10;have oC1:ac B2 C1 (one f10):=oC.same (o3.mono fun _ h=>h.elim);obtain⟨L1,hL⟩:∃m,t.l.length=m+1:=⟨t.l.length-1,om⟩;cases hcl:bp t.l w2.s with
    | none=>
     rw[hcl] at hr;obtain rfl:r=.tuple [.agg (au dL .aj),.bool false]:=hr;refine gO ?_;refine zS c10 ?_;refine bG (fun C2=>ac C1 C2 (one f10)∧C2.heap.get f10=some (.cells 0 false 6 (au dL .aj))) ⟨ac.put o3.wf (o3.wf _ _ c10),by rw[AW.aw,if_pos rfl];rfl⟩ ?_;rintro C2 ⟨o4,c10'⟩;refine wP ?_;refine ai ?_;refine yL (pp 0 dc (pv 2 kv (pv 7 v7 (pv 8 v8 (pn 9 i (pp 10 f10 (pn 11 (n+1:Nat) (pb 12 false .nil)))))))) ?_;refine ih2 (n+1,false,dL,.aj) C2 (by simp only;omega) ⟨oC1.same o4,c10',aI.cB rfl,by simp only;omega,fun k=>(by cases k),fun _=>?_⟩;show jU t.l (t.l.length-1) (bZ u)=decide (t.l.length<n+1);by_cases k:n<t.l.length
     ·rw[hy1 k,yF om,ew2];show jU t.l (t.l.length-1-n) w2.s=false;cases t.l.length-1-n with
      | zero=>show (bp t.l w2.s).isSome=false;rw[hcl];rfl
      | succ m=>show (match bp t.l w2.s with|none=>false|some c=>jU t.l m (bZ c))=false;rw[hcl]
     ·rw[hy2 (Nat.le_of_not_lt k),yT om]
    | some z'=>
     rw[hcl] at hr;obtain⟨kz',rfl,Nz'⟩:=hr;refine gO ?_;refine zS c10 ?_;refine bG (fun C2=>ac C1 C2 (one f10)∧C2.heap.get f10=some (.cells 0 false 6 (au z' kz'))) ⟨ac.put o3.wf (o3.wf _ _ c10),by rw[AW.aw,if_pos rfl];rfl⟩ ?_;rintro C2 ⟨o4,c10'⟩;refine wP ?_;refine ai ?_;refine yL (pp 0 dc (pv 2 kv (pv 7 v7 (pv 8 v8 (pn 9 i (pp 10 f10 (pn 11 (n+1:Nat) (pb 12 true .nil)))))))) ?_;refine ih2 (n+1,true,z',kz') C2 (by simp only;omega) ⟨oC1.same o4,c10',Nz'.ae o4 fun g hg e=>by have e:g=f10:=e;omega,by simp only;omega,fun _=>⟨(jP hcl).1,fun k=>?_,fun k=>?_⟩,fun k=>(by cases k)⟩
     ·replace k:n+1<t.l.length:=k;show jU t.l (t.l.length-1) (bZ u)=jU t.l (t.l.length-1-(n+1)) (bZ z');have e9:=hy1 (show n<t.l.length by omega);replace e9:jU t.l (t.l.length-1) (bZ u)=jU t.l (t.l.length-1-n) (bZ z):=e9;rw[e9,ew2,show t.l.length-1-n=(t.l.length-1-(n+1))+1 from by omega];show (match bp t.l w2.s with|none=>false|some c=>jU t.l _ (bZ c))=_;rw[hcl]
     ·replace k:t.l.length≤n+1:=k;show jU t.l (t.l.length-1) (bZ u)=true;by_cases k':n<t.l.length
      ·have e9:=hy1 k';replace e9:jU t.l (t.l.length-1) (bZ u)=jU t.l (t.l.length-1-n) (bZ z):=e9;rw[e9,ew2,show t.l.length-1-n=0 from by omega];show (bp t.l w2.s).isSome=true;rw[hcl];rfl
      ·exact hy2 (Nat.le_of_not_lt k')
   clear ih2;have hh3:=oC.ae _ _ hh fun e=>by have e:f=f10:=e;have hs':f<M:=hs';omega
   have hh4:=oC.ae _ _ hhk fun e=>by have e:fk=f10:=e;have hsk:fk<M:=hsk;omega
   have b7:=b7.ae oC fun g hg e=>by have:=u7 g hg;have e:g=f10:=e;omega
   have b8:=b8.ae oC fun g hg e=>by have:=u8 g hg;have e:g=f10:=e;omega
   have TC:ac A C (one dc):=ac.Cn hw T2 oC fun g hg=>by have e:g=f10:=hg;omega
   have eR:(!decide ((n:Int)≤(t.l.length:Int)))=jU t.l (t.l.length-1) (bZ u):=by
    rw[hR];by_cases k:n≤t.l.length
    ·rw[yT (Int.ofNat_le.2 k),yF om];rfl
    ·rw[yF (fun z=>k (Int.ofNat_le.1 z)),yT om];rfl
   refine dU 5 (pp 0 dc (pv 2 kv (pv 7 v7 (pv 8 v8 (pn 9 i (pp 10 f10 (pn 11 n (pb 119 false .nil)))))))) ?_ ?_
   ·cases okb with
    | false=>
     refine aF 114 false rfl rfl ?_;refine oP ?_;exact⟨rfl,rfl,rfl,rfl,rfl,rfl,rfl,rfl,rfl,trivial⟩
    | true=>
     have k:¬(n:Int)≤(t.l.length:Int):=fun k=>hout.elim (fun e=>by cases e) fun e=>by
      omega
     refine aF 114 true rfl rfl ?_;refine oP ?_
     try refine aM rfl ?_
     refine wJ hlv ?_;exact⟨rfl,rfl,rfl,rfl,rfl,rfl,rfl,rfl,congrArg (fun x=>some (AV.bool x)) (yF k),trivial⟩
   refine rU ?_;refine ay rfl ?_;refine wJ hlv ?_;refine wI hv hl ?_;refine aZ rfl rfl rfl rfl hh3 (v:=.int .i64 u.a) hta ?_;refine wC (qa (x:=decide ((n:Int)≤(t.l.length:Int))) oC.wf PC2) ?_;rintro r B3 ⟨rfl,P3,o3⟩;rw[eR,Bool.or_false] at P3;replace hh3:=o3.ae _ _ hh3 fun e=>by have e:f=dc:=e;have hs':f<M:=hs';omega
   replace hh4:=o3.ae _ _ hh4 fun e=>by have e:fk=dc:=e;have hsk:fk<M:=hsk;omega
   replace b7:=b7.ae o3 fun g hg e=>by have:=(g7 g hg).1;have e:g=dc:=e;omega
   replace b8:=b8.ae o3 fun g hg e=>by have:=g8 g hg;have e:g=dc:=e;omega
   have T3:ac A B3 (one dc):=TC.same o3;have m3:=o3.aa;have m3':=oC.aa;refine pH ?_;refine wG ?_;refine tD ?_;refine ax rfl rfl rfl rfl rfl ?_;refine zI i hv hl ?_;refine eP ?_;refine rD ?_;refine aZ rfl rfl rfl rfl hh3 (v:=.str u.s) htx ?_;refine oP ?_;refine⟨rfl,_,rfl,?_⟩;refine dR ?_;refine bW rfl rfl rfl rfl ?_;refine bq rfl rfl rfl ?_;refine bG (fun B4=>ac B3 B4 ag∧B4.heap.get B3.aa=some (.cells 0 false 1 [.str u.s])) ⟨ac.add T3.wf _,by rw[AW.add_get,iP rfl];rfl⟩ ?_;rintro B4 ⟨oM,cM4⟩;refine oP ?_;generalize hfM4:B3.aa=fM4 at cM4 ⊢;obtain⟨hh3,hh4⟩:=oM.k2 hh3 hh4;replace b7:=b7.k oM;replace b8:=b8.k oM;replace P3:=P3.quiet oM;replace T3:=T3.same (oM.mono fun _ h=>h.elim);have lM4:=oM.wf _ _ cM4
   skip
   clear oM;refine dR ?_;refine ax rfl rfl rfl rfl rfl ?_;refine zI i hv hl ?_;refine eP ?_;refine dR ?_;refine jZ rfl rfl rfl rfl rfl rfl rfl ?_;refine aZ rfl rfl rfl rfl hh3 (v:=ku) htk ?_;refine oP ?_;refine⟨rfl,_,rfl,?_⟩;refine dR ?_;refine ax rfl rfl rfl rfl rfl ?_;refine wI hvk hlk ?_;refine⟨rfl,?_⟩;refine dR ?_;refine jZ rfl rfl rfl rfl rfl rfl rfl ?_;refine aZ rfl rfl rfl rfl hh4 (v:=.str w.s) hkx ?_;refine oP ?_;refine⟨rfl,_,rfl,?_⟩;refine dR ?_;refine bW rfl rfl rfl rfl ?_;refine bq rfl rfl rfl ?_;refine bG (fun B5=>ac B4 B5 ag∧B5.heap.get B4.aa=some (.cells 0 false 1 [.str w.s])) ⟨ac.add T3.wf _,by rw[AW.add_get,iP rfl];rfl⟩ ?_;rintro B5 ⟨oM,cM5⟩;refine oP ?_;generalize hfM5:B4.aa=fM5 at cM5 ⊢;obtain⟨hh3,hh4⟩:=oM.k2 hh3 hh4;replace b7:=b7.k oM;replace b8:=b8.k oM;replace P3:=P3.quiet oM
   replace T3:=T3.same (oM.mono fun _ h=>h.elim);have mM5:=oM.aa;have lM5:=oM.wf _ _ cM5;replace cM4:=oM.ae _ _ cM4 fun h=>h;clear oM;refine dR ?_;refine me rfl rfl rfl ?_;refine bE rfl rfl rfl rfl rfl (io (m:=1) (n:=i) (xs:=[.str u.s]) (x:=.slice fM4 0 0 1 1 true) (de:=d9) rfl rfl rfl rfl T3.wf b7 (rQ cM4 rfl) rfl dE (cU om dE)) ?_;intro v7' B6 G;replace cM5:=G.Fi.ae _ _ cM5 fun k=>by have:=u7 _ k;omega
   have hfk:¬v7.av fk:=fun k=>by have:=(g7 _ k).1;have hsk:fk<M:=hsk;omega
   have hfi:¬v7.av f:=fun k=>by have:=(g7 _ k).1;have hs':f<M:=hs';omega
   replace hh3:=G.Fi.ae _ _ hh3 hfi;replace hh4:=G.Fi.ae _ _ hh4 hfk;replace b8:=b8.ae G.Fi fun g hg k=>(g7 g k).2 hg;have h7':∀g,v7'.av g→A.aa≤g∧¬v8.av g:=fun g hg=>(G.grow g hg).elim (g7 g) fun k=>by
    exact⟨om,fun z=>by have:=u8 g z;omega⟩
   have P6:=P3.ae G.Fi (fun k=>by have:=(g7 _ k).1;omega) fun g hg k=>by have:=(g7 _ k).1;omega
   have T6:ac A B6 (one dc):=ac.Cn hw T3 G.Fi fun g hg=>(g7 g hg).1;refine sA ?_;refine aC ?_;refine bE rfl rfl rfl rfl rfl (io (m:=1) (n:=i) (xs:=[.str w.s]) (x:=.slice fM5 0 0 1 1 true) (de:=d9) rfl rfl rfl rfl G.Fi.wf b8 (rQ cM5 rfl) rfl dE (cU om dE)) ?_;intro v8' B7 H;have m5:=G.Fi.aa;have h8':∀g,v8'.av g→A.aa≤g:=fun g hg=>(H.grow g hg).elim (g8 g) fun k=>by
    omega
   have u7':∀g,v7'.av g→g<B6.aa:=G.buf.under G.Fi.wf;refine sA ?_;refine aC ?_;refine oP ?_;refine sK ?_;refine me rfl rfl rfl ?_;refine oP ?_;refine sK ?_;refine eD ?_;refine il rfl rfl rfl om om ?_;refine gO ?_;refine ai ?_;refine bY (pp 0 dc (pv 2 kv (.put 7 v7' (.put 8 v8' (pn 9 (i+1:Nat) .nil))))) ?_ ⟨rfl,rfl,rfl,rfl,rfl,trivial⟩;refine ih (i+1,v7',v8') B7 (by simp only;omega) ⟨?_,⟨_,P6.ae H.Fi (fun k=>by have:=g8 _ k;omega) (fun g hg k=>by have:=g8 _ k;omega),?_⟩,hlt,?_,?_,fun g hg=>⟨(h7' g hg).1,fun k=>(H.grow g k).elim (h7' g hg).2 fun k=>by have k:B6.aa≤g:=k;have:=u7' g hg;omega⟩,h8'⟩
   ·exact ac.Cn hw T6 H.Fi g8
   ·constructor
    ·intro k;refine⟨(hp.1 rfl).1,fun j c hj hjc=>?_⟩;by_cases e:j=i
     ·subst e;rw[hu] at hjc;cases hjc;exact k
     ·exact (hp.1 rfl).2 j c (by have:j<i+1:=hj;omega) hjc
    ·exact fun k=>k.2 i u (Nat.lt_succ_self i) hu
   ·have:=G.buf.ae H.Fi fun g hg k=>(h7' g hg).2 k;unfold ei at this ⊢;rw[tS hlt,mA,dZ,hx];exact this
   ·have:=H.buf;unfold jO at this ⊢;rw[tS hlt,mA,dZ,hx];show eH B7 1 v8' (i+1) (_++[.str (bZ u)]);rw[ew];exact this
  ·refine wF 100 hlt ?_;refine rU ?_;refine ay rfl ?_;refine rU ?_;have hge:i=t.l.length:=om;subst hge;clear ih;rw[tL] at b7 b8;have ln:(ei t.l).length=t.l.length:=lM _;have ls:(jO t.l).length=t.l.length:=lM _;rw[←ln] at b7;rw[←ls] at b8;replace b7:=b7.row;replace b8:=b8.row;obtain⟨⟨z1,z2⟩,z3⟩:=hp.1 rfl;have hok:gW t.l:=gn.2 ⟨z1,z2,fun j c hj=>z3 j c (List.getElem?_eq_some_iff.1 hj).1 hj⟩;refine wC (DI T.wf b7 b8 fun s hs=>?_) ?_
   ·obtain⟨c,hc',rfl⟩:=List.mem_map.1 hs;exact Nat.lt_of_le_of_lt (hn c hc').2.1 dE
   rintro r B2 ⟨o2,hr⟩;rw[pW hok hn] at hr;rcases hr with ⟨hr,_⟩|⟨_,fr,vn,vs,rfl,H,Hh⟩
   ·exact absurd rfl hr
   replace hc:=o2.k hc;have l2:=o2.wf _ _ hc;refine gO ?_;refine zS hc ?_;refine bG (fun B3=>ac B2 B3 (one dc)∧B3.heap.get dc=some (.cells 0 false 18 (au t kv++(.ptr fr 0 0::.bool false::.int .i64 a1::more)))) ⟨ac.put o2.wf l2,by rw[AW.aw,if_pos rfl];rfl⟩ ?_;rintro B3 ⟨o3,hc3⟩;refine gO ?_;have n1:fr≠dc:=fun e=>by have:=H.cell;rw[e,hc] at this;cases this
   have n2:¬vn.av dc:=fun e=>by
    obtain⟨t',ht⟩:=fj H.n e;rw[hc] at ht;cases ht
   have n3:¬vs.av dc:=fun e=>by
    obtain⟨t',ht⟩:=fj H.s e;rw[hc] at ht;cases ht
   exact bd rfl ⟨(T.same (o2.mono fun _ h=>h.elim)).same o3,.inr ⟨hok,fr,vn,vs,⟨a1,hc3⟩,H.ny o3 (fun e=>n1 e) (fun g hg e=>n2 (by cases e;exact hg)) (fun g hg e=>n3 (by cases e;exact hg)),Hh,n1,n2,n3⟩⟩
end Go.Proofs.YtafamggbkobcfaaGreat.Ae
