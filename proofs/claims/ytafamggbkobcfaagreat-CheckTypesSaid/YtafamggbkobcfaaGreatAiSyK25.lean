/- A part of the proof of the statement CheckTypes. -/
import Derived.Test.YtafamggbkobcfaaGreatAiSyK23
namespace Go.Proofs.YtafamggbkobcfaaGreat.Ae
open Go.AE
set_option linter.unusedVariables false
set_option maxRecDepth 100000
theorem rQ{A:AW}{f es:Nat}{xs:List AV}(h:A.heap.get f=some (.cells 0 false es xs))(hl:xs.length=es): kl A es (.slice f 0 0 1 1 true)=some (1,xs):=by
 have e:takeN (Nat.mul 1 es) xs=some xs:=by
  have:Nat.mul 1 es=es:=Nat.one_mul _;rw[this,br _ _ om,←hl,tL]
 simp only[kl,bU,aB];rw[h];simp only[Nat.beq_refl,cond_true,e]
theorem ac.Cn{A A1 A2:AW}{T U:Nat→Prop}(hw:Wf A)(h:ac A A1 T)(k:ac A1 A2 U)(ht:∀g,U g→A.aa≤g): ac A A2 T:=
 ⟨k.wf,Nat.le_trans h.aa k.aa,fun g F hg hn=>k.ae g F (h.ae g F hg hn) fun z=>by
  have:=ht g z;have:=hw g F hg;omega⟩
set_option maxHeartbeats 4000000 in
theorem Co{K:FuncId}{A:AW}{M pc:Nat}{kv:AV}{cs:List Nd}(hw:Wf A)(h:PH A M pc kv cs false)(hMA:M≤A.aa)(h0:∀c∈cs,0<c.l.length)(hn:∀c∈cs,rI c.s)(hs:∀c∈cs,small (bZ c))(hm:∀c∈cs,∀m∈c.l.drop 1,jK m):
 aD (ES K) 46 [.ptr pc 0 0] A fun r A1=>ac A A1 (one pc)∧((PH A1 M pc kv cs true∧¬gW cs)∨(gW cs∧∃fr fm vn,PC A1 ⟨M,pc,fr,fm,kv,vn,cs,cI cs⟩ false)):=by
 obtain⟨fe,hc⟩:=h.cell;have hl9:cs.length≤9000:=h.tree.len;have hlv:bm kv=some cs.length:=h.tree.bm;have lpc:=hw _ _ hc;have hM:=h.le;refine ap rfl rfl rfl ?_;refine wJ hlv ?_;refine aE ?_;refine yL (pp 0 pc (pv 17 kv (pn 18 cs.length (pn 19 0 .nil)))) ?_;refine aV (ι:=Nat) (fun i=>cs.length-i) (fun i=>(pp 0 pc (pv 17 kv (pn 18 cs.length (pn 19 i .nil)))))
  (fun i B=>ac A B (one pc)∧PH B M pc kv cs false∧i≤cs.length∧∀j c,j<i→cs[j]?=some c→gV cs j c) ?_ 0 A ⟨ac.refl hw _,h,Nat.zero_le _,fun j c hj _=>absurd hj (Nat.not_lt_zero _)⟩
 rintro i B ⟨T,P,hi,hp⟩ ih;refine wD (fun hlt=>?_) fun hge=>?_
 ·have hlt:i<cs.length:=Int.ofNat_lt.1 hlt;have hu:cs[i]?=some cs[i]:=gE hlt;generalize hx:cs[i]=u at hu;obtain⟨f,s,o,cc,ex,ro,all,ku,hv,hh,_,hN,cw⟩:=P.tree.wi (i:=i) (u:=u) hu;obtain⟨fe,hc⟩:=P.cell;refine wI hv hlt ?_;refine zK hh ((cw 6 0 (Nat.le_refl _)).trans rfl) ?_;refine oP ?_;refine aq rfl rfl rfl ?_;refine oP ?_;refine zS (by rw[AW.add_get,iP rfl]) ?_;refine bG (fun B2=>ac B B2 ag∧B2.heap.get B.aa=some (.cells 0 false 6 (au u ku))) ⟨made T.wf,by rw[AW.aw,iP rfl];rfl⟩ ?_;rintro B2 ⟨o2,cu⟩;generalize hfu:B.aa=fu at cu;replace P:=P.quiet o2;replace hc:=o2.k hc;have T2:ac A B2 (one pc):=T.same (o2.mono fun _ h=>h.elim);refine gO ?_;refine bQ (Q:=fun r=>aI B2 (fun g=>g<M) (jT (cs.take i)) r) rfl rfl rfl rfl rfl (wA P.tree (Nat.le_of_lt hlt) (show 0<cs.length by omega)) ?_;intro v29 N2;refine oP ?_;refine dG rfl rfl rfl ?_
  refine wC (jN (P:=fun o=>decide (o.s=u.s)) o2.wf N2 (fun _ _=>bF) rfl fun B x kv oB=>ER oB.wf (oB.ae _ _ cu fun h=>h)) ?_;rintro r B3 ⟨rfl,o3⟩;replace P:=P.quiet o3;replace cu:=o3.k cu;replace T2:=T2.same (o3.mono fun _ h=>h.elim);refine gO ?_;refine dU 13 (pp 0 pc (pp 3 fu (pv 17 kv (pn 18 cs.length (pn 19 i (pp 32 pc (pb 47 (decide (¬gV cs i u)) .nil))))))) ?_ ?_
  ·cases hf:(cs.take i).find? (fun o=>decide (o.s=u.s)) with
   | some x=>
    refine aF 34 true rfl rfl ?_;refine oP ?_;exact⟨rfl,rfl,rfl,rfl,rfl,rfl,rfl,congrArg (fun x=>some (AV.bool x)) ((yT (show ¬gV cs i u from fun k=>by rw[k.1] at hf;cases hf)).symm),trivial⟩
   | none=>
    refine aF 34 false rfl rfl ?_;refine oP ?_;by_cases h1:u.s=bB
    ·refine wT 39 h1 ?_;refine oP ?_;exact⟨rfl,rfl,rfl,rfl,rfl,rfl,rfl,congrArg (fun x=>some (AV.bool x)) ((yT (show ¬gV cs i u from fun k=>k.2.1 h1)).symm),trivial⟩
    refine wF 39 h1 ?_;refine oP ?_;by_cases h2:u.s=cV
    ·refine wT 44 h2 ?_;refine oP ?_;exact⟨rfl,rfl,rfl,rfl,rfl,rfl,rfl,congrArg (fun x=>some (AV.bool x)) ((yT (show ¬gV cs i u from fun k=>k.2.2.1 h2)).symm),trivial⟩
    refine wF 44 h2 ?_;refine oP ?_;exact⟨rfl,rfl,rfl,rfl,rfl,rfl,rfl,congrArg (fun x=>some (AV.bool x)) (decide_eq_decide.2 ⟨fun h k=>by have:=k.2.2.2;omega,fun h=>Decidable.byContradiction fun k=>h ⟨hf,h1,h2,om⟩⟩),trivial⟩
  by_cases hfine:gV cs i u
  ·refine aF 47 false rfl (yF fun k=>k hfine) ?_;refine wC (eQ o3.wf P) ?_;rintro r B4 ⟨rfl,P4,o4⟩;refine rU ?_;refine wP ?_;refine ai ?_;refine yL (pp 0 pc (pv 17 kv (pn 18 cs.length (pn 19 (i+1:Nat) .nil)))) ?_;refine ih  (i+1) B4 om ⟨T2.same o4,P4,hlt,fun j c hj hjc=>?_⟩;by_cases e:j=i
   ·subst e;rw[hu] at hjc;cases hjc;exact hfine
   ·exact hp j c om hjc
  ·refine wT 47 hfine ?_;refine wC (eQ o3.wf P) ?_;rintro r B4 ⟨rfl,P4,o4⟩;refine rU ?_;exact af rfl ⟨T2.same o4,.inl ⟨P4,fun k=>hfine (k.one i u hu)⟩⟩
 have hge:i=cs.length:=by
  omega
 subst hge;refine ay rfl ?_;have fine:∀j c,cs[j]?=some c→gV cs j c:=fun j c hj=>hp j c (List.getElem?_eq_some_iff.1 hj).1 hj;clear hp ih;refine gO ?_;obtain⟨fe,hc⟩:=P.cell;refine wJ hlv ?_;refine aE ?_;refine yL (pp 0 pc (.put 5 .aj (.put 6 .aj (pv 55 kv (pn 56 cs.length (pn 57 0 .nil)))))) ?_;refine aV (ι:=Nat×AV×AV) (fun i=>cs.length-i.1) (fun i=>(pp 0 pc (.put 5 i.2.1 (.put 6 i.2.2 (pv 55 kv (pn 56 cs.length (pn 57 i.1 .nil)))))))
  (fun i B=>ac A B (one pc)∧PH B M pc kv cs false∧i.1≤cs.length∧eH B 1 i.2.1 i.1 (ip (ei (cs.take i.1)))∧eH B 1 i.2.2 i.1 (ip (jO (cs.take i.1)))∧(∀g,i.2.1.av g→A.aa≤g∧¬i.2.2.av g)∧∀g,i.2.2.av g→A.aa≤g) ?_ (0,.aj,.aj) B ⟨T,P,Nat.zero_le _,.inl ⟨rfl,rfl,rfl⟩,.inl ⟨rfl,rfl,rfl⟩,fun g h=>h.elim,fun g h=>h.elim⟩
 clear T P hc;rintro ⟨i,v5,v6⟩ B ⟨T,P,hi,b5,b6,g5,g6⟩ ih;replace hi:i≤cs.length:=hi;replace b5:eH B 1 v5 i (ip (ei (cs.take i))):=b5;replace b6:eH B 1 v6 i (ip (jO (cs.take i))):=b6;replace g5:∀g,v5.av g→A.aa≤g∧¬v6.av g:=g5;replace g6:∀g,v6.av g→A.aa≤g:=g6;refine wD (fun hlt=>?_) fun hge=>?_
 ·have hlt:i<cs.length:=Int.ofNat_lt.1 hlt;have hu:cs[i]?=some cs[i]:=gE hlt;generalize hx:cs[i]=u at hu;have hum:u∈cs:=by rw[←hx];exact List.getElem_mem hlt
  obtain⟨f,s,o,cc,ex,ro,all,ku,hv,hh,_,hN,cw⟩:=P.tree.wi (i:=i) (u:=u) hu;obtain⟨fe,hc⟩:=P.cell;have hkv:=hN.fS;refine wI hv hlt ?_;refine zK hh ((cw 6 0 (Nat.le_refl _)).trans rfl) ?_;refine oP ?_;refine aq rfl rfl rfl ?_;refine oP ?_;refine zS (by rw[AW.add_get,iP rfl]) ?_;refine bG (fun B2=>ac B B2 ag∧B2.heap.get B.aa=some (.cells 0 false 6 (au u ku))) ⟨made T.wf,by rw[AW.aw,iP rfl];rfl⟩ ?_;rintro B2 ⟨o2,cu⟩;have hwB:=T.wf;have m0:=T.aa;generalize hfu:B.aa=fu at cu;replace P:=P.quiet o2;replace hN:=hN.k o2;have T2:ac A B2 (one pc):=T.same (o2.mono fun _ h=>h.elim);obtain⟨w,hw0⟩:∃w,u.l[0]?=some w:=⟨_,gE (h0 u hum)⟩;have ew:bZ u=w.s:=by unfold bZ;rw[aW hw0]
  obtain⟨fk,sk,ok,ck,ek,rk,ak,kw,hvk,hsk,hhk,hlk,Nk,hatk⟩:=bv hN hw0;have htx:=aR ((hatk 1 2 dE).trans rfl);have u5:∀g,v5.av g→g<fu:=fun g hg=>by rw[←hfu];exact b5.under hwB g hg
  have u6:∀g,v6.av g→g<fu:=fun g hg=>by rw[←hfu];exact b6.under hwB g hg
  replace b5:=b5.k o2;replace b6:=b6.k o2;have lu:=o2.wf _ _ cu;refine tD ?_;refine bW rfl rfl rfl rfl ?_;refine bq rfl rfl rfl ?_;refine bG (fun B3=>ac B2 B3 ag∧B3.heap.get B2.aa=some (.cells 0 false 1 [.str u.s])) ⟨ac.add o2.wf _,by rw[AW.add_get,iP rfl];rfl⟩ ?_;rintro B3 ⟨oM,cM⟩;refine oP ?_;generalize hfM:B2.aa=fM at cM ⊢;obtain⟨cu,hhk⟩:=oM.k2 cu hhk;replace b5:=b5.k oM;replace b6:=b6.k oM;replace P:=P.quiet oM;replace T2:=T2.same (oM.mono fun _ h=>h.elim);have lM:=oM.wf _ _ cM;refine dR ?_;refine ax rfl rfl rfl rfl rfl ?_;refine zI 0 hvk hlk ?_;refine eP ?_;refine rD ?_;refine aZ rfl rfl rfl rfl hhk (v:=.str w.s) htx ?_;refine eR ?_;refine bW rfl rfl rfl rfl ?_;refine bq rfl rfl rfl ?_;refine bG (fun B4=>ac B3 B4 ag∧B4.heap.get B3.aa=some (.cells 0 false 1 [.str w.s])) ⟨ac.add oM.wf _,by rw[AW.add_get,iP rfl];rfl⟩ ?_
  rintro B4 ⟨oN,cN⟩;refine oP ?_;generalize hfN:B3.aa=fN at cN ⊢;obtain⟨cu,cM,hhk⟩:=oN.k3 cu cM hhk;replace b5:=b5.k oN;replace b6:=b6.k oN;replace P:=P.quiet oN;replace T2:=T2.same (oN.mono fun _ h=>h.elim);have lN:=oN.wf _ _ cN;refine aC ?_;refine bE rfl rfl rfl rfl rfl (io (m:=1) (n:=i) (xs:=[.str u.s]) (x:=.slice fM 0 0 1 1 true) (de:=d9) rfl rfl rfl rfl oN.wf b5 (rQ cM rfl) rfl dE (cU om dE)) ?_;intro v5' B5 G;replace cu:=G.Fi.ae _ _ cu fun k=>by have:=u5 _ k;omega
  replace cN:=G.Fi.ae _ _ cN fun k=>by have:=u5 _ k;omega
  have hfk:¬v5.av fk:=fun k=>by have:=(g5 _ k).1;have:=Nk;omega
  replace hhk:=G.Fi.k hhk;replace b6:=b6.ae G.Fi fun g hg k=>(g5 g k).2 hg;have h5':∀g,v5'.av g→A.aa≤g∧¬v6.av g:=fun g hg=>(G.grow g hg).elim (g5 g) fun k=>by
   exact⟨om,fun z=>by have:=u6 g z;omega⟩
  have P5:PH B5 M pc kv cs false:=by
   obtain⟨fe,hc⟩:=P.cell;exact⟨⟨fe,G.Fi.ae _ _ hc fun k=>by have:=(g5 _ k).1;omega⟩,P.tree.ae G.Fi fun g hg k=>by have:=(g5 _ k).1;omega,P.le⟩
  refine sA ?_;refine aC ?_;refine bE rfl rfl rfl rfl rfl (io (m:=1) (n:=i) (xs:=[.str w.s]) (x:=.slice fN 0 0 1 1 true) (de:=d9) rfl rfl rfl rfl G.Fi.wf b6 (rQ cN rfl) rfl dE (cU om dE)) ?_;intro v6' B6 H;have m5:=G.Fi.aa;have h6':∀g,v6'.av g→A.aa≤g:=fun g hg=>(H.grow g hg).elim (g6 g) fun k=>by
   omega
  have u5':∀g,v5'.av g→g<B5.aa:=G.buf.under G.Fi.wf;refine sA ?_;refine aC ?_;refine sA ?_;refine aC ?_;refine sA ?_;refine eD ?_;refine wP ?_;refine ai ?_;refine yL (pp 0 pc (.put 5 v5' (.put 6 v6' (pv 55 kv (pn 56 cs.length (pn 57 (i+1:Nat) .nil)))))) ?_;refine ih (i+1,v5',v6') B6 (by simp only;omega) ⟨?_,?_,hlt,?_,?_,fun g hg=>⟨(h5' g hg).1,fun k=>(H.grow g k).elim (h5' g hg).2 fun k=>by have k:B5.aa≤g:=k;have:=u5' g hg;omega⟩,h6'⟩
  ·exact ac.Cn hw (ac.Cn hw T2 G.Fi fun g hg=>(g5 g hg).1) H.Fi g6
  ·obtain⟨fe,hc⟩:=P5.cell;exact⟨⟨fe,H.Fi.ae _ _ hc fun k=>by have:=g6 _ k;omega⟩,P5.tree.ae H.Fi fun g hg k=>by have:=g6 _ k;omega,P5.le⟩
  ·have:=G.buf.ae H.Fi fun g hg k=>(h5' g hg).2 k;unfold ei at this ⊢;rw[tS hlt,mA,dZ,hx];exact this
  ·have:=H.buf;unfold jO at this ⊢;rw[tS hlt,mA,dZ,hx];show eH B6 1 v6' (i+1) (_++[.str (bZ u)]);rw[ew];exact this
 have hge:i=cs.length:=by
  omega
 subst hge;refine ay rfl ?_;rw[tL] at b5 b6;have ln:(ei cs).length=cs.length:=lM _;have ls:(jO cs).length=cs.length:=lM _;rw[←ln] at b5;rw[←ls] at b6;replace b5:=b5.row;replace b6:=b6.row;replace g5:∀g,v5.av g→g≠pc:=fun g hg=>by have:=(g5 g hg).1;omega
 replace g6:∀g,v6.av g→g≠pc:=fun g hg=>by have:=g6 g hg;omega
 clear ih;obtain⟨fe,hc⟩:=P.cell;refine wJ hlv ?_;refine aE ?_;refine yL (pp 0 pc (pv 5 v5 (pv 6 v6 (pv 78 kv (pn 79 cs.length (pn 80 0 .nil)))))) ?_;refine aV (ι:=Nat) (fun i=>cs.length-i) (fun i=>(pp 0 pc (pv 5 v5 (pv 6 v6 (pv 78 kv (pn 79 cs.length (pn 80 i .nil)))))))
  (fun i B=>ac A B (one pc)∧PH B M pc kv cs false∧i≤cs.length∧Row B 1 v5 (ei cs).length (ip (ei cs))∧Row B 1 v6 (jO cs).length (ip (jO cs))∧∀j c,j<i→cs[j]?=some c→gg cs (bZ c)) ?_ 0 B ⟨T,P,Nat.zero_le _,b5,b6,fun j c hj _=>absurd hj (Nat.not_lt_zero _)⟩
 clear T P hc b5 b6;rintro i B ⟨T,P,hi,b5,b6,hp⟩ ih;refine wD (fun hlt=>?_) fun hge=>?_
 ·have hlt:i<cs.length:=Int.ofNat_lt.1 hlt;have hu:cs[i]?=some cs[i]:=gE hlt;generalize hx:cs[i]=u at hu;have hum:u∈cs:=by rw[←hx];exact List.getElem_mem hlt
  obtain⟨f,s,o,cc,ex,ro,all,ku,hv,hh,_,hN,cw⟩:=P.tree.wi (i:=i) (u:=u) hu;obtain⟨fe,hc⟩:=P.cell;have hkv:=hN.fS;refine wI hv hlt ?_;refine zK hh ((cw 6 0 (Nat.le_refl _)).trans rfl) ?_;refine oP ?_;refine aq rfl rfl rfl ?_;refine oP ?_;refine zS (by rw[AW.add_get,iP rfl]) ?_;refine bG (fun B2=>ac B B2 ag∧B2.heap.get B.aa=some (.cells 0 false 6 (au u ku))) ⟨made T.wf,by rw[AW.aw,iP rfl];rfl⟩ ?_;rintro B2 ⟨o2,cu⟩;generalize hfu:B.aa=fu at cu;replace P:=P.quiet o2;replace hN:=hN.k o2;have T2:ac A B2 (one pc):=T.same (o2.mono fun _ h=>h.elim);obtain⟨w,hw0⟩:∃w,u.l[0]?=some w:=⟨_,gE (h0 u hum)⟩;obtain⟨fk,sk,ok,ck,ek,rk,ak,kw,hvk,hsk,hhk,hlk,Nk,hatk⟩:=bv hN hw0;have hta:=aR ((hatk 1 1 dE).trans rfl);have hsup:(jO cs)[i]?=some (bZ u):=by unfold jO;rw[List.getElem?_map,hu];rfl
  replace b5:=b5.k o2;replace b6:=b6.k o2;obtain⟨f',t',o',cc',ex',ro',all',hv',hh',hlt',hat'⟩:=cZ b6 hsup;refine wI hv' hlt' ?_;refine wE hh' hat' ?_;refine sQ ?_;refine ce (fun l1 B4=>∃x,((pp 0 pc (pv 5 v5 (pv 6 v6 (pv 78 kv (pn 79 cs.length (pn 80 i (pb 111 x .nil))))))) : Kn).le l1∧ac B2 B4 (one pc)∧PH B4 M pc kv cs x∧x=!decide (gg cs (bZ u))) ?_ ?_
  ·intro k' hk';refine tD ?_;by_cases h1:bZ u=[]
   ·refine aL 92 false rfl (yF fun h=>h h1) ?_;refine dO ?_;refine ax rfl rfl rfl rfl rfl ?_;refine zI 0 hvk hlk ?_;refine eP ?_;refine dO ?_;refine rD ?_;refine aZ rfl rfl rfl rfl hhk (v:=.int .i64 w.a) hta ?_;refine eR ?_;refine dO ?_;refine aC ?_;refine sA ?_;refine dO ?_;refine aC ?_;refine zC rfl (eQ o2.wf P) ?_;rintro r B4 ⟨rfl,P4,o4⟩;refine sA ?_;refine aK ?_;exact hk' _ _ ⟨false,⟨rfl,rfl,rfl,rfl,rfl,rfl,congrArg (fun x=>some (AV.bool x)) (rfl),trivial⟩,o4,P4,by rw[yT (show gg cs (bZ u) from .inl h1)];rfl⟩
   refine aL 92 true rfl (yT h1) ?_;refine dR ?_;by_cases h2:bZ u=bB
   ·refine aL 96 false rfl (yF fun h=>h h2) ?_;refine dO ?_;refine ax rfl rfl rfl rfl rfl ?_;refine zI 0 hvk hlk ?_;refine eP ?_;refine dO ?_;refine rD ?_;refine aZ rfl rfl rfl rfl hhk (v:=.int .i64 w.a) hta ?_;refine eR ?_;refine dO ?_;refine aC ?_;refine sA ?_;refine dO ?_;refine aC ?_;refine zC rfl (eQ o2.wf P) ?_;rintro r B4 ⟨rfl,P4,o4⟩;refine sA ?_;refine aK ?_;exact hk' _ _ ⟨false,⟨rfl,rfl,rfl,rfl,rfl,rfl,congrArg (fun x=>some (AV.bool x)) (rfl),trivial⟩,o4,P4,by rw[yT (show gg cs (bZ u) from .inr (.inl h2))];rfl⟩
   refine aL 96 true rfl (yT h2) ?_;refine dR ?_;by_cases h3:bZ u=cV
   ·refine aL 100 false rfl (yF fun h=>h h3) ?_;refine dO ?_;refine ax rfl rfl rfl rfl rfl ?_;refine zI 0 hvk hlk ?_;refine eP ?_;refine dO ?_;refine rD ?_;refine aZ rfl rfl rfl rfl hhk (v:=.int .i64 w.a) hta ?_;refine eR ?_;refine dO ?_;refine aC ?_;refine sA ?_;refine dO ?_;refine aC ?_;refine zC rfl (eQ o2.wf P) ?_;rintro r B4 ⟨rfl,P4,o4⟩;refine sA ?_;refine aK ?_;exact hk' _ _ ⟨false,⟨rfl,rfl,rfl,rfl,rfl,rfl,congrArg (fun x=>some (AV.bool x)) (rfl),trivial⟩,o4,P4,by rw[yT (show gg cs (bZ u) from .inr (.inr (.inl h3)))];rfl⟩
   refine aL 100 true rfl (yT h3) ?_;refine dO ?_;refine ax rfl rfl rfl rfl rfl ?_;refine zI 0 hvk hlk ?_;refine eP ?_;refine dO ?_;refine rD ?_;refine aZ rfl rfl rfl rfl hhk (v:=.int .i64 w.a) hta ?_;refine eR ?_;refine dO ?_;refine aC ?_;refine zC rfl (iz b5 om) ?_;rintro r B3 ⟨rfl,e3⟩;obtain rfl:B2=B3:=e3.symm;refine sA ?_;refine dO ?_;refine aC ?_;refine zC rfl (eQ o2.wf P) ?_;rintro r B4 ⟨rfl,P4,o4⟩;refine sA ?_;refine aK ?_;exact hk' _ _ ⟨!decide (bZ u∈ei cs),⟨rfl,rfl,rfl,rfl,rfl,rfl,congrArg (fun x=>some (AV.bool x)) (Bool.or_false _),trivial⟩,o4,by rw[Bool.or_false] at P4;exact P4,congrArg not (decide_eq_decide.2 ⟨fun h=>.inr (.inr (.inr h)),fun h=>((h.resolve_left h1).resolve_left h2).resolve_left h3⟩)⟩
  rintro l1 B4 ⟨x,hl,o4,P4,hx⟩;refine bY (pp 0 pc (pv 5 v5 (pv 6 v6 (pv 78 kv (pn 79 cs.length (pn 80 i (pb 111 x .nil))))))) ?_ hl;replace b5:=b5.ae o4 fun g hg e=>g5 g hg e;replace b6:=b6.ae o4 fun g hg e=>g6 g hg e;by_cases hok:gg cs (bZ u)
  ·rw[yT hok] at hx;have hx:x=false:=hx;subst hx;refine rU ?_;refine wP ?_;refine ai ?_;refine yL (pp 0 pc (pv 5 v5 (pv 6 v6 (pv 78 kv (pn 79 cs.length (pn 80 (i+1:Nat) .nil)))))) ?_;refine ih  (i+1) B4 om ⟨T2.same o4,P4,hlt,b5,b6,fun j c hj hjc=>?_⟩;by_cases e:j=i
   ·subst e;rw[hu] at hjc;cases hjc;exact hok
   ·exact hp j c om hjc
  ·rw[yF hok] at hx;have hx:x=true:=hx;subst hx;refine rU ?_;exact af rfl ⟨T2.same o4,.inl ⟨P4,fun k=>hok (k.sup u hum)⟩⟩
 have hge:i=cs.length:=by
  omega
 subst hge;refine ay rfl ?_;have sup:∀c∈cs,gg cs (bZ c):=fun c hc=>by
  obtain⟨j,hj,hx⟩:=List.getElem_of_mem hc;exact hp j c hj (by rw[gE hj,hx])
 clear hp ih;obtain⟨fe,hc⟩:=P.cell;refine wJ hlv ?_;refine aE ?_;refine yL (pp 0 pc (pv 5 v5 (pv 6 v6 (pv 116 kv (pn 117 cs.length (pn 118 0 .nil)))))) ?_;refine aV (ι:=Nat) (fun i=>cs.length-i) (fun i=>(pp 0 pc (pv 5 v5 (pv 6 v6 (pv 116 kv (pn 117 cs.length (pn 118 i .nil)))))))
  (fun i B=>ac A B (one pc)∧PH B M pc kv cs false∧i≤cs.length∧Row B 1 v5 (ei cs).length (ip (ei cs))∧Row B 1 v6 (jO cs).length (ip (jO cs))∧∀j c,j<i→cs[j]?=some c→jU cs (cs.length+1) c.s=false) ?_ 0 B ⟨T,P,Nat.zero_le _,b5,b6,fun j c hj _=>absurd hj (Nat.not_lt_zero _)⟩
 clear T P hc b5 b6;rintro i B ⟨T,P,hi,b5,b6,hp⟩ ih;refine wD (fun hlt=>?_) fun hge=>?_
 ·have hlt:i<cs.length:=Int.ofNat_lt.1 hlt;have hu:cs[i]?=some cs[i]:=gE hlt;generalize hx:cs[i]=u at hu;have hum:u∈cs:=by rw[←hx];exact List.getElem_mem hlt
  obtain⟨f,s,o,cc,ex,ro,all,ku,hv,hh,_,hN,cw⟩:=P.tree.wi (i:=i) (u:=u) hu;obtain⟨fe,hc⟩:=P.cell;refine wI hv hlt ?_;refine zK hh ((cw 6 0 (Nat.le_refl _)).trans rfl) ?_;refine oP ?_;refine aq rfl rfl rfl ?_;refine oP ?_;refine zS (by rw[AW.add_get,iP rfl]) ?_;refine bG (fun B2=>ac B B2 ag∧B2.heap.get B.aa=some (.cells 0 false 6 (au u ku))) ⟨made T.wf,by rw[AW.aw,iP rfl];rfl⟩ ?_;rintro B2 ⟨o2,cu⟩;generalize hfu:B.aa=fu at cu;replace P:=P.quiet o2;have T2:ac A B2 (one pc):=T.same (o2.mono fun _ h=>h.elim);have hnam:(ei cs)[i]?=some u.s:=by unfold ei;rw[List.getElem?_map,hu];rfl
  replace b5:=b5.k o2;replace b6:=b6.k o2;obtain⟨f',t',o',cc',ex',ro',all',hv',hh',hlt',hat'⟩:=cZ b5 hnam;refine tD ?_;refine ax rfl rfl rfl rfl rfl ?_;refine zI i hv' hlt' ?_;refine eP ?_;refine rD ?_;refine zE hh' hat' ?_;refine eR ?_;refine aC ?_;refine zC rfl (yh b5 b6 hl9) ?_;rintro r B3 ⟨rfl,e3⟩;obtain rfl:B2=B3:=e3.symm;refine sA ?_;refine aC ?_;refine zC rfl (eQ o2.wf P) ?_;rintro r B4 ⟨rfl,P4,o4⟩;replace b5:=b5.ae o4 fun g hg e=>g5 g hg e;replace b6:=b6.ae o4 fun g hg e=>g6 g hg e;refine sA ?_;refine aK ?_;cases hr:jU cs (cs.length+1) u.s with
  | false=>
   rw[hr] at P4;refine rU ?_;refine wP ?_;refine ai ?_;refine yL (pp 0 pc (pv 5 v5 (pv 6 v6 (pv 116 kv (pn 117 cs.length (pn 118 (i+1:Nat) .nil)))))) ?_;refine ih  (i+1) B4 om ⟨T2.same o4,P4,hlt,b5,b6,fun j c hj hjc=>?_⟩;by_cases e:j=i
   ·subst e;rw[hu] at hjc;cases hjc;exact hr
   ·exact hp j c om hjc
  | true=>
   rw[hr] at P4;refine rU ?_;exact af rfl ⟨T2.same o4,.inl ⟨P4,fun k=>by
    have:=k.rnd u hum;rw[hr] at this;cases this⟩⟩
 have hge:i=cs.length:=by
  omega
 subst hge;refine ay rfl ?_;have hok:gW cs:=⟨fine,sup,fun c hc=>by
  obtain⟨j,hj,hx⟩:=List.getElem_of_mem hc;exact hp j c hj (by rw[gE hj,hx])⟩
 refine wC (EN T.wf b5 b6) ?_;rintro r B2 ⟨o2,hr⟩;rw[pW hok hn] at hr;rcases hr with ⟨hr,_⟩|⟨_,fr,fm,vn,rfl,H⟩
 ·exact absurd rfl hr
 replace P:=P.quiet o2;obtain⟨fe,hc⟩:=P.cell;refine gO ?_;refine zS hc ?_;have op:=ac.put (x:=.cells 0 false 3 [kv,.ptr fr 0 0,eV false fe]) o2.wf (o2.wf _ _ hc);refine gO ?_;have n1:fr≠pc:=fun e=>by have:=H.cell;rw[e,hc] at this;cases this
 have n2:fm≠pc:=fun e=>by have:=H.map;rw[e,hc] at this;cases this
 have n3:¬vn.av pc:=fun e=>by
  obtain⟨t,ht⟩:=fj H.buf e;rw[hc] at ht;cases ht
 exact bd rfl ⟨(T.same (o2.mono fun _ h=>h.elim)).same op,.inr ⟨hok,fr,fm,vn,⟨⟨fe,by rw[AW.aw,iP rfl]⟩,P.tree.ae op fun g hg e=>by cases e;omega,H.ny op n1 n2 fun g hg e=>n3 (by cases e;exact hg),wz hok hn hs,hM,n1,n2,n3,h0,hm⟩⟩⟩
section
variable{E:Env}{C:bC}{all rest:List Oper}{l:Kn}{K:Kn→AW→Prop}{n f:Nat}{cs cs0:List AV}{A A1:AW}{X:BX}{b b0 b1:Bool}
theorem wB(hw:Wf A)(h:PC A X b0)(T:ir A A1 X b b1)(hf:A1.aa=f)(g:∀A2,A.aa≤f→f≠X.pc→ac A1 A2 ag→A2.heap.get f=some (.cells 0 false n cs)→ir A A2 X b b1→WO E C all rest l A2 K): WO E C all rest l (A1.add (.cells 0 false n cs)) K:=by
 subst hf;have h1:=T.Fi.aa;have h2:=h.lt hw;have o:ac A1 (A1.add (.cells 0 false n cs)) ag:=ac.add T.Fi.wf _;exact g _ h1 om o (by rw[AW.add_get,iP rfl]) (T.quiet o)
theorem gX(hw:Wf A)(h:PC A X b0)(T:ir A A1 X b b1)(hf:A1.aa=f)(g:∀A2,A.aa≤f→f≠X.pc→ac A1 A2 ag→A2.heap.get f=some (.cells 0 false n cs)→ir A A2 X b b1→WO E C all rest l A2 K): WO E C all rest l ((A1.add (.cells 0 false n cs0)).put f (.cells 0 false n cs)) K:=by
 subst hf;have h1:=T.Fi.aa;have h2:=h.lt hw;have o:ac A1 _ ag:=made (es:=n) (cs:=cs0) (cs':=cs) T.Fi.wf;exact g _ h1 om o (by rw[AW.aw,iP rfl]) (T.quiet o)
end
theorem Af{E:Env}{A:AW}{t e:TypeId}{d de:bH}{z:List AV}{x:AV}{m:Nat}{xs:List AV}(ht:E.cf.get t=some d)(hs:d.desc=.slice e)(he:E.cf.get e=some de)(hz:de.zero=some z)
 (hw:Wf A) (hx:kl (A.add (.cells 0 false de.size [])) de.size x=some (m,xs)) (hl:xs.length=m*de.size) (h1:1≤de.size) (h0:0<m) (hr:eL (0+m) de.bytes=true) :
 ∃v' A1,dP E t (.slice A.aa 0 0 0 0 true) x (A.add (.cells 0 false de.size []))=.val v' A1∧eH A1 de.size v' m xs∧ac A A1 ag∧ge A ag v'.av:=by
 have o1:ac A (A.add (.cells 0 false de.size [])) ag:=ac.add hw _;have o2:ac (A.add (.cells 0 false de.size [])) ((A.add (.cells 0 false de.size [])).add (.cells 0 false de.size xs)) ag:=ac.add o1.wf _;have e0:Nat.beq m 0=false:=by rw[beq_eq];exact yF om
 have e1:Nat.ble 1 de.size=true:=Nat.ble_eq_true_of_le h1;have e2:Nat.ble (Nat.add 0 m) 0=false:=by
  rw[cT];exact yF (by show ¬0+m≤0;omega)
 have g3:(A.add (.cells 0 false de.size [])).heap.get A.aa=some (.cells 0 false de.size []):=by rw[AW.add_get,iP rfl]
 have hr':eL (Nat.add 0 m) de.bytes=true:=hr;have e3:takeN (Nat.mul 0 de.size) (aB 0 ([]:List AV))=some []:=by
  rw[show Nat.mul 0 de.size=0 from Nat.zero_mul _];rfl
 refine⟨.slice (A.add (.cells 0 false de.size [])).aa 0 0 (Nat.add 0 m) (Nat.add 0 m) false,(A.add (.cells 0 false de.size [])).add (.cells 0 false de.size xs),?_,.inr ⟨_,0,by rw[show Nat.add 0 m=m from Nat.zero_add m],by rw[AW.add_get,iP rfl],hl,h0⟩,o1.same o2,fun g hg=>.inr ?_⟩
 ·unfold dP;simp only[ht,hs,he,hz,hx,e0,cond_false,e1,cond_true,gr,g3,Nat.beq_refl,Bool.and_self,e2,hr',e3];rfl
 ·cases hg;exact o1.aa
theorem yj{K:FuncId}{A:AW}{S:Nat→Prop}{ts:List Nd}{v:AV}(hw:Wf A)(h:aI A S (jT ts) v)(h0:0<ts.length):
 aD (ES K) 103 [v] A fun r A1=>(∃cs,eH A1 6 r ts.length cs∧lz A1 S ts cs)∧ac A A1 ag∧∀g,r.av g→A.aa≤g:=by
 have hl9:ts.length≤9000:=h.len;cases h with
 | mk hr h2 h3 h4=>
 rename_i cs;have hr:Row A 6 v ts.length cs:=hr;obtain⟨f,t,o,c,ex,ro,all,e0,hh,cw⟩:=hr.at h0;refine ap rfl rfl rfl ?_;refine gO ?_;refine bL (a:=.slice f t o ts.length c ex) (b:=.aj) (v:=.bool false) rfl (congrArg some e0) rfl rfl ?_;refine rU ?_;refine bE rfl rfl rfl rfl rfl (Af (de:=d26) (m:=ts.length) rfl rfl rfl rfl hw ((hr.ae (ac.add hw ag) fun _ _ h=>h).src) hr.length dE h0 (tJ om dE)) ?_;rintro r A1 ⟨b1,b2,b3⟩;refine gO ?_;exact af rfl ⟨⟨cs,b1,h4.ae b2 fun _ _ h=>h⟩,b2,fun g hg=>(b3 g hg).elim (fun h=>h.elim) fun h=>h⟩
def kq(m:Nd): List Nd:=if m.k=4 then ba m::(params m).map ba else [ba m]
def yk(hs:Hs)(m:Nd): Bool:=(kq m).all fun t=>decide (there hs (named t.s))
set_option maxHeartbeats 4000000 in
theorem Ag{K:FuncId}{A:AW}{X:BX}{b:Bool}{m:Nd}{kv:AV}(hw:Wf A)(h:PC A X b)(N:aI A (fun g=>g<X.M) m kv)(hm:jK m):
 aD (ES K) 78 [.ptr X.pc 0 0,.agg (au m kv)] A fun r A1=>∃b1,ir A A1 X b b1∧(b=false→b1=!yk X.hs m):=by
 refine ap rfl rfl rfl ?_;have T:=ir.refl hw h;have hlp:=h.lt hw;have hM:=h.le;refine gO ?_;have h0:=hm.1;refine bA rfl rfl rfl rfl ?_;generalize hf3:A.aa=f3;refine wB (n:=6) (cs:=au m kv) hw h T hf3 ?_;intro A1 x3 p3 o1 c3 T;replace N:=N.k o1;have l1:=T.Fi.wf _ _ c3;refine gO ?_;refine bQ (Q:=fun r=>aI A1 (fun g=>g<X.M) (jT (m.l.take 1)) r) rfl rfl rfl rfl rfl (wA N h0 h0) ?_;intro v4 N4;refine gO ?_;obtain⟨w0,hw0⟩:∃w,m.l[0]?=some w:=⟨_,gE h0⟩;have ek:m.l.take 1=[ba m]:=by
  rw[aW hw0,tS h0];rw[gE h0,Option.some.injEq] at hw0;rw[hw0];rfl
 rw[ek] at N4;refine sQ ?_;refine ce (fun l1 B=>∃v,(pp 0 X.pc (pv 4 v .nil)).le l1∧ac A1 B ag∧aI B (fun g=>g<X.M∨A.aa≤g) (jT (kq m)) v) ?_ ?_
 ·intro k' hk';refine zG (fun k4=>?_) fun k4=>?_
  ·have k4:m.k=4:=k4;have hp:=hm.2 k4;have et:kq m=ba m::(params m).map ba:=iP k4;refine wC (yj (ts:=[ba m]) T.Fi.wf N4 (Nat.succ_pos _)) ?_;rintro r A2 ⟨⟨cs,b4,n4⟩,o2,g4⟩;replace c3:=o2.k c3;replace N:=N.k o2;refine wL c3 ?_;refine zC rfl (dH o2.wf N hp.1) ?_;rintro r18 A3 ⟨N18,o3⟩;have hlv:bm r18=some (params m).length:=N18.bm;have hl9:(params m).length≤9000:=N18.len;have hpl:=jL hp.1;have hml:=N.len;refine wJ hlv ?_;refine aE ?_;refine yL (pp 0 X.pc (pv 4 r (pv 18 r18 (pn 19 ((params m).length) (pn 20 0 .nil))))) ?_;refine aV (ι:=Nat×AV) (fun i=>(params m).length-i.1) (fun i=>(pp 0 X.pc (.put 4 i.2 (pv 18 r18 (pn 19 ((params m).length) (pn 20 i.1 .nil))))))
    (fun i B=>ac A1 B ag∧i.1≤(params m).length∧aI B (fun g=>g<X.M) (jT (params m)) r18∧(∃cs,eH B 6 i.2 (i.1+1) cs∧lz B (fun g=>g<X.M) (ba m::((params m).take i.1).map ba) cs)∧∀g,i.2.av g→A1.aa≤g) ?_ (0,r) A3 ⟨o2.same o3,Nat.zero_le _,N18,⟨cs,b4.ae o3 fun _ _ h=>h,n4.ae o3 fun _ _ h=>h⟩,g4⟩
   rintro ⟨i,v⟩ B ⟨oB,hi,N18,⟨cs,b4,n4⟩,g4⟩ ih;replace hi:i≤(params m).length:=hi;replace b4:eH B 6 v (i+1) cs:=b4;replace n4:lz B (fun g=>g<X.M) (ba m::((params m).take i).map ba) cs:=n4;replace g4:∀g,v.av g→A1.aa≤g:=g4;refine wD (fun hlt=>?_) fun hge=>?_
   ·have hlt:i<(params m).length:=Int.ofNat_lt.1 hlt;have hu:(params m)[i]?=some (params m)[i]:=gE hlt;generalize hx:(params m)[i]=u at hu;have hum:u∈params m:=by rw[←hx];exact List.getElem_mem hlt
    obtain⟨f,s,o,cc,ex,ro,all,ku,hv,hh,_,hN,cw⟩:=N18.wi (i:=i) (u:=u) hu;refine wI hv hlt ?_;refine zK hh ((cw 6 0 (Nat.le_refl _)).trans rfl) ?_;refine oP ?_;refine zM (n:=6) (y:=au u ku) oB.wf ?_;intro B2 oB2 c6;generalize B.aa=f6 at c6;obtain⟨w,hw0⟩:∃w,u.l[0]?=some w:=⟨_,gE (hp.2 u hum)⟩;obtain⟨fk,sk,ok,ck,ek,rk,ak,kw,hvk,hsk,hhk,hlk,Nk,hatk⟩:=bv (hN.ae oB2 fun _ _ h=>h) hw0;refine wI hvk hlk ?_;refine zK hhk ((hatk 6 0 (Nat.le_refl _)).trans rfl) ?_;refine oP ?_;refine bE rfl rfl rfl rfl rfl (cH (n:=i+1) (de:=d26) rfl rfl rfl rfl oB2.wf (b4.ae oB2 fun _ _ h=>h) rfl dE (tJ om dE)) ?_;intro v' B3 G;have n4':=((n4.ae oB2 fun _ _ h=>h).snoc Nk).ae G.Fi fun g hg k=>by
     have:=g4 g k;omega
    refine wP ?_;refine ai ?_;refine yL (pp 0 X.pc (.put 4 v' (pv 18 r18 (pn 19 ((params m).length) (pn 20 (i+1:Nat) .nil))))) ?_;refine ih (i+1,v') B3 (by simp only;omega) ⟨ac.fresh T.Fi.wf (oB.same oB2) G.Fi g4,hlt,(N18.ae oB2 fun _ _ h=>h).ae G.Fi (fun g hg k=>by have:=g4 g k;omega),⟨_,G.buf,?_⟩,fun g hg=>(G.grow g hg).elim (g4 g) fun k=>Nat.le_trans (oB.same oB2).aa k⟩;rw[tS hlt,hx,mA];show lz B3 _ (ba m::(_++[ba u])) _;rw[aW hw0];exact n4'
   ·have hge:i=(params m).length:=by
     omega
    refine ay rfl ?_;rw[hge,tL] at n4;refine sQ ?_;refine hk' _ _ ⟨v,⟨rfl,rfl,trivial⟩,oB,?_⟩;rw[et];refine .mk (cs:=cs) ?_ (fun g hg=>.inr (by have:=g4 g hg;omega)) ?_ (n4.mono fun g hg _=>.inl hg)
    ·have:=b4.row;rw[hge] at this;show Row B 6 v ((ba m::(params m).map ba).length) cs;rw[lC,lM];exact this
    ·show (ba m::(params m).map ba).length≤9000;rw[lC,lM];omega
  ·have k4:¬m.k=4:=k4;have et:kq m=[ba m]:=iN k4;refine sQ ?_;refine hk' _ _ ⟨v4,⟨rfl,rfl,trivial⟩,ac.refl T.Fi.wf _,?_⟩;rw[et];exact N4.mono fun g hg _=>.inl hg
 rintro l1 B ⟨v,hl,oB,NB⟩;refine bY (pp 0 X.pc (pv 4 v .nil)) ?_ hl;replace T:=T.quiet oB;have hlv:bm v=some (kq m).length:=NB.bm;have hl9:(kq m).length≤9000:=NB.len;clear N N4 c3 hl;refine wJ hlv ?_;refine aE ?_;refine yL (pp 0 X.pc (pv 32 v (pn 33 ((kq m).length) (pn 34 0 .nil)))) ?_;refine aV (ι:=Nat×Bool) (fun i=>(kq m).length-i.1) (fun i=>(pp 0 X.pc (pv 32 v (pn 33 ((kq m).length) (pn 34 i.1 .nil)))))
  (fun i B2=>ir A B2 X b i.2∧i.1≤(kq m).length∧aI B2 (fun g=>g<X.M∨A.aa≤g) (jT (kq m)) v∧(b=false→i.2=!((kq m).take i.1).all fun t=>decide (there X.hs (named t.s)))) ?_ (0,b) B ⟨T,Nat.zero_le _,NB,fun h=>h⟩
 clear T NB;rintro ⟨i,b1⟩ A0 ⟨T,hi,N,hz⟩ ih;replace T:ir A A0 X b b1:=T;replace hi:i≤(kq m).length:=hi;replace hz:b=false→b1=!((kq m).take i).all fun t=>decide (there X.hs (named t.s)):=hz;refine wD (fun hlt=>?_) fun hge=>?_
 ·have hlt:i<(kq m).length:=Int.ofNat_lt.1 hlt;have hu:(kq m)[i]?=some (kq m)[i]:=gE hlt;generalize hx:(kq m)[i]=u at hu;obtain⟨f,s,o,cc,ex,ro,all,ku,hv,hh,_,hN,cw⟩:=N.wi (i:=i) (u:=u) hu;refine wI hv hlt ?_;refine zK hh ((cw 6 0 (Nat.le_refl _)).trans rfl) ?_;refine oP ?_;refine aq rfl rfl rfl ?_;refine zS (by rw[AW.add_get,iP rfl]) ?_;generalize hf8:A0.aa=f8;refine gX (n:=6) (cs:=au u ku) hw h T hf8 ?_;intro A1 x8 p8 o1 c8 T;replace N:=N.k o1;refine tD ?_;refine aC ?_;refine zC rfl (ee T.Fi.wf) ?_;rintro r2 A2 ⟨rfl,o2⟩;replace T:=T.quiet o2;replace c8:=o2.k c8;replace N:=N.k o2;refine sA ?_;refine aC ?_;refine zC rfl (mn T.Fi.wf T.ps) ?_;rintro r3 A3 ⟨rfl,o3⟩;replace T:=T.quiet o3;replace c8:=o3.k c8;replace N:=N.k o3;refine sA ?_;refine aC ?_;refine zC rfl (bP T.Fi.wf T.ps) ?_;rintro r A4 ⟨rfl,t4⟩;replace T:=T.then t4
  replace N:=N.k t4.Fi;refine sA ?_;refine eD ?_;refine wP ?_;refine ai ?_;refine yL (pp 0 X.pc (pv 32 v (pn 33 ((kq m).length) (pn 34 (i+1:Nat) .nil)))) ?_;refine ih (i+1,_) A4 (by simp only;omega) ⟨T,hlt,N,fun hb=>?_⟩;rw[tS hlt,hx,List.all_append,hz hb,Bool.not_and,Bool.or_comm];simp only[List.all_cons,List.all_nil,Bool.and_true];cases decide (there X.hs (named u.s))<;>rfl
 ·have hge:i=(kq m).length:=by
   omega
  rw[hge,tL] at hz;refine ay rfl ?_;refine gO ?_;exact bd rfl ⟨b1,T,hz⟩
end Go.Proofs.YtafamggbkobcfaaGreat.Ae
