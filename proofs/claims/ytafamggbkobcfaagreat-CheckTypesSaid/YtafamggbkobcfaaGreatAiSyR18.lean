/- A part of the proof of the statement CheckTypes. -/
import Derived.Test.YtafamggbkobcfaaGreatAiSyR16
namespace Go.Proofs.YtafamggbkobcfaaGreat.Ae
open Go.AE
set_option linter.unusedVariables false
set_option maxRecDepth 100000
theorem un_fst(l:Vs): (l.map un).map Prod.fst=l.map Prod.fst:=by
 rw[List.map_map];rfl
theorem Eb(m:Nd): (cL m).map Prod.fst=(params m).map Nd.s:=by
 unfold cL;rw[List.map_map];rfl
set_option maxHeartbeats 4000000 in
theorem yw{K:FuncId}{A:AW}{Y:DY}{b:Bool}{cls:Str}{m:Nd}{km:AV}(hw:Wf A)(h:DC A Y b)(N:aI A (fun g=>g<Y.X.M) m km)(hp:2≤m.l.length∧∀p∈params m,0<p.l.length)(hcls:named cls=(4,cls))(hd:b=false→((params m).map Nd.s).Nodup):
 aD (ES K) 10 [.ptr Y.X.dc 0 0,.str cls,.agg (au m km)] A fun r A1=>ac A A1 (one Y.X.dc)∧∃vv,DC A1 ⟨Y.X,cls,m,km,vv,(cL m).map un,0⟩ b∧∀g,vv.av g→A.aa≤g:=by
 refine ap rfl rfl rfl ?_;have hlp:=h.lt hw;have hM:=h.le;obtain⟨a0,hc⟩:=h.cell;unfold DY.more at hc;have hst:=N.bh;refine gO ?_;refine zB (n:=6) (y:=au m km) hw ?_;intro A1 o1 c5;have l5:=o1.wf _ _ c5;generalize hf5:A.aa=f5 at c5 l5;replace hc:=o1.k hc;replace N:=N.k o1;have T:ac A A1 (one Y.X.dc):=o1.mono fun _ h=>h.elim;refine tD ?_;refine rD ?_;refine zL c5 ?_;refine eR ?_;refine aC ?_;refine zS hc ?_;refine bG (fun A2=>ac A1 A2 (one Y.X.dc)∧A2.heap.get Y.X.dc=some (.cells 0 false 18 (au Y.X.t Y.X.kv++(.ptr Y.X.fr 0 0::.bool b::.int .i64 a0::.str cls::(au Y.mt Y.mv++[Y.vv,.int .i64 (Y.nl:Int)]))))) ⟨ac.put o1.wf (o1.wf _ _ hc),by rw[AW.aw,iP rfl];rfl⟩ ?_;clear hc;rintro A2 ⟨o2,hc⟩;replace c5:=o2.k c5;replace N:=N.k o2;replace T:=T.same o2;refine sA ?_;refine aC ?_;refine zS hc ?_
 refine bG (fun A3=>ac A2 A3 (one Y.X.dc)∧A3.heap.get Y.X.dc=some (.cells 0 false 18 (au Y.X.t Y.X.kv++(.ptr Y.X.fr 0 0::.bool b::.int .i64 a0::.str cls::(au m km++[Y.vv,.int .i64 (Y.nl:Int)]))))) ⟨ac.put o2.wf (o2.wf _ _ hc),by rw[AW.aw,iP rfl];rfl⟩ ?_;clear hc;rintro A3 ⟨o3,hc⟩;replace c5:=o3.k c5;replace N:=N.k o3;replace T:=T.same o3;refine sA ?_;refine aC ?_;refine zS hc ?_;refine bG (fun A4=>ac A3 A4 (one Y.X.dc)∧A4.heap.get Y.X.dc=some (.cells 0 false 18 (au Y.X.t Y.X.kv++(.ptr Y.X.fr 0 0::.bool b::.int .i64 a0::.str cls::(au m km++[.aj,.int .i64 (Y.nl:Int)]))))) ⟨ac.put o3.wf (o3.wf _ _ hc),by rw[AW.aw,iP rfl];rfl⟩ ?_;clear hc;rintro A4 ⟨o4,hc⟩;replace c5:=o4.k c5;replace N:=N.k o4;replace T:=T.same o4;refine sA ?_;refine aC ?_;refine zS hc ?_
 refine bG (fun A5=>ac A4 A5 (one Y.X.dc)∧A5.heap.get Y.X.dc=some (.cells 0 false 18 (au Y.X.t Y.X.kv++(.ptr Y.X.fr 0 0::.bool b::.int .i64 a0::.str cls::(au m km++[.aj,.int .i64 (0:Int)]))))) ⟨ac.put o4.wf (o4.wf _ _ hc),by rw[AW.aw,iP rfl];rfl⟩ ?_;clear hc;rintro A5 ⟨o5,hc⟩;replace c5:=o5.k c5;replace N:=N.k o5;replace T:=T.same o5;refine sA ?_;refine aK ?_;clear o2 o3 o4 o5;refine wL c5 ?_;refine zC rfl (fQ T.wf N hp.1) ?_;rintro r9 A6 ⟨N9,o6⟩;replace hc:=o6.k hc;replace N:=N.k o6;replace T:=T.same (o6.mono fun _ h=>h.elim);clear o6;have hlv:bm r9=some (params m).length:=N9.bm;have hl9:(params m).length≤9000:=N9.len;refine gO ?_;refine aE ?_;refine yL (pp 0 Y.X.dc (pv 6 r9 (pn 7 0 .nil))) ?_;refine aV (ι:=Nat×AV) (fun i=>(params m).length-i.1) (fun i=>pp 0 Y.X.dc (pv 6 r9 (pn 7 i.1 .nil)))
  (fun i B=>ac A B (one Y.X.dc)∧i.1≤(params m).length∧B.heap.get Y.X.dc=some (.cells 0 false 18 (au Y.X.t Y.X.kv++(.ptr Y.X.fr 0 0::.bool b::.int .i64 a0::.str cls::(au m km++[i.2,.int .i64 (0:Int)]))))∧aI B (fun g=>g<Y.X.M) m km∧aI B (fun g=>g<Y.X.M) (jT (params m)) r9∧eH B 4 i.2 i.1 ((((params m).take i.1).map fun p=>un (p.s,first p)).flatMap nE)∧∀g,i.2.av g→A.aa≤g) ?_ (0,.aj) A6 ⟨T,Nat.zero_le _,hc,N,N9,.inl ⟨rfl,rfl,rfl⟩,fun g h=>h.elim⟩
 clear T hc N N9 c5;rintro ⟨i,vv⟩ B ⟨T,hi,hc,N,N9,hb,hf⟩ ih;replace hi:i≤(params m).length:=hi;replace hc:B.heap.get Y.X.dc=some (.cells 0 false 18 (au Y.X.t Y.X.kv++(.ptr Y.X.fr 0 0::.bool b::.int .i64 a0::.str cls::(au m km++[vv,.int .i64 (0:Int)])))):=hc;replace hb:eH B 4 vv i ((((params m).take i).map fun p=>un (p.s,first p)).flatMap nE):=hb;replace hf:∀g,vv.av g→A.aa≤g:=hf;have mB:=T.aa;refine wJ hlv ?_;refine zG (fun hlt=>?_) fun hge=>?_
 ·have hlt:i<(params m).length:=Int.ofNat_lt.1 hlt;have hu:(params m)[i]?=some (params m)[i]:=gE hlt;generalize hx:(params m)[i]=u at hu;have hum:u∈params m:=by rw[←hx];exact List.getElem_mem hlt
  obtain⟨w,hw0⟩:∃w,u.l[0]?=some w:=⟨_,gE (hp.2 u hum)⟩;have ef:first u=named w.s:=by unfold first;rw[aW hw0]
  obtain⟨f,s,o,cc,ex,ro,all,ku,hv,hs',hh,hl,hN,cw⟩:=bv N9 hu;have htx:=aR ((cw 1 2 dE).trans rfl);have htk:=aR ((cw 1 5 dE).trans rfl);obtain⟨fk,sk,ok,ck,ek,rk,ak,kw,hvk,hsk,hhk,hlk,Nk,hatk⟩:=bv hN hw0;have hkx:=aR ((hatk 1 2 dE).trans rfl);have hva:dC vv vv=true:=(eH.cap (A:=B) (es:=4) hb).avs;refine wG ?_;refine tD ?_;refine ax rfl rfl rfl rfl rfl ?_;refine zI i hv hl ?_;refine eP ?_;refine rD ?_;refine aZ rfl rfl rfl rfl hh (v:=.str u.s) htx ?_;refine eR ?_;refine dR ?_;refine ax rfl rfl rfl rfl rfl ?_;refine zI i hv hl ?_;refine eP ?_;refine rD ?_;refine aZ rfl rfl rfl rfl hh (v:=ku) htk ?_;refine eR ?_;refine dR ?_;refine ax rfl rfl rfl rfl rfl ?_;refine zI 0 hvk hlk ?_;refine eP ?_;refine rD ?_;refine aZ rfl rfl rfl rfl hhk (v:=.str w.s) hkx ?_;refine eR ?_;refine aC ?_;refine zC rfl (fP T.wf) ?_
  rintro r48 B1 ⟨rfl,o1⟩;replace T:=T.same (o1.mono fun _ h=>h.elim);obtain⟨hc,hh⟩:=o1.k2 hc hh;replace hb:=hb.k o1;replace N:=N.k o1;replace N9:=N9.k o1;have m1:=o1.aa;refine sA ?_;refine dR ?_;refine bW rfl rfl rfl rfl ?_;refine bq rfl rfl rfl ?_;refine oP ?_;refine aC ?_;refine bE rfl rfl rfl rfl rfl (cH (n:=i) (de:=d72) (xs:=nE (un (u.s,named w.s))) rfl rfl rfl rfl T.wf hb rfl dE (pZ om dE)) ?_;intro vv' B2 G;have hdc:¬vv.av Y.X.dc:=fun k=>by have:=hf _ k;omega
  replace hc:=G.Fi.k hc;replace N:=N.ae G.Fi fun g hg k=>by have:=hf _ k;omega
  replace N9:=N9.ae G.Fi fun g hg k=>by have:=hf _ k;omega
  have T2:ac A B2 (one Y.X.dc):=ac.Cn hw T G.Fi hf;have hf':∀g,vv'.av g→A.aa≤g:=fun g hg=>(G.grow g hg).elim (hf g) fun k=>by
   omega
  refine sA ?_;refine aC ?_;refine bx rfl rfl G.buf.cells rfl rfl rfl hc rfl ?_;refine bG (fun B3=>ac B2 B3 (one Y.X.dc)∧B3.heap.get Y.X.dc=some (.cells 0 false 18 (au Y.X.t Y.X.kv++(.ptr Y.X.fr 0 0::.bool b::.int .i64 a0::.str cls::(au m km++[vv',.int .i64 (0:Int)]))))) ⟨ac.put T2.wf (T2.wf _ _ hc),by rw[AW.aw,iP rfl];rfl⟩ ?_;clear hc;rintro B3 ⟨o3,hc⟩;replace N:=N.k o3;replace N9:=N9.k o3;refine sA ?_;refine eD ?_;refine wP ?_;refine ai ?_;refine yL (pp 0 Y.X.dc (pv 6 r9 (pn 7 (i+1:Nat) .nil))) ?_;refine ih (i+1,vv') B3 (by simp only;omega) ⟨T2.same o3,hlt,hc,N,N9,?_,hf'⟩;have:=G.buf.ae o3 fun g hg e=>by have:=hf' g hg;have e:g=Y.X.dc:=e;omega
  rw[tS hlt,mA,fA,hx];show eH B3 4 vv' (i+1) (_++nE (un (u.s,first u)));rw[ef];exact this
 ·have hge:i=(params m).length:=by
   omega
  subst hge;rw[tL] at hb;refine ay rfl ?_;refine gO ?_;have hu:=h.under hw;have e1:((params m).map fun p=>un (p.s,first p))=(cL m).map un:=by
   unfold cL;rw[List.map_map];rfl
  have e2:((cL m).map un).length=(params m).length:=by rw[←e1,lM]
  rw[e1] at hb;refine bd rfl ⟨T,vv,⟨⟨a0,hc⟩,h.tree.ae T fun g hg e=>by have e:g=Y.X.dc:=e;omega,N,h.ri.ny T (fun e=>h.n1 e) (fun g hg e=>h.n2 (by cases e;exact hg)) (fun g hg e=>h.n3 (by cases e;exact hg)),h.ht,h.hd,h.le,h.n1,h.n2,h.n3,?_,fun g hg=>?_,hcls,?_,Nat.zero_le _,fun e=>?_,h.mem,h.nf⟩,fun g hg=>by have:=hf g hg;omega⟩
  ·show lE B 4 vv ((cL m).map un).length _;rw[e2];exact eH.cap (A:=B) (es:=4) hb
  ·have k:=hf g hg;refine⟨?_,fun z=>?_,fun z=>?_,fun z=>?_,fun z=>?_⟩
   ·show Y.X.M≤g;omega
   ·have:=hu g (.inr (.inl z));omega
   ·have:=hu g (.inr (.inr (.inl z)));omega
   ·have:=hu g (.inr (.inr (.inr (.inl z))));omega
   ·have:=hu g (.inr (.inr (.inr (.inr (.inl z)))));omega
  ·show ((cL m).map un).length≤_;rw[e2];omega
  ·show (((cL m).map un).map Prod.fst).Nodup;rw[un_fst,Eb];exact hd e
theorem pr_34{t:Nd}(h:Pr t): ∀c∈t.l,∀m∈c.l.drop 1,m.k=3∨m.k=4:=by
 cases h with
 | mk hc=>
  intro c hcc m hm;cases hc c hcc with
  | mk h1 h2 h3=>
   cases h3 m hm with
   | field ht=>exact .inl rfl
   | meth ht hps hb=>exact .inr rfl
theorem Bn(l:Vs): (l.map un).map (fun v=>(v.1,v.2.1))=l:=by
 rw[List.map_map];exact List.map_id l
def Ec(A A1:AW)(t:Nd)(kv:AV)(n:Nat)(r:AV): Prop:=ac A A1 ag∧∃dc,r=.ptr dc 0 0∧A.aa≤dc∧
 ((¬iv t.l n∧∃hv more,RC A1 dc t kv hv true more)∨(iv t.l n∧∃Y:DY,Y.X.M=A.aa∧Y.X.dc=dc∧Y.X.t=t∧Y.X.kv=kv∧Y.X.hs=cI t.l∧DC A1 Y false))
theorem EZ{cs:List Nd}(h:gW cs): bp cs cV=none:=by
 cases hc:bp cs cV with
 | none=>rfl
 | some c=>
  obtain⟨h1,h2⟩:=jP hc;exact absurd h2 (h.cls h1).2.2
theorem oq{s:Str}:(named s).1=0↔s=[118,111,105,100]:=by
 unfold named;by_cases h1:s=[105,110,116]
 ·rw[iP h1,h1];decide
 rw[iN h1];by_cases h2:s=[99,112,120]
 ·rw[iP h2,h2];decide
 rw[iN h2];by_cases h3:s=[105,110,116,115]
 ·rw[iP h3,h3];decide
 rw[iN h3];by_cases h4:s=[118,111,105,100]
 ·rw[iP h4];exact⟨fun _=>h4,fun _=>rfl⟩
 ·rw[iN h4];exact⟨fun h=>absurd (show (4:Int)=0 from h) dE,fun h=>absurd h h4⟩
set_option maxHeartbeats 8000000 in
theorem uC{K:FuncId}{n:Nat}{A:AW}{t:Nd}{kv:AV}(hw:Wf A)(N:aI A (fun g=>g<A.aa) t kv)(hok:Ai t.l n)(h34:∀c∈t.l,∀m∈c.l.drop 1,m.k=3∨m.k=4):
 aD (ES K) 8 [.agg (au t kv)] A fun r A1=>Ec A A1 t kv n r:=by
 have hst:=N.bh;have hkv:=N.fS;have hlv:bm kv=some t.l.length:=N.bm;have hl9:=N.len;refine ap rfl rfl rfl ?_;refine gO ?_;refine bA rfl rfl rfl rfl ?_;refine bG (fun A1=>ac A A1 ag∧A1.heap.get A.aa=some (.cells 0 false 6 (au t kv))) ⟨ac.add hw _,by rw[AW.add_get,iP rfl];rfl⟩ ?_;rintro A1 ⟨o1,c1⟩;have m1:=o1.aa;have l1:=o1.wf _ _ c1;obtain⟨f1,hf1⟩:∃f1,A.aa=f1:=⟨_,rfl⟩;rw[hf1] at c1 l1;rw[hf1];replace N:=N.ae o1 fun _ _ h=>h;refine gO ?_;refine bS (vs:=au t kv) rfl rfl rfl rfl c1 rfl ?_;refine oP ?_;refine bA rfl rfl rfl rfl ?_;refine bG (fun A2=>ac A1 A2 ag∧A2.heap.get A1.aa=some (.cells 0 false 18 (au t kv++(.bJ::.bool false::.int .i64 0::.str []::(au dL .aj++[.aj,.int .i64 0]))))) ⟨ac.add o1.wf _,by rw[AW.add_get,iP rfl];rfl⟩ ?_;rintro A2 ⟨o2,hc⟩;have m2:=o2.aa;have l2:=o2.wf _ _ hc;obtain⟨dc,hdc⟩:∃dc,A1.aa=dc:=⟨_,rfl⟩
 rw[hdc] at hc l2;rw[hdc];replace c1:=o2.ae _ _ c1 fun h=>h;replace N:=N.ae o2 fun _ _ h=>h;have o02:ac A A2 ag:=o1.same o2;have hdM:A.aa≤dc:=om;have P:DH A2 A.aa dc t kv false _:=⟨⟨0,hc⟩,N,hdM,o2.wf⟩;clear hc;refine gO ?_;refine cY rfl rfl bF rfl (Au o2.wf P om hok.two hok.Cv) ?_;rintro r16 A3 ⟨o3,hr⟩;replace c1:=o3.ae _ _ c1 fun e=>by have e:f1=dc:=e;omega
 have hmono:=o3.aa;have fin:∀{B:AW},ac A2 B (one dc)→ac A B ag:=fun k=>ac.fresh hw o02 k fun g hg=>by have e:g=dc:=hg;omega
 clear P;refine gO ?_;rcases hr with ⟨P,hno⟩|⟨hhi,fr,vn,vs,hRC,hRi,hHd,n1,n2,n3⟩
 ·obtain⟨a0,hc⟩:=P.cell;refine aE ?_;refine gO ?_;refine gP rfl rfl rfl hlv ?_;refine gO ?_;refine dU 6 (pp 1 f1 (pp 3 dc (pb 28 false .nil))) ?_ ?_
  ·by_cases hlt:(((0:Nat) : Int) : Int)<(t.l.length:Int)
   ·refine aF 22 true rfl (yT hlt) ?_;refine oP ?_;exact⟨rfl,rfl,rfl,rfl,trivial⟩
   ·refine aF 22 false rfl (yF hlt) ?_;refine oP ?_;exact⟨rfl,rfl,rfl,rfl,trivial⟩
  refine rU ?_;refine ay rfl ?_;refine gO ?_;refine aE ?_;refine gO ?_;refine gP rfl rfl rfl hlv ?_;refine gO ?_;refine dU 6 (pp 1 f1 (pp 3 dc (pb 49 false .nil))) ?_ ?_
  ·by_cases hlt:(((0:Nat) : Int) : Int)<(t.l.length:Int)
   ·refine aF 43 true rfl (yT hlt) ?_;refine oP ?_;exact⟨rfl,rfl,rfl,rfl,trivial⟩
   ·refine aF 43 false rfl (yF hlt) ?_;refine oP ?_;exact⟨rfl,rfl,rfl,rfl,trivial⟩
  refine rU ?_;refine ay rfl ?_;refine rU ?_;exact af rfl ⟨fin o3,dc,rfl,hdM,.inl ⟨fun k=>hno k.hier,_,_,⟨a0,hc⟩⟩⟩
 have htr:=wz hhi hok.Cv hok.sup;have key:∃X:DX,X.M=A.aa∧X.dc=dc∧X.t=t∧X.kv=kv∧X.hs=cI t.l∧DC A3 ⟨X,[],dL,.aj,.aj,[],0⟩ false:=⟨⟨A.aa,dc,t,kv,fr,vn,vs,cI t.l⟩,rfl,rfl,rfl,rfl,rfl,
  ⟨hRC,N.ae o3 fun g hg e=>by have e:g=dc:=e;omega,aI.cB rfl,hRi,htr,hHd,hdM,n1,n2,n3,.inl ⟨rfl,rfl,rfl⟩,fun g h=>h.elim,rfl,Nat.zero_le _,Nat.zero_le _,fun _=>List.nodup_nil,hok.mem,EZ hhi⟩⟩
 clear hRC hRi hHd n1 n2 n3 N;obtain⟨X,eM,rfl,rfl,rfl,eh,D⟩:=key;have bad:∀{B:AW} {Y:DY},ac A2 B (one X.dc)→Y.X=X→DC B Y true→¬iv X.t.l n→Ec A B X.t X.kv n (.ptr X.dc 0 0):=fun {B Y} o e k hn=>by
  subst e;exact⟨fin o,_,rfl,hdM,.inl ⟨hn,_,_,k.cell⟩⟩
 refine aE ?_;refine bY (pp 1 f1 (pp 3 X.dc (pn 4 0 .nil))) ?_ ⟨rfl,rfl,rfl,trivial⟩;refine aV (ι:=Nat×Bool) (fun i=>X.t.l.length-i.1) (fun i=>(pp 1 f1 (pp 3 X.dc (pn 4 i.1 .nil))))
  (fun i B=>ac A2 B (one X.dc)∧DC B ⟨X,[],dL,.aj,.aj,[],0⟩ i.2∧i.1≤X.t.l.length∧gt B f1 6 (au X.t X.kv)∧(i.2=false↔∀(j:Nat) (c:Nd),j<i.1→X.t.l[j]?=some c→eT X.t.l X.hs c)) ?_ (0,false) A3 ⟨o3,D,Nat.zero_le _,c1,fun _ j c hj _=>absurd hj (Nat.not_lt_zero _),fun _=>rfl⟩
 clear D c1 o3 hmono;rintro ⟨i,b0⟩ B ⟨T,D,hi,c1,hz⟩ ih;replace D:DC B ⟨X,[],dL,.aj,.aj,[],0⟩ b0:=D;replace hi:i≤X.t.l.length:=hi;replace hz:b0=false↔∀(j:Nat) (c:Nd),j<i→X.t.l[j]?=some c→eT X.t.l X.hs c:=hz;obtain⟨a0,hc⟩:=D.cell;have mB:=T.aa;refine gO ?_;refine gP rfl rfl rfl hlv ?_;refine gO ?_;cases b0 with
 | true=>
  refine dU 6 (pp 1 f1 (pp 3 X.dc (pb 28 false .nil))) ?_ ?_
  ·by_cases hlt:((i:Int) : Int)<(X.t.l.length:Int)
   ·refine aF 22 true rfl (yT hlt) ?_;refine oP ?_;exact⟨rfl,rfl,rfl,rfl,trivial⟩
   ·refine aF 22 false rfl (yF hlt) ?_;refine oP ?_;exact⟨rfl,rfl,rfl,rfl,trivial⟩
  refine rU ?_;refine ay rfl ?_;refine gO ?_;refine aE ?_;refine gO ?_;refine gP rfl rfl rfl hlv ?_;refine gO ?_;refine dU 6 (pp 1 f1 (pp 3 X.dc (pb 49 false .nil))) ?_ ?_
  ·by_cases hlt:(((0:Nat) : Int) : Int)<(X.t.l.length:Int)
   ·refine aF 43 true rfl (yT hlt) ?_;refine oP ?_;exact⟨rfl,rfl,rfl,rfl,trivial⟩
   ·refine aF 43 false rfl (yF hlt) ?_;refine oP ?_;exact⟨rfl,rfl,rfl,rfl,trivial⟩
  refine rU ?_;refine ay rfl ?_;refine rU ?_;exact af rfl (bad T rfl D fun k=>by
   have:=hz.2 fun j c _ hj=>by rw[eh];exact k.Cq j c hj
   cases this)
 | false=>
  by_cases hlt:(i:Int)<(X.t.l.length:Int)
  ·refine aF 22 true rfl (yT hlt) ?_;refine rU ?_;have hltN:i<X.t.l.length:=Int.ofNat_lt.1 hlt;have hu:X.t.l[i]?=some X.t.l[i]:=gE hltN;generalize hx:X.t.l[i]=u at hu;have hum:u∈X.t.l:=by rw[←hx];exact List.getElem_mem hltN
   obtain⟨rest,hup⟩:=Bg hhi htr hum;rw[←eh] at hup;have Nt:aI B (fun g=>g<X.M) X.t X.kv:=D.tree;obtain⟨f,s,o,cc,ex,ro,all,ku,hv,hs',hh,hl,Nu,cw⟩:=bv Nt hu;refine gO ?_;refine bg i rfl (congrArg some hv) rfl rfl rfl hl ?_;refine oP ?_;refine bS (vs:=au u ku) rfl rfl rfl rfl hh ((cw 6 0 (Nat.le_refl _)).trans rfl) ?_;refine oP ?_;refine cY rfl rfl bF rfl (uB (Y:=⟨X,[],dL,.aj,.aj,[],0⟩) T.wf D Nu (hok.two u hum) (hok.mem u hum) (hok.sm u hum) (h34 u hum) (rest:=rest) hup) ?_;rintro r37 B1 ⟨b1,t1,z1⟩;replace c1:=t1.Fi.ae _ _ c1 fun e=>by have e:f1=X.dc:=e;omega
   refine gO ?_;refine il rfl rfl rfl om om ?_;refine gO ?_;refine ai ?_;refine bY (pp 1 f1 (pp 3 X.dc (pn 4 (i+1:Nat) .nil))) ?_ ⟨rfl,rfl,rfl,trivial⟩;refine ih (i+1,b1) B1 (by simp only;omega) ⟨T.same t1.Fi,t1.ps,hltN,c1,z1.trans ?_⟩;constructor
   ·intro k j c hj hjc;by_cases e:j=i
    ·subst e;rw[hu] at hjc;cases hjc;exact k
    ·exact hz.1 rfl j c (by have hj:j<i+1:=hj;omega) hjc
   ·exact fun k=>k i u (Nat.lt_succ_self i) hu
  ·refine aF 22 false rfl (yF hlt) ?_;refine rU ?_;refine ay rfl ?_;clear ih;have hmem:∀c∈X.t.l,eT X.t.l X.hs c:=fun c hcm=>by
    obtain⟨j,hj,hx⟩:=List.getElem_of_mem hcm;exact hz.1 rfl j c om (by rw[gE hj,hx])
   clear hz hc a0 hlt hi;refine gO ?_;refine aE ?_;refine bY (pp 1 f1 (pp 3 X.dc (pn 5 0 .nil))) ?_ ⟨rfl,rfl,rfl,trivial⟩;refine aV (ι:=Nat×Bool×DY) (fun i=>X.t.l.length-i.1) (fun i=>(pp 1 f1 (pp 3 X.dc (pn 5 i.1 .nil))))
    (fun i B=>i.2.2.X=X∧ac A2 B (one X.dc)∧DC B i.2.2 i.2.1∧i.1≤X.t.l.length∧gt B f1 6 (au X.t X.kv)∧(i.2.1=false↔∀(j:Nat) (c:Nd),j<i.1→X.t.l[j]?=some c→fv X.t.l X.hs c n)) ?_ (0,false,⟨X,[],dL,.aj,.aj,[],0⟩) B ⟨rfl,T,D,Nat.zero_le _,c1,fun _ j c hj _=>absurd hj (Nat.not_lt_zero _),fun _=>rfl⟩
   clear D c1 T mB;rintro ⟨i,b0,Y0⟩ B ⟨eX,T,D,hi,c1,hz⟩ ih;replace eX:Y0.X=X:=eX;replace D:DC B Y0 b0:=D;replace hi:i≤X.t.l.length:=hi;replace hz:b0=false↔∀(j:Nat) (c:Nd),j<i→X.t.l[j]?=some c→fv X.t.l X.hs c n:=hz;obtain⟨a0,hc⟩:=D.cell;rw[eX] at hc;have mB:=T.aa;refine gO ?_;refine gP rfl rfl rfl hlv ?_;refine gO ?_;cases b0 with
   | true=>
    refine dU 6 (pp 1 f1 (pp 3 X.dc (pb 49 false .nil))) ?_ ?_
    ·by_cases hlt:((i:Int) : Int)<(X.t.l.length:Int)
     ·refine aF 43 true rfl (yT hlt) ?_;refine oP ?_;exact⟨rfl,rfl,rfl,rfl,trivial⟩
     ·refine aF 43 false rfl (yF hlt) ?_;refine oP ?_;exact⟨rfl,rfl,rfl,rfl,trivial⟩
    refine rU ?_;refine ay rfl ?_;refine rU ?_;exact af rfl (bad T eX D fun k=>by
     have:=hz.2 fun j c _ hj=>by rw[eh];exact k.DK j c hj
     cases this)
   | false=>
    by_cases hlt:(i:Int)<(X.t.l.length:Int)
    ·refine aF 43 true rfl (yT hlt) ?_;refine rU ?_;clear hc a0;have hltN:i<X.t.l.length:=Int.ofNat_lt.1 hlt;have hu:X.t.l[i]?=some X.t.l[i]:=gE hltN;generalize hx:X.t.l[i]=u at hu;have hum:u∈X.t.l:=by rw[←hx];exact List.getElem_mem hltN
     have hmu:=hmem u hum;unfold eT at hmu;have hmo:=hok.mem u hum;have hbk:=hok.wU u hum;have h4:=h34 u hum;obtain⟨ms,hms⟩:∃ms,u.l.drop 1=ms:=⟨_,rfl⟩;rw[hms] at hmu hmo hbk h4;have hcl:u.l.length=ms.length+1:=by
      rw[←hms,List.length_drop];have:=hok.two u hum;omega
     have hget:∀(j:Nat),ms[j]?=u.l[j+1]?:=fun j=>by rw[←hms,List.getElem?_drop,Nat.add_comm]
     have hMok:fv X.t.l X.hs u n↔∀(k:Nat) (m:Nd),ms[k]?=some m→iX X.t.l X.hs u m n:=by
      unfold fv;rw[hms]
     have next:∀{b1:Bool},(b1=false↔fv X.t.l X.hs u n)→(b1=false↔∀(j:Nat) (c:Nd),j<i+1→X.t.l[j]?=some c→fv X.t.l X.hs c n):=fun {b1} k=>k.trans ⟨fun k j c hj hjc=>by
      by_cases e:j=i
      ·subst e;rw[hu] at hjc;cases hjc;exact k
      ·exact hz.1 rfl j c om hjc,fun k=>k i u (Nat.lt_succ_self i) hu⟩
     refine gO ?_;refine aE ?_;refine yL (pp 1 f1 (pp 3 X.dc (pn 5 i (pn 6 (0+1:Nat) .nil)))) ?_;refine aV (ι:=Nat×Bool×DY) (fun j=>ms.length-j.1) (fun j=>(pp 1 f1 (pp 3 X.dc (pn 5 i (pn 6 (j.1+1:Nat) .nil)))))
      (fun j B=>j.2.2.X=X∧ac A2 B (one X.dc)∧DC B j.2.2 j.2.1∧j.1≤ms.length∧gt B f1 6 (au X.t X.kv)∧(j.2.1=false↔∀(k:Nat) (m:Nd),k<j.1→ms[k]?=some m→iX X.t.l X.hs u m n)) ?_ (0,false,Y0) B ⟨eX,T,D,Nat.zero_le _,c1,fun _ j c hj _=>absurd hj (Nat.not_lt_zero _),fun _=>rfl⟩
     clear D c1 T mB;rintro ⟨j,b1,Y⟩ B ⟨eY,T,D,hj,c1,hq⟩ ih2;replace eY:Y.X=X:=eY;replace D:DC B Y b1:=D;replace hj:j≤ms.length:=hj;replace hq:b1=false↔∀(k:Nat) (m:Nd),k<j→ms[k]?=some m→iX X.t.l X.hs u m n:=hq;obtain⟨a0,hc⟩:=D.cell;have Nt:=D.tree;rw[eY] at hc Nt;obtain⟨f,s,o,cc,ex,ro,all,ku,hv,hs',hh,hl,Nu,cw⟩:=bv Nt hu;have htk:=aR ((cw 1 5 dE).trans rfl);have htx:=aR ((cw 1 2 dE).trans rfl);have hl9u:=Nu.len;refine wI hv hl ?_;refine aZ rfl rfl rfl rfl hh (v:=ku) htk ?_;refine wJ Nu.bm ?_;cases b1 with
     | true=>
      refine dU 6 (pp 1 f1 (pp 3 X.dc (pn 5 i (pn 6 (j+1:Nat) (pb 67 false .nil))))) ?_ ?_
      ·by_cases hlt:(((j+1:Nat) : Int) : Int)<(u.l.length:Int)
       ·refine wT 61 hlt ?_;refine oP ?_;exact⟨rfl,rfl,rfl,rfl,rfl,rfl,trivial⟩
       ·refine aF 61 false rfl (yF hlt) ?_;refine oP ?_;exact⟨rfl,rfl,rfl,rfl,rfl,rfl,trivial⟩
      refine rU ?_;refine ay rfl ?_;refine gO ?_;refine il rfl rfl rfl om om ?_;refine gO ?_;refine ai ?_;refine bY (pp 1 f1 (pp 3 X.dc (pn 5 (i+1:Nat) .nil))) ?_ ⟨rfl,rfl,rfl,trivial⟩;refine ih (i+1,true,Y) B (by simp only;omega) ⟨eY,T,D,hltN,c1,next ⟨fun k=>(by cases k),fun k=>?_⟩⟩;have:=hq.2 fun k' m _ hm=>hMok.1 k k' m hm;cases this
     | false=>
      by_cases hlt2:((j+1:Nat) : Int)<(u.l.length:Int)
      ·refine aF 61 true rfl (yT hlt2) ?_;refine rU ?_;clear hc a0;have hltj:j<ms.length:=by
        have:=Int.ofNat_lt.1 hlt2;omega
       have hm:ms[j]?=some ms[j]:=gE hltj;generalize hxm:ms[j]=m at hm;have hmm:m∈ms:=by rw[←hxm];exact List.getElem_mem hltj
       have hm1:u.l[j+1]?=some m:=by rw[←hget];exact hm
       have F:=hmu j m hm;obtain⟨f2,s2,o2',cc2,ex2,ro2,all2,km,hv2,hs2,hh2,hl2,Nm,hat2⟩:=bv Nu hm1;have hstm:=Nm.bh;have hstu:=Nu.fS;have hkm:=Nm.fS;have step:∀{b2:Bool},(b2=false↔iX X.t.l X.hs u m n)→(b2=false↔∀(k:Nat) (m:Nd),k<j+1→ms[k]?=some m→iX X.t.l X.hs u m n):=fun {b2} k=>k.trans ⟨fun k j' c hj' hjc=>by
        by_cases e:j'=j
        ·subst e;rw[hm] at hjc;cases hjc;exact k
        ·exact hq.1 rfl j' c om hjc,fun k=>k j m (Nat.lt_succ_self j) hm⟩
       refine gO ?_;refine bg i rfl (congrArg some hv) rfl rfl rfl hl ?_;refine oP ?_;refine aZ rfl rfl rfl rfl hh (v:=ku) htk ?_;refine oP ?_;refine bg (j+1) rfl (congrArg some hv2) rfl rfl rfl hl2 ?_;refine oP ?_;refine bS (vs:=au m km) rfl rfl rfl rfl hh2 ((hat2 6 0 (Nat.le_refl _)).trans rfl) ?_;refine oP ?_;refine aq rfl rfl rfl ?_;refine bx rfl rfl rfl rfl rfl rfl (by rw[AW.add_get,iP rfl]) rfl ?_;refine bG (fun B1=>ac B B1 ag∧B1.heap.get B.aa=some (.cells 0 false 6 (au m km))) ⟨made T.wf,by rw[AW.aw,iP rfl];rfl⟩ ?_;rintro B1 ⟨o4,c7⟩;have l7:=o4.wf _ _ c7;have hld:=D.lt T.wf;rw[eY] at hld;obtain⟨f7,hf7⟩:∃f7,B.aa=f7:=⟨_,rfl⟩;rw[hf7] at c7 l7;rw[hf7];replace c1:=o4.ae _ _ c1 fun h=>h;replace hh:=o4.ae _ _ hh fun h=>h;replace Nm:=Nm.ae o4 fun _ _ h=>h;replace D:=D.quiet o4
       replace T:ac A2 B1 (one X.dc):=T.same (o4.mono fun _ h=>h.elim);refine gO ?_;refine cD rfl (fun k4=>?_) fun k4=>?_
       ·have k4:m.k≠4:=k4;refine wX ?_;refine il rfl rfl rfl om om ?_;refine gO ?_;refine ai ?_;refine bY (pp 1 f1 (pp 3 X.dc (pn 5 i (pn 6 ((j+1)+1:Nat) .nil)))) ?_ ⟨rfl,rfl,rfl,rfl,trivial⟩;refine ih2 (j+1,false,Y) B1 (by simp only;omega) ⟨eY,T,D,hltj,c1,step ⟨fun _ e=>absurd e k4,fun _=>rfl⟩⟩
       have k4:m.k=4:=Decidable.not_not.1 k4;have hp:=(hmo m hmm).2 k4;obtain⟨wU,hbl,hSt,hsz⟩:=hbk m hmm k4;obtain⟨w0,hw0⟩:∃w,m.l[0]?=some w:=⟨_,gE (hmo m hmm).1⟩;have ef:first m=named w0.s:=by unfold first;rw[aW hw0]
       have elk:yo m=wU:=cO hbl;refine tD ?_;refine dR ?_;refine ax rfl rfl rfl rfl rfl ?_
       try refine aM rfl ?_
       refine bg i rfl (congrArg some hv) rfl rfl rfl hl ?_;refine oP ?_;refine⟨rfl,?_⟩;refine dR ?_;refine jZ rfl rfl rfl rfl rfl rfl rfl ?_
       try refine aM rfl ?_
       refine aZ rfl rfl rfl rfl hh (v:=.str u.s) htx ?_;refine oP ?_;refine⟨rfl,_,rfl,?_⟩;refine dR ?_;refine jZ rfl rfl rfl rfl rfl rfl rfl ?_
       try refine aM rfl ?_
       refine bS (vs:=au m km) rfl rfl rfl rfl c7 rfl ?_;refine oP ?_;refine⟨rfl,_,rfl,?_⟩;refine dR ?_;have Nm':aI B1 (fun g=>g<Y.X.M) m km:=by rw[eY];exact Nm
       refine me rfl rfl rfl ?_;rw[←eY];refine cY rfl rfl bF rfl (yw (b:=false) T.wf D Nm' hp (hok.cls u hum) fun _=>mP (F.par k4)) ?_;rw[eY];rintro r90 B2 ⟨o5,vv,D2,hvf⟩;replace c1:=o5.ae _ _ c1 fun e=>by have e:f1=X.dc:=e;omega
       replace c7:=o5.ae _ _ c7 fun e=>by have e:f7=X.dc:=e;omega
       replace hh:=o5.ae _ _ hh fun e=>by have e:f=X.dc:=e;have hs':f<X.M:=hs';omega
       replace Nm:=Nm.ae o5 fun g hg e=>by have e:g=X.dc:=e;omega
       have mT:=T.aa;replace T:ac A2 B2 (one X.dc):=T.same o5;refine oP ?_;refine sK ?_;refine aK ?_;clear D;generalize hY2:(⟨X,u.s,m,km,vv,(cL m).map un,0⟩:DY)=Y2 at D2;have e2X:Y2.X=X:=by rw[←hY2]
       have e2v:Y2.vv=vv:=by rw[←hY2]
       have e2m:Y2.mt=m:=by rw[←hY2]
       have e2w:Y2.w=(cL m).map un:=by rw[←hY2]
       have e2e:Y2.ev n=⟨X.t.l,X.hs,u.s,first m,n⟩:=by rw[←hY2];rfl
       have e2s:Y2.vars=cL m:=by
        unfold DY.vars;rw[e2w,Bn]
       have hLK:LK Y2 []:=⟨fun v hv=>by
        rw[e2w] at hv;obtain⟨x,_,rfl⟩:=List.mem_map.1 hv;rfl,fun n hn=>absurd hn List.not_mem_nil,by rw[←hY2];rfl⟩
       have hlw:Y2.w.length≤9000:=by
        rw[e2w,lM];unfold cL;rw[lM,jL hp.1];have:=Nm.len;omega
       obtain⟨fb,sb,ob,cb,eb,rb,ab,kb,hvb,hsb,hhb,hlb,Nb,hatb⟩:=bv Nm hbl;have hstb:=Nb.bh;refine gO ?_;refine gP rfl rfl rfl Nm.bm ?_;refine gO ?_;refine fd rfl rfl rfl om (by have:=Nm.len;omega) ?_;refine oP ?_;refine bg (m.l.length-1) rfl (congrArg some hvb) rfl rfl (show (m.l.length:Int)-1=((m.l.length-1:Nat) : Int) by omega) hlb ?_;refine oP ?_;refine bS (vs:=au wU kb) rfl rfl rfl rfl hhb ((hatb 6 0 (Nat.le_refl _)).trans rfl) ?_;refine oP ?_;rw[←e2X];refine cY rfl rfl bF rfl (uh (n:=n) 20000 (lk:=[]) T.wf D2 (fun _=>hLK) (by rw[e2m];exact (hmo m hmm).1) (by rw[e2X];exact Nb) hSt hsz om) ?_;rw[e2X];rintro r100 B3 ⟨vv3,ws,b3,t3,_,z3⟩;have z3:=z3 rfl;rw[e2e,e2s] at z3;have o6:ac B2 B3 (fun g=>g=X.dc∨vv.av g):=t3.Fi.mono fun g hg=>by
        rcases hg with hg|hg
        ·exact .inl (by rw[hg,e2X])
        ·exact .inr (by rw[←e2v];exact hg)
       have hn7:¬(f7=X.dc∨vv.av f7):=fun e=>by
        rcases e with e|e
        ·omega
        ·have:=hvf _ e;omega
       have hnM:∀g,g<f7→g≠X.dc→¬(g=X.dc∨vv.av g):=fun g h1 h2 e=>by
        rcases e with e|e
        ·exact h2 e
        ·have:=hvf _ e;omega
       replace c1:=o6.ae _ _ c1 (hnM _ om om);replace c7:=o6.ae _ _ c7 hn7;replace Nm:=Nm.ae o6 fun g hg=>hnM g om om;replace Nb:=Nb.ae o6 fun g hg=>hnM g om om;replace hhb:=o6.ae _ _ hhb (hnM _ (by have hsb:fb<X.M:=hsb;omega) (by have hsb:fb<X.M:=hsb;omega));have D3:=t3.ps;have T3:ac A2 B3 (one X.dc):=⟨o6.wf,Nat.le_trans T.aa o6.aa,fun g F0 hg hn=>o6.ae _ _ (T.ae _ _ hg hn) fun e=>by
        rcases e with e|e
        ·exact hn e
        ·have h1:=hvf _ e;have h2:=o02.wf _ _ hg;omega⟩
       clear T t3 D2;obtain⟨fk,sk,ok,ck,ek,rk,ak,kw,hvk,hsk,hhk,hlk,Nk,hatk⟩:=bv Nm hw0;have hkx:=aR ((hatk 1 2 dE).trans rfl);have e3X:(Y2.set vv3 (Y2.w++ws.map un) Y2.nl).X=X:=e2X;generalize (Y2.set vv3 (Y2.w++ws.map un) Y2.nl)=Y3 at D3 e3X;have hmeth:iX X.t.l X.hs u m n↔b3=false∧(w0.s≠[118,111,105,100]→co 20000 wU=true):=by
        unfold iX;rw[elk];have hb3:b3=false↔(cP ⟨X.t.l,X.hs,u.s,first m,n⟩ 20000 [] (cL m) wU).isSome=true:=by
         cases hsv:cP ⟨X.t.l,X.hs,u.s,first m,n⟩ 20000 [] (cL m) wU with
         | none=>
          rw[hsv] at z3;have z3:b3=true:=z3;rw[z3];exact⟨fun h=>(by cases h),fun h=>(by cases h)⟩
         | some vs'=>
          rw[hsv] at z3;exact⟨fun _=>rfl,fun _=>z3.1⟩
        rw[hb3];have hvd:(first m).1≠0↔w0.s≠[118,111,105,100]:=by
         rw[ef];exact not_congr oq
        rw[←hvd];exact⟨fun h=>h k4,fun h _=>h⟩
       refine tD ?_;refine ax rfl rfl rfl rfl rfl ?_
       try refine aM rfl ?_
       refine zI 0 hvk hlk ?_;refine eP ?_;refine rD ?_;refine aZ rfl rfl rfl rfl hhk (v:=.str w0.s) hkx ?_;refine eR ?_;refine dR ?_;by_cases hvoid:w0.s=[118,111,105,100]
       ·refine aL 108 true rfl (yT hvoid) ?_;refine dO ?_;refine aC ?_;refine sA ?_;refine dO ?_;refine aC ?_;rw[←e3X];refine zC rfl (aG (x:=true) T3.wf D3) ?_;rw[e3X];rintro r121 B5 ⟨rfl,t5⟩;have o5':ac B3 B5 (one X.dc):=t5.Fi.mono fun g hg=>by rw[←e3X];exact hg
        replace c1:=o5'.k c1;refine sA ?_;refine eD ?_;refine wP ?_;refine ai ?_;refine yL (pp 1 f1 (pp 3 X.dc (pn 5 i (pn 6 ((j+1)+1:Nat) .nil)))) ?_;refine ih2 (j+1,_,Y3) B5 (by simp only;omega) ⟨e3X,T3.same o5',t5.ps,hltj,c1,step ?_⟩;rw[hmeth];exact⟨fun h=>⟨h,fun e=>absurd hvoid e⟩,fun h=>h.1⟩
       ·refine aL 108 false rfl (yF hvoid) ?_;refine rD ?_;refine zJ Nm.bm ?_;refine eR ?_;refine dR ?_;refine ax rfl rfl rfl rfl rfl ?_
        try refine aM rfl ?_
        refine fd rfl rfl rfl om (by have:=Nm.len;omega) ?_;refine eP ?_;refine dR ?_;refine ax rfl rfl rfl rfl rfl ?_
        try refine aM rfl ?_
        refine bg (m.l.length-1) rfl (congrArg some hvb) rfl rfl (show (m.l.length:Int)-1=((m.l.length-1:Nat) : Int) by omega) hlb ?_;refine eP ?_;refine rD ?_;refine zK hhb ((hatb 6 0 (Nat.le_refl _)).trans rfl) ?_;refine eR ?_;refine aC ?_;refine zC rfl (ui T3.wf Nb hSt) ?_;rintro r117 B4 ⟨rfl,o7⟩;obtain⟨c1,c7⟩:=o7.k2 c1 c7;replace D3:=D3.quiet o7;replace T3:=T3.same (o7.mono fun _ h=>h.elim);refine sA ?_;refine aC ?_;rw[←e3X];refine zC rfl (aG (x:=co 20000 wU) T3.wf D3) ?_;rw[e3X];rintro r121 B5 ⟨rfl,t5⟩;have o5':ac B4 B5 (one X.dc):=t5.Fi.mono fun g hg=>by rw[←e3X];exact hg
        replace c1:=o5'.k c1;refine sA ?_;refine eD ?_;refine wP ?_;refine ai ?_;refine yL (pp 1 f1 (pp 3 X.dc (pn 5 i (pn 6 ((j+1)+1:Nat) .nil)))) ?_;refine ih2 (j+1,_,Y3) B5 (by simp only;omega) ⟨e3X,T3.same o5',t5.ps,hltj,c1,step ?_⟩;rw[hmeth];show (!co 20000 wU || b3)=false↔_;rw[Bool.or_eq_false_iff,Bool.not_eq_false'];exact⟨fun h=>⟨h.2,fun _=>h.1⟩,fun h=>⟨h.2 hvoid,h.1⟩⟩
      ·refine wF 61 hlt2 ?_;refine rU ?_;refine ay rfl ?_;refine wP ?_;refine ai ?_;refine yL (pp 1 f1 (pp 3 X.dc (pn 5 (i+1:Nat) .nil))) ?_;refine ih (i+1,false,Y) B (by simp only;omega) ⟨eY,T,D,hltN,c1,next (hq.trans ?_)⟩;rw[hMok];exact⟨fun k k' m hm=>k k' m (by have:=(List.getElem?_eq_some_iff.1 hm).1;omega) hm,fun k k' m _ hm=>k k' m hm⟩
    ·refine wF 43 hlt ?_;refine rU ?_;refine ay rfl ?_;clear ih;have hmet:∀(j:Nat) (c:Nd),X.t.l[j]?=some c→fv X.t.l X.hs c n:=fun j c hj=>hz.1 rfl j c (by have:=(List.getElem?_eq_some_iff.1 hj).1;omega) hj;clear hz;subst eX;have hal:=hc;refine rU ?_;clear hal hc a0;refine wC (qG (n:=gz) T.wf D) ?_;rintro r129 B1 ⟨o4,hr⟩;have hu9:∃z zk,r129=.tuple [.agg (au z zk),.bool (bp Y0.X.t.l gz).isSome]:=by
      cases hm:bp Y0.X.t.l gz with
      | none=>
       rw[hm] at hr;exact⟨_,_,hr⟩
      | some z=>
       rw[hm] at hr;obtain⟨zk,hr,_⟩:=hr;exact⟨z,zk,hr⟩
     obtain⟨z,zk,rfl⟩:=hu9;clear hr;replace D:=D.quiet o4;replace T:=T.same (o4.mono fun _ h=>h.elim);refine gO ?_;refine aq rfl rfl rfl ?_;refine zS (by rw[AW.add_get,iP rfl]) ?_;refine bG (fun B2=>ac B1 B2 ag) (made T.wf) ?_;intro B2 o5;replace D:=D.quiet o5;replace T:=T.same (o5.mono fun _ h=>h.elim);refine wC (jm (c:=gz) (n:=mp) (k:=4) T.wf D) ?_;rintro r134 B3 ⟨o6,hr⟩;replace D:=D.quiet o6;replace T:=T.same (o6.mono fun _ h=>h.elim);have hu9:∃o ko th,r134=.tuple [.agg (au o ko),.bool th]∧match dM Y0.X.t.l Y0.X.hs gz mp 4 with
      | none=>th=false
      | some o'=>th=true∧o'=o∧aI B3 (fun g=>True) o ko:=by
      cases hm:dM Y0.X.t.l Y0.X.hs gz mp 4 with
      | none=>
       rw[hm] at hr;exact⟨dL,.aj,false,hr,rfl⟩
      | some o'=>
       rw[hm] at hr;obtain⟨ko,g1,g2⟩:=hr;exact⟨o',ko,true,g1,rfl,rfl,g2.mono fun g hg _=>trivial⟩
     obtain⟨o,ko,th,rfl,h9⟩:=hu9;clear hr;refine gO ?_;refine zM (n:=6) (y:=au o ko) T.wf ?_;intro B4 o7 c10;generalize B3.aa=f10 at c10;replace D:=D.quiet o7;replace T:=T.same (o7.mono fun _ h=>h.elim);have h9:match dM Y0.X.t.l Y0.X.hs gz mp 4 with
      | none=>th=false
      | some o'=>th=true∧o'=o∧aI B4 (fun g=>True) o ko:=by
      cases hm:dM Y0.X.t.l Y0.X.hs gz mp 4 with
      | none=>
       rw[hm] at h9;exact h9
      | some o'=>
       rw[hm] at h9;exact⟨h9.1,h9.2.1,h9.2.2.ae o7 fun _ _ h=>h⟩
     obtain⟨x,hx⟩:∃x:Bool,x=true↔Ah Y0.X.t.l Y0.X.hs:=by
      by_cases h:Ah Y0.X.t.l Y0.X.hs
      ·exact⟨true,fun _=>h,fun _=>rfl⟩
      ·exact⟨false,fun k=>(by cases k),fun k=>absurd k h⟩
     refine gO ?_;refine dU 16 (pp 3 Y0.X.dc (pp 137 Y0.X.dc (pb 155 x .nil))) ?_ ?_
     ·cases hcl:(bp Y0.X.t.l gz).isSome with
      | false=>
       refine aF 139 false rfl rfl ?_;refine oP ?_;obtain rfl:x=false:=by
        cases x with
        | false=>rfl
        | true=>
         have k:=hx.1 rfl;have:=k.1;rw[hcl] at this;cases this
       exact⟨rfl,rfl,rfl,rfl,trivial⟩
      | true=>
       refine aF 139 true rfl rfl ?_;refine oP ?_;cases hmb:dM Y0.X.t.l Y0.X.hs gz mp 4 with
       | none=>
        rw[hmb] at h9;have h9:th=false:=h9;subst h9;refine aF 142 false rfl rfl ?_;refine oP ?_;obtain rfl:x=false:=by
         cases x with
         | false=>rfl
         | true=>
          have k:=hx.1 rfl;obtain⟨_,m,h1,_⟩:=k;rw[hmb] at h1;cases h1
        exact⟨rfl,rfl,rfl,rfl,trivial⟩
       | some o'=>
        rw[hmb] at h9;obtain⟨rfl,rfl,No⟩:=h9;have hoo:=jg D.mem hmb;have hop:=hoo.1.2 hoo.2;have hpl:=jL hop.1;refine aF 142 true rfl rfl ?_;refine oP ?_
        try refine aM rfl ?_
        refine wJ No.bm ?_;by_cases hl2:o'.l.length=2
        ·refine wT 148 (congrArg Int.ofNat hl2) ?_;obtain⟨w0,hw0⟩:∃w,o'.l[0]?=some w:=⟨_,gE hoo.1.1⟩;have ef:first o'=named w0.s:=by unfold first;rw[aW hw0]
         obtain⟨fk,sk,ok,ck,ek,rk,ak,kw,hvk,hsk,hhk,hlk,Nk,hatk⟩:=bv No hw0;have hkx:=aR ((hatk 1 2 dE).trans rfl);refine oP ?_
         try refine aM rfl ?_
         refine wI hvk hlk ?_
         try refine aM rfl ?_
         refine aZ rfl rfl rfl rfl hhk (v:=.str w0.s) hkx ?_;refine oP ?_;refine⟨rfl,rfl,rfl,congrArg (fun x=>some (AV.bool x)) ?_,trivial⟩;have hiff:x=true↔w0.s=[118,111,105,100]:=by
          rw[hx];constructor
          ·rintro ⟨_,m,h1,h2,h3⟩;rw[hmb] at h1;cases h1;rw[ef] at h3;exact oq.1 h3
          ·exact fun h=>⟨hcl,o',hmb,om,by rw[ef];exact oq.2 h⟩
         cases x with
         | true=>exact yT (hiff.1 rfl)
         | false=>
          refine yF fun h=>?_;have:=hiff.2 h;cases this
        ·refine aF 148 false rfl (yF fun e=>hl2 (Int.ofNat.inj e)) ?_;refine oP ?_;obtain rfl:x=false:=by
          cases x with
          | false=>rfl
          | true=>
           have k:=hx.1 rfl;obtain⟨_,m,h1,h2,_⟩:=k;rw[hmb] at h1;cases h1;omega
         exact⟨rfl,rfl,rfl,rfl,trivial⟩
     refine wC (aG (x:=x) T.wf D) ?_;rintro r156 B5 ⟨rfl,t5⟩;refine gO ?_;refine af rfl ?_;cases x with
     | false=>
      refine bad (T.same t5.Fi) rfl t5.ps fun k=>?_;have k:=k.main;rw[←eh] at k;have:=hx.2 k;cases this
     | true=>
      refine⟨fin (T.same t5.Fi),_,rfl,hdM,.inr ⟨⟨hhi,fun j c hj=>?_,fun j c hj=>?_,?_⟩,Y0,eM,rfl,rfl,rfl,eh,t5.ps⟩⟩
      ·rw[←eh];exact hmem c (mG hj)
      ·rw[←eh];exact hmet j c hj
      ·rw[←eh];exact hx.1 rfl
end Go.Proofs.YtafamggbkobcfaaGreat.Ae
