/- A part of the proof of the statement CheckTypes. -/
import Derived.Test.YtafamggbkobcfaaGreatAiSyK25
namespace Go.Proofs.YtafamggbkobcfaaGreat.Ae
open Go.AE
set_option linter.unusedVariables false
set_option maxRecDepth 100000
def cG(l:List Nd): Nat:=(l.filter fun m=>decide (m.k=4)).length
def en(l:List Nd): Nat:=(l.filter fun m=>!decide (m.k=4)).length
theorem ym(l:List Nd): cG l≤l.length:=List.length_filter_le _ _
theorem Bf(l:List Nd): en l≤l.length:=List.length_filter_le _ _
theorem lj(l:List Nd)(m:Nd): cG (l++[m])=cG l+if m.k=4 then 1 else 0:=by
 unfold cG;rw[List.filter_append,lA]
 congr 1
 by_cases h:m.k=4<;>simp [h]
theorem mO(l:List Nd)(m:Nd): en (l++[m])=en l+if m.k=4 then 0 else 1:=by
 unfold en;rw[List.filter_append,lA]
 congr 1
 by_cases h:m.k=4<;>simp [h]
def DJ(ps:List Nd): Prop:=∀k x,ps[k]?=some x→(ps.take k).find? (fun o=>decide (o.s=x.s))=none
def oh(cs:List Nd)(hs:Hs)(ab:Str)(m:Nd): Prop:=match dM cs hs ab m.s m.k with
 | none=>True
 | some o=>m.k=4∧(params m).map first=(params o).map first∧first m=first o
structure jl (cs:List Nd) (hs:Hs) (ab:Str) (ms:List Nd) (i:Nat) (m:Nd) : Prop where
 typ:yk hs m=true
 par:m.k=4→DJ (params m)
 nm:(ms.take i).find? (fun o=>decide (o.s=m.s))=none
 ov:oh cs hs ab m
 pl:m.k=4→(params m).length≤6
 cnt:if m.k=4 then cG (ms.take (i+1))≤12 else en (ms.take (i+1))≤8
def eT(cs:List Nd)(hs:Hs)(c:Nd): Prop:=∀i m,(c.l.drop 1)[i]?=some m→jl cs hs (up hs c.s) (c.l.drop 1) i m
def qF(m:Nd): Prop:=small (ba m).s∧∀p∈params m,small (ba p).s
theorem kg{s:Str}(h:small s): small (named s).2:=by
 unfold named;split
 ·exact fun b hb=>absurd hb List.not_mem_nil
 split
 ·exact fun b hb=>absurd hb List.not_mem_nil
 split
 ·exact fun b hb=>absurd hb List.not_mem_nil
 split
 ·exact fun b hb=>absurd hb List.not_mem_nil
 exact h
theorem bstep{b b1 x:Bool}(bad:b=true→b1=true)(z:b=false→b1=!x): b1=false↔b=false∧x=true:=by
 cases b
 ·rw[z rfl];cases x<;>simp
 ·rw[bad rfl];simp
theorem yn{cs:List Nd}(h:∀c∈cs,∀m∈c.l.drop 1,qF m){n:Str}{m:Nd}:∀{l:List Str},gx cs n 4 l=some m→qF m
 | [],e=>by cases e
 | a::l,e=>by
  rw[oe] at e;cases ho:Ae.own cs a n 4 with
  | some d=>
   rw[ho] at e;cases e;unfold Ae.own at ho;cases hc:bp cs a with
   | none=>
    rw[hc] at ho;cases ho
   | some d=>
    rw[hc] at ho;exact h d (List.mem_of_find?_eq_some hc) m (List.mem_of_find?_eq_some ho)
  | none=>
   rw[ho] at e;have e:(if a=cV∧n=ke∧(4:Int)=3 then some nr else gx cs n 4 l)=some m:=e;rw[if_neg fun k=>absurd k.2.2 dE] at e;exact yn h e
set_option maxHeartbeats 8000000 in
theorem wH{K:FuncId}{A:AW}{X:BX}{b:Bool}{c:Nd}{kv:AV}(hw:Wf A)(h:PC A X b)(N:aI A (fun g=>g<X.M) c kv)(h0:0<c.l.length)(hmem:∀m∈c.l.drop 1,jK m)(hsm:∀m∈c.l.drop 1,qF m)(hsmA:∀c∈X.cs,∀m∈c.l.drop 1,qF m){rest:List Str}(hup:nj X.hs c.s=c.s::up X.hs c.s::rest):
 aD (ES K) 47 [.ptr X.pc 0 0,.agg (au c kv)] A fun r A1=>∃b1,ir A A1 X b b1∧(b1=false↔b=false∧eT X.cs X.hs c):=by
 refine ap rfl rfl rfl ?_;have T:=ir.refl hw h;have hlp:=h.lt hw;have hM:=h.le;refine gO ?_;refine bA rfl rfl rfl rfl ?_;generalize hf3:A.aa=f3;refine wB (n:=6) (cs:=au c kv) hw h T hf3 ?_;intro A1 x3 p3 o1 c3 T;replace N:=N.k o1;have l1:=T.Fi.wf _ _ c3;refine gO ?_;obtain⟨fe,hpc⟩:=T.ps.cell;refine tD ?_;refine aC ?_;refine zC rfl (tG T.Fi.wf T.ps.hi T.ps.ht.xV T.ps.ht.len) ?_;rintro r9 A2 ⟨hb9,o2,g9⟩;replace T:=T.quiet o2;replace c3:=o2.k c3;replace N:=N.k o2;have m2:=o2.aa;rw[hup] at hb9;obtain⟨f9,t9,q9,cc9,ex9,ro9,all9,hv9,hh9,hl9',hat9⟩:=cZ hb9.row (i:=1) (s:=up X.hs c.s) rfl;refine sA ?_;refine dR ?_;refine ax rfl rfl rfl rfl rfl ?_;refine zI 1 hv9 hl9' ?_;refine eP ?_;refine rD ?_;refine zE hh9 hat9 ?_;refine eR ?_;refine aC ?_;refine sA ?_;refine aK ?_;clear hb9 g9 hv9 hh9 hl9' hat9;refine gO ?_;refine aq rfl rfl rfl ?_
 generalize hf5:A2.aa=f5;refine wB (n:=1) (cs:=[.int .i64 ((0:Nat) : Int),.int .i64 ((0:Nat) : Int)]) hw h T hf5 ?_;intro A3 x5 p5 o3 c5 T;replace c3:=o3.k c3;replace N:=N.k o3;refine gO ?_;refine bQ (Q:=fun r=>aI A3 (fun g=>g<X.M) (jT (c.l.drop 1)) r) rfl rfl rfl rfl rfl (mK N h0) ?_;intro v24 N24;refine gO ?_;generalize hms:c.l.drop 1=ms at N24 ⊢;have hcl:c.l.length=ms.length+1:=by
  rw[←hms,List.length_drop];omega
 have hlv:bm v24=some ms.length:=N24.bm;have hl9:ms.length≤9000:=N24.len;refine wJ hlv ?_;refine aE ?_;refine yL (pp 0 X.pc (pp 3 f3 (pv 4 (.str (up X.hs c.s)) (pp 5 f5 (pv 24 v24 (pn 25 ms.length (pn 26 0 .nil))))))) ?_;refine aV (ι:=Nat×Bool) (fun i=>ms.length-i.1) (fun i=>(pp 0 X.pc (pp 3 f3 (pv 4 (.str (up X.hs c.s)) (pp 5 f5 (pv 24 v24 (pn 25 ms.length (pn 26 i.1 .nil))))))))
  (fun i B=>ir A B X b i.2∧i.1≤ms.length∧gt B f3 6 (au c kv)∧gt B f5 1 [.int .i64 (en (ms.take i.1) : Nat),.int .i64 (cG (ms.take i.1) : Nat)]∧aI B (fun g=>g<X.M) c kv∧aI B (fun g=>g<X.M) (jT ms) v24∧(i.2=false↔b=false∧∀j m,j<i.1→ms[j]?=some m→jl X.cs X.hs (up X.hs c.s) ms j m)) ?_ (0,b) A3 ⟨T,Nat.zero_le _,c3,c5,N,N24,fun h=>⟨h,fun j m hj _=>absurd hj (Nat.not_lt_zero _)⟩,fun h=>h.1⟩
 clear T c3 c5 N N24;rintro ⟨i,b0⟩ A0 ⟨T,hi,c3,c5,N,N24,hz⟩ ih;replace T:ir A A0 X b b0:=T;replace hi:i≤ms.length:=hi;replace c5:gt A0 f5 1 [.int .i64 (en (ms.take i) : Nat),.int .i64 (cG (ms.take i) : Nat)]:=c5;replace hz:(b0=false↔b=false∧∀j m,j<i→ms[j]?=some m→jl X.cs X.hs (up X.hs c.s) ms j m):=hz;have nF:=Bf (ms.take i);have nM:=ym (ms.take i);have nT:(ms.take i).length≤9000:=by rw[List.length_take];omega
 have lt5:=T.Fi.wf _ _ c5;refine wD (fun hlt=>?_) fun hge=>?_
 ·have hlt:i<ms.length:=Int.ofNat_lt.1 hlt;have hu:ms[i]?=some ms[i]:=gE hlt;have htk:ms.take (i+1)=ms.take i++[ms[i]]:=tS hlt;generalize hx:ms[i]=m at hu htk;have hum:m∈ms:=by rw[←hx];exact List.getElem_mem hlt
  have hmo:=hmem m (by rw[hms];exact hum);have hms':=hsm m (by rw[hms];exact hum);obtain⟨f,s,o,cc,ex,ro,all,km,hv,hh,_,Nm,cw⟩:=N24.wi (i:=i) (u:=m) hu;refine wI hv hlt ?_;refine zK hh ((cw 6 0 (Nat.le_refl _)).trans rfl) ?_;refine oP ?_;refine aq rfl rfl rfl ?_;refine oP ?_;refine zS (by rw[AW.add_get,iP rfl]) ?_;generalize hf7:A0.aa=f7;refine gX (n:=6) (cs:=au m km) hw h T hf7 ?_;intro A1 x7 p7 o1 c7 T;obtain⟨c3,c5⟩:=o1.k2 c3 c5;replace N:=N.k o1;replace N24:=N24.k o1;replace Nm:=Nm.k o1;have l1:=T.Fi.wf _ _ c7;refine wL c7 ?_;refine zC rfl (Ag T.Fi.wf T.ps Nm hmo) ?_;rintro r A2 ⟨b2,t2,z2⟩;replace T:=T.then t2;obtain⟨c3,c5,c7⟩:=t2.Fi.k3 c3 c5 c7;replace N:=N.k t2.Fi;replace N24:=N24.k t2.Fi;replace Nm:=Nm.k t2.Fi;have m2:=t2.Fi.aa;have e2:=bstep t2.bad z2;refine gO ?_;refine sQ ?_
  refine ce (fun l1 B=>∃b',((pp 0 X.pc (pp 3 f3 (pv 4 (.str (up X.hs c.s)) (pp 5 f5 (pv 24 v24 (pn 25 ms.length (pn 6 i (pp 7 f7 (pb 8 (decide (m.k=4)) (pn 26 i .nil)))))))))) : Kn).le l1∧ir A2 B X b2 b'∧(b'=false↔b2=false∧(m.k=4→DJ (params m)))) ?_ ?_
  ·intro k' hk';refine zG (fun k4=>?_) fun k4=>?_
   ·have k4:m.k=4:=k4;have hp:=hmo.2 k4;refine wL c7 ?_;have hw2:=T.Fi.wf;have h2:=T.ps;have T0:=ir.refl hw2 h2;refine zC rfl (dH T.Fi.wf Nm hp.1) ?_;rintro r39 C1 ⟨N39,oc⟩;replace T0:=T0.quiet oc;replace c7:=oc.k c7;replace Nm:=Nm.k oc;have hlp9:(params m).length≤9000:=N39.len;refine wJ (show bm r39=some (params m).length from N39.bm) ?_;refine aE ?_;refine yL (pp 0 X.pc (pp 3 f3 (pv 4 (.str (up X.hs c.s)) (pp 5 f5 (pv 24 v24 (pn 25 ms.length (pn 6 i (pp 7 f7 (pb 8 (decide (m.k=4)) (pn 26 i (pv 39 r39 (pn 40 ((params m).length) (pn 41 0 .nil))))))))))))) ?_;refine aV (ι:=Nat×Bool) (fun w=>(params m).length-w.1) (fun w=>(pp 0 X.pc (pp 3 f3 (pv 4 (.str (up X.hs c.s)) (pp 5 f5 (pv 24 v24 (pn 25 ms.length (pn 6 i (pp 7 f7 (pb 8 (decide (m.k=4)) (pn 26 i (pv 39 r39 (pn 40 ((params m).length) (pn 41 w.1 .nil))))))))))))))
     (fun w B=>ir A2 B X b2 w.2∧w.1≤(params m).length∧gt B f7 6 (au m km)∧aI B (fun g=>g<X.M) m km∧aI B (fun g=>g<X.M) (jT (params m)) r39∧(w.2=false↔b2=false∧∀k x,k<w.1→(params m)[k]?=some x→((params m).take k).find? (fun o=>decide (o.s=x.s))=none)) ?_ (0,b2) C1 ⟨T0,Nat.zero_le _,c7,Nm,N39,fun h=>⟨h,fun j m hj _=>absurd hj (Nat.not_lt_zero _)⟩,fun h=>h.1⟩
    clear T0 c7 Nm N39;rintro ⟨k,bb⟩ C2 ⟨T0,hi2,c7,Nm,N39,hz2⟩ ih2;replace T0:ir A2 C2 X b2 bb:=T0;replace hi2:k≤(params m).length:=hi2;replace hz2:bb=false↔b2=false∧∀j x,j<k→(params m)[j]?=some x→((params m).take j).find? (fun o=>decide (o.s=x.s))=none:=hz2;refine wD (fun hlt2=>?_) fun hge2=>?_
    ·have hlt2:k<(params m).length:=Int.ofNat_lt.1 hlt2;have hu2:(params m)[k]?=some (params m)[k]:=gE hlt2;generalize hx2:(params m)[k]=x at hu2;obtain⟨f',s',o',cc',ex',ro',all',kx,hv',hh',_,Nx,hat'⟩:=N39.wi (i:=k) (u:=x) hu2;refine wI hv' hlt2 ?_;refine zK hh' ((hat' 6 0 (Nat.le_refl _)).trans rfl) ?_;refine oP ?_;refine aq rfl rfl rfl ?_;refine oP ?_;refine zS (by rw[AW.add_get,iP rfl]) ?_;generalize hf10:C2.aa=f10;refine gX (n:=6) (cs:=au x kx) hw2 h2 T0 hf10 ?_;intro D1 x10 p10 o1' c10 T2;replace T0:=T2;clear T2;replace c7:=o1'.k c7;replace Nm:=Nm.k o1';replace N39:=N39.k o1';refine tD ?_;refine rD ?_;refine zL c7 ?_;refine eR ?_;refine dR ?_;refine ax rfl rfl rfl rfl rfl ?_;refine dG rfl rfl rfl ?_;refine eP ?_;refine aC ?_;refine zC rfl (dH T0.Fi.wf Nm hp.1) ?_;rintro r48 D2 ⟨N48,o2'⟩;replace T0:=T0.quiet o2';obtain⟨c7,c10⟩:=o2'.k2 c7 c10
     replace Nm:=Nm.k o2';replace N39:=N39.k o2';refine sA ?_;refine rD ?_;refine bQ (Q:=fun r=>aI D2 (fun g=>g<X.M) (jT ((params m).take k)) r) rfl rfl rfl rfl rfl (wA N48 (Nat.le_of_lt hlt2) (show 0<(params m).length by omega)) ?_;intro r50 N50;refine eR ?_;refine aC ?_;refine zC rfl (jN (P:=fun o=>decide (o.s=x.s)) T0.Fi.wf N50 (fun _ _=>bF) rfl fun B x kv oB=>ET oB.wf (oB.ae _ _ c10 fun h=>h)) ?_;rintro r52 D3 ⟨rfl,o3'⟩;replace T0:=T0.quiet o3';obtain⟨c7,c10⟩:=o3'.k2 c7 c10;replace Nm:=Nm.k o3';replace N39:=N39.k o3';refine sA ?_;refine aC ?_;refine zC rfl (bP T0.Fi.wf T0.ps) ?_;rintro r55 D4 ⟨rfl,t4'⟩;replace T0:=T0.then t4';replace c7:=t4'.Fi.k c7;replace Nm:=Nm.k t4'.Fi;replace N39:=N39.k t4'.Fi;refine sA ?_;refine eD ?_;refine wP ?_;refine ai ?_
     refine yL (pp 0 X.pc (pp 3 f3 (pv 4 (.str (up X.hs c.s)) (pp 5 f5 (pv 24 v24 (pn 25 ms.length (pn 6 i (pp 7 f7 (pb 8 (decide (m.k=4)) (pn 26 i (pv 39 r39 (pn 40 ((params m).length) (pn 41 (k+1:Nat) .nil))))))))))))) ?_;refine ih2 (k+1,_) D4 (by simp only;omega) ⟨T0,hlt2,c7,Nm,N39,?_⟩;show ((((params m).take k).find? (fun o=>decide (o.s=x.s))).isSome || bb)=false↔b2=false∧∀j y,j<k+1→(params m)[j]?=some y→((params m).take j).find? (fun o=>decide (o.s=y.s))=none;rw[Bool.or_eq_false_iff,hz2];constructor
     ·rintro ⟨g1,g2,g3⟩;refine⟨g2,fun j y hj hy=>?_⟩;by_cases e:j=k
      ·subst e;rw[hu2] at hy;cases hy;exact Option.not_isSome_iff_eq_none.1 (by rw[g1];decide)
      ·exact g3 j y (by have hj:j<k+1:=hj;omega) hy
     ·rintro ⟨g2,g3⟩;refine⟨?_,g2,fun j y hj hy=>g3 j y (Nat.lt_succ_of_lt hj) hy⟩;rw[g3 k x (Nat.lt_succ_self _) hu2];rfl
    ·refine ay rfl ?_;refine sQ ?_;refine hk' _ _ ⟨bb,⟨rfl,rfl,rfl,rfl,rfl,rfl,rfl,rfl,rfl,rfl,trivial⟩,T0,?_⟩;rw[hz2];exact⟨fun h=>⟨h.1,fun _ j x hx=>h.2 j x (by have:=(List.getElem?_eq_some_iff.1 hx).1;omega) hx⟩,fun h=>⟨h.1,fun j x _ hx=>h.2 k4 j x hx⟩⟩
   ·have k4:¬m.k=4:=k4;refine sQ ?_;exact hk' _ _ ⟨_,⟨rfl,rfl,rfl,rfl,rfl,rfl,rfl,rfl,rfl,rfl,trivial⟩,ir.refl T.Fi.wf T.ps,fun h=>⟨h,fun e=>absurd e k4⟩,fun h=>h.1⟩
  rintro l1 A3 ⟨b3,hl,t3,e3⟩;refine bY (pp 0 X.pc (pp 3 f3 (pv 4 (.str (up X.hs c.s)) (pp 5 f5 (pv 24 v24 (pn 25 ms.length (pn 6 i (pp 7 f7 (pb 8 (decide (m.k=4)) (pn 26 i .nil)))))))))) ?_ hl;clear hl;replace T:=T.then t3;obtain⟨c3,c5,c7⟩:=t3.Fi.k3 c3 c5 c7;replace N:=N.k t3.Fi;replace N24:=N24.k t3.Fi;replace Nm:=Nm.k t3.Fi;have m3:=t3.Fi.aa;refine tD ?_;refine ax rfl rfl rfl rfl rfl ?_;refine zP ?_;refine eP ?_;refine rD ?_;refine bQ (Q:=fun r=>aI A3 (fun g=>g<X.M) (jT (ms.take i)) r) rfl rfl rfl rfl rfl ?_ ?_
  ·obtain⟨r,g1,g2⟩:=ml (K:=K) (lo:=1) (hi:=1+i) (k1:=.i64) (hv:=some (.int .i64 (1+(i:Int)))) N om om om (fun c hc=>by rw[show (1+(i:Int))=((1+i:Nat) : Int) from by omega];exact dY om);rw[hms,show 1+i-1=i from by omega] at g2;exact⟨r,g1,g2⟩
  intro r62 N62;refine eR ?_;refine dR ?_;refine ax rfl rfl rfl rfl rfl ?_;refine dG rfl rfl rfl ?_;refine eP ?_;refine aC ?_;refine zC rfl (jN (P:=fun o=>decide (o.s=m.s)) T.Fi.wf N62 (fun _ _=>bF) rfl fun B x kv oB=>EU oB.wf (oB.ae _ _ c7 fun h=>h)) ?_;rintro r4 A4 ⟨rfl,o4⟩;replace T:=T.quiet o4;obtain⟨c3,c5,c7⟩:=o4.k3 c3 c5 c7;replace N:=N.k o4;replace N24:=N24.k o4;replace Nm:=Nm.k o4;have m4:=o4.aa;refine sA ?_;refine aC ?_;refine zC rfl (bP T.Fi.wf T.ps) ?_;rintro r A5 ⟨rfl,t5⟩;replace T:=T.then t5;obtain⟨c3,c5,c7⟩:=t5.Fi.k3 c3 c5 c7;replace N:=N.k t5.Fi;replace N24:=N24.k t5.Fi;replace Nm:=Nm.k t5.Fi;have m5:=t5.Fi.aa;refine sA ?_;refine aK ?_;clear N62;refine wC (jj (c:=up X.hs c.s) (n:=m.s) (k:=m.k) T.Fi.wf T.ps) ?_;rintro r75 A6 ⟨o6,hr75⟩;replace T:=T.quiet o6;obtain⟨c3,c5,c7⟩:=o6.k3 c3 c5 c7
  replace N:=N.k o6;replace N24:=N24.k o6;replace Nm:=Nm.k o6;have hu75:∃o ko th,r75=.tuple [.agg (au o ko),.bool th]∧match dM X.cs X.hs (up X.hs c.s) m.s m.k with
   | none=>th=false
   | some o'=>th=true∧o'=o∧aI A6 (fun g=>g<X.M∨A.aa≤g) o ko:=by
   cases hm:dM X.cs X.hs (up X.hs c.s) m.s m.k with
   | none=>
    rw[hm] at hr75;exact⟨dL,.aj,false,hr75,rfl⟩
   | some o'=>
    rw[hm] at hr75;obtain⟨ko,g1,g2⟩:=hr75;exact⟨o',ko,true,g1,rfl,rfl,g2.mono fun g hg _=>hg.imp (fun h=>h) fun h=>om⟩
  clear hr75;obtain⟨o,ko,th,rfl,h75⟩:=hu75;refine gO ?_;refine aq rfl rfl rfl ?_;refine zS (by rw[AW.add_get,iP rfl]) ?_;generalize hf11:A6.aa=f11;refine gX (n:=6) (cs:=au o ko) hw h T hf11 ?_;intro A7 x11 p11 o7 c11 T;obtain⟨c3,c5,c7⟩:=o7.k3 c3 c5 c7;replace N:=N.k o7;replace N24:=N24.k o7;replace Nm:=Nm.k o7;replace h75:match dM X.cs X.hs (up X.hs c.s) m.s m.k with
   | none=>th=false
   | some o'=>th=true∧o'=o∧aI A7 (fun g=>g<X.M∨A.aa≤g) o ko:=by
   cases hm:dM X.cs X.hs (up X.hs c.s) m.s m.k with
   | none=>
    rw[hm] at h75;exact h75
   | some o'=>
    rw[hm] at h75;exact⟨h75.1,h75.2.1,h75.2.2.ae o7 fun _ _ h=>h⟩
  refine wD (fun k4=>?_) fun k4=>?_
  ·have k4:m.k=4:=k4;have hp:=hmo.2 k4;refine gO ?_;refine sQ ?_;refine ce (fun l1 B=>∃x,((pp 0 X.pc (pp 3 f3 (pv 4 (.str (up X.hs c.s)) (pp 5 f5 (pv 24 v24 (pn 25 ms.length (pp 7 f7 (pn 26 i .nil)))))))) : Kn).le l1∧ir A7 B X (((ms.take i).find? fun o=>decide (o.s=m.s)).isSome || b3) (x || (((ms.take i).find? fun o=>decide (o.s=m.s)).isSome || b3))∧(x=false↔oh X.cs X.hs (up X.hs c.s) m)) ?_ ?_
   ·intro k' hk';have h9:=T.ps;have hw9:=T.Fi.wf;have T9:=ir.refl hw9 h9;cases hmb:dM X.cs X.hs (up X.hs c.s) m.s m.k with
    | none=>
     rw[hmb] at h75;have h75:th=false:=h75;subst h75;have hov:oh X.cs X.hs (up X.hs c.s) m:=by
      unfold oh;rw[hmb];exact trivial
     refine tD ?_;refine aL 81 false rfl rfl ?_;refine dO ?_;refine aC ?_;refine sA ?_;refine dO ?_;refine aC ?_;refine sA ?_;refine dO ?_;refine aC ?_;refine sA ?_;refine dO ?_;refine aC ?_;refine sA ?_;refine dO ?_;refine aC ?_;refine sA ?_;refine dO ?_;refine aC ?_;refine sA ?_;refine dO ?_;refine aC ?_;refine sA ?_;refine dO ?_;refine aC ?_;refine zC rfl (bP hw9 h9) ?_;rintro r B ⟨rfl,tB⟩;refine sA ?_;refine eD ?_;exact hk' _ _ ⟨false,⟨rfl,rfl,rfl,rfl,rfl,rfl,rfl,rfl,trivial⟩,tB,fun _=>hov,fun _=>rfl⟩
    | some o'=>
     rw[hmb] at h75;obtain⟨rfl,rfl,No⟩:=h75;have hov:oh X.cs X.hs (up X.hs c.s) m↔m.k=4∧(params m).map first=(params o').map first∧first m=first o':=by
      unfold oh;rw[hmb]
     have hoo:=jg T.ps.mem hmb;have hos:qF o':=by
      rw[k4] at hmb;exact yn hsmA hmb
     have hop:=hoo.1.2 (hoo.2.trans k4);have hno:=No.bh;refine tD ?_;refine aL 81 true rfl rfl ?_;refine rD ?_;refine zL c7 ?_;refine eR ?_;refine rD ?_;refine zL c11 ?_;refine eR ?_;refine aC ?_;refine zC rfl (dH T9.Fi.wf Nm hp.1) ?_;rintro r8 A8 ⟨Na,o8⟩;replace T9:=T9.quiet o8;obtain⟨c7,c11⟩:=o8.k2 c7 c11;replace Nm:=Nm.k o8;replace No:=No.k o8;refine sA ?_;refine aC ?_;refine zC rfl (li T9.Fi.wf Na hp.2) ?_;rintro r84 A9 ⟨b84,_,o9⟩;replace T9:=T9.quiet o9;obtain⟨c7,c11⟩:=o9.k2 c7 c11;replace Nm:=Nm.k o9;replace No:=No.k o9;refine sA ?_;refine aC ?_;refine zC rfl (dH T9.Fi.wf No hop.1) ?_;rintro r10 A10 ⟨Nb,o10⟩;replace T9:=T9.quiet o10;obtain⟨c7,c11⟩:=o10.k2 c7 c11;replace Nm:=Nm.k o10;replace No:=No.k o10;replace b84:=b84.k o10;refine sA ?_;refine aC ?_;refine zC rfl (li T9.Fi.wf Nb hop.2) ?_;rintro r87 A11 ⟨b87,_,o11⟩
     replace T9:=T9.quiet o11;obtain⟨c7,c11⟩:=o11.k2 c7 c11;replace Nm:=Nm.k o11;replace No:=No.k o11;replace b84:=b84.k o11;refine sA ?_;refine aC ?_;refine cY rfl rfl bF rfl (Ab (xs:=(params m).map first) (ys:=(params o').map first) T9.Fi.wf (by rw[lM];exact b84.row) (by rw[lM];exact b87.row) (by rw[lM,jL hp.1];have:=Nm.len;omega) (fun x hx=>by
      obtain⟨y,hy,rfl⟩:=List.mem_map.1 hx;exact kg (hms'.2 y hy)) fun x hx=>by
      obtain⟨y,hy,rfl⟩:=List.mem_map.1 hx;exact kg (hos.2 y hy)) ?_
     rintro r88 A' ⟨rfl,e'⟩;obtain rfl:A11=A':=e'.symm;refine sA ?_;refine dR ?_;by_cases heq:(params m).map first=(params o').map first
     ·refine aL 89 true rfl (yT heq) ?_;refine rD ?_;refine zL c7 ?_;refine eR ?_;refine rD ?_;refine zL c11 ?_;refine eR ?_;refine aC ?_;refine zC rfl (eN T9.Fi.wf Nm om) ?_;rintro r12 A12 ⟨rfl,o12⟩;replace T9:=T9.quiet o12;obtain⟨c7,c11⟩:=o12.k2 c7 c11;replace No:=No.k o12;refine sA ?_;refine aC ?_;refine zC rfl (eN T9.Fi.wf No om) ?_;rintro r13 A13 ⟨rfl,o13⟩;replace T9:=T9.quiet o13;replace c7:=o13.k c7;refine sA ?_;refine dR ?_;refine ax rfl rfl rfl rfl rfl ?_
      try refine aM rfl ?_
      refine EI (a:=first m) (b:=first o') rfl rfl rfl (kg hms'.1) (kg hos.1) ?_;refine eP ?_;refine aC ?_;refine zC rfl (bP T9.Fi.wf T9.ps) ?_;rintro r B ⟨rfl,tB⟩;refine sA ?_;refine eD ?_;refine hk' _ _ ⟨!decide (first m=first o'),⟨rfl,rfl,rfl,rfl,rfl,rfl,rfl,rfl,trivial⟩,T9.then tB,?_⟩;by_cases hq:first m=first o'
      ·rw[yT hq];exact⟨fun _=>hov.2 ⟨k4,heq,hq⟩,fun _=>rfl⟩
      ·rw[yF hq];exact⟨fun h=>(by cases h),fun h=>absurd (hov.1 h).2.2 hq⟩
     ·refine aL 89 false rfl (yF heq) ?_;refine dO ?_;refine aC ?_;refine sA ?_;refine dO ?_;refine aC ?_;refine sA ?_;refine dO ?_;refine aC ?_;refine zC rfl (bP T9.Fi.wf T9.ps) ?_;rintro r B ⟨rfl,tB⟩;refine sA ?_;refine eD ?_;exact hk' _ _ ⟨true,⟨rfl,rfl,rfl,rfl,rfl,rfl,rfl,rfl,trivial⟩,T9.then tB,fun h=>(by cases h),fun h=>absurd (hov.1 h).2.1 heq⟩
   rintro l1 A8 ⟨x6,hl,t8,e8⟩;refine bY (pp 0 X.pc (pp 3 f3 (pv 4 (.str (up X.hs c.s)) (pp 5 f5 (pv 24 v24 (pn 25 ms.length (pp 7 f7 (pn 26 i .nil)))))))) ?_ hl;clear hl h75;replace T:=T.then t8;obtain⟨c3,c5,c7⟩:=t8.Fi.k3 c3 c5 c7;replace N:=N.k t8.Fi;replace N24:=N24.k t8.Fi;replace Nm:=Nm.k t8.Fi;refine tD ?_;refine rD ?_;refine zL c7 ?_;refine eR ?_;refine aC ?_;refine zC rfl (dH T.Fi.wf Nm hp.1) ?_;rintro r9 A9 ⟨Np,o9⟩;replace T:=T.quiet o9;obtain⟨c3,c5,c7⟩:=o9.k3 c3 c5 c7;replace N:=N.k o9;replace N24:=N24.k o9;refine sA ?_;refine rD ?_;refine zJ (show bm r9=some (params m).length from Np.bm) ?_;refine eR ?_;refine aC ?_;refine zC rfl (bP T.Fi.wf T.ps) ?_;rintro r A10 ⟨rfl,t10⟩;replace T:=T.then t10;obtain⟨c3,c5,c7⟩:=t10.Fi.k3 c3 c5 c7;replace N:=N.k t10.Fi;replace N24:=N24.k t10.Fi;refine sA ?_;refine eD ?_
   refine aY (n:=2) (e:=3) 1 rfl rfl rfl rfl rfl rfl rfl dE ?_;refine zE c5 rfl ?_;refine wP ?_;refine aY (n:=2) (e:=3) 1 rfl rfl rfl rfl rfl rfl rfl dE ?_;refine zS2 (y:=[.int .i64 (en (ms.take i) : Nat),.int .i64 ((cG (ms.take i) : Nat)+1)]) T.Fi.wf c5 ?_;intro A11 o11 cN;replace T:=T.fresh hw h o11 fun g hg=>by cases hg;exact x5
   replace c5:=cN;clear cN;obtain⟨c3,c7⟩:=o11.k2 c3 c7;replace N:=N.k o11;replace N24:=N24.k o11;refine gO ?_;refine aY (n:=2) (e:=3) 1 rfl rfl rfl rfl rfl rfl rfl dE ?_;refine zE c5 rfl ?_;refine wC (bP T.Fi.wf T.ps) ?_;rintro r A12 ⟨rfl,t12⟩;replace T:=T.then t12;obtain⟨c3,c5⟩:=t12.Fi.k2 c3 c5;replace N:=N.k t12.Fi;replace N24:=N24.k t12.Fi;refine wX ?_;refine wP ?_;refine ai ?_;refine yL (pp 0 X.pc (pp 3 f3 (pv 4 (.str (up X.hs c.s)) (pp 5 f5 (pv 24 v24 (pn 25 ms.length (pn 26 (i+1:Nat) .nil))))))) ?_;have eF:en (ms.take (i+1))=en (ms.take i):=by rw[htk,mO,iP k4];rfl
   have eM:cG (ms.take (i+1))=cG (ms.take i)+1:=by rw[htk,lj,iP k4]
   refine ih (i+1,_) A12 (by simp only;omega) ⟨T,hlt,c3,?_,N,N24,?_⟩
   ·show gt A12 f5 1 [.int .i64 (en (ms.take (i+1)) : Nat),.int .i64 (cG (ms.take (i+1)) : Nat)];rw[eF,eM];exact c5
   ·show (decide ((12:Int)<(cG (ms.take i) : Nat)+1) || (decide ((6:Int)<((params m).length:Nat)) || (x6 || (((ms.take i).find? fun o=>decide (o.s=m.s)).isSome || b3))))=false↔b=false∧∀j m,j<i+1→ms[j]?=some m→jl X.cs X.hs (up X.hs c.s) ms j m;rw[Bool.or_eq_false_iff,Bool.or_eq_false_iff,Bool.or_eq_false_iff,Bool.or_eq_false_iff,e8,e3,e2,hz];constructor
    ·rintro ⟨g1,g2,g3,g4,⟨⟨g5,g6⟩,g7⟩,g8⟩;refine⟨g5,fun j y hj hy=>?_⟩;by_cases e:j=i
     ·subst e;rw[hu] at hy;cases hy;refine⟨g7,g8,Option.not_isSome_iff_eq_none.1 (by rw[g4];decide),g3,fun _=>?_,?_⟩
      ·have:=of_decide_eq_false g2;omega
      ·rw[iP k4,eM];have:=of_decide_eq_false g1;omega
     ·exact g6 j y om hy
    ·rintro ⟨g5,g6⟩;have F:=g6 i m (Nat.lt_succ_self _) hu;have F1:=F.cnt;rw[iP k4,eM] at F1;have F2:=F.pl k4;refine⟨yF om,yF om,F.ov,by rw[F.nm];rfl,⟨⟨g5,fun j y hj hy=>g6 j y om hy⟩,F.typ⟩,F.par⟩
  ·have k4:¬m.k=4:=k4;have h7:th=false↔oh X.cs X.hs (up X.hs c.s) m:=by
    unfold oh;cases hmb:dM X.cs X.hs (up X.hs c.s) m.s m.k with
    | none=>
     rw[hmb] at h75;exact⟨fun _=>trivial,fun _=>h75⟩
    | some o'=>
     rw[hmb] at h75;exact⟨fun h=>(by rw[h75.1] at h;cases h),fun h=>absurd h.1 k4⟩
   clear h75;refine wC (bP T.Fi.wf T.ps) ?_;rintro r A8 ⟨rfl,t8⟩;replace T:=T.then t8;obtain⟨c3,c5,c7⟩:=t8.Fi.k3 c3 c5 c7;replace N:=N.k t8.Fi;replace N24:=N24.k t8.Fi;refine gO ?_;refine aY (n:=2) (e:=3) 0 rfl rfl rfl rfl rfl rfl rfl dE ?_;refine zE c5 rfl ?_;refine wP ?_;refine aY (n:=2) (e:=3) 0 rfl rfl rfl rfl rfl rfl rfl dE ?_;refine zS2 (y:=[.int .i64 ((en (ms.take i) : Nat)+1),.int .i64 (cG (ms.take i) : Nat)]) T.Fi.wf c5 ?_;intro A9 o9 cN;replace T:=T.fresh hw h o9 fun g hg=>by cases hg;exact x5
   replace c5:=cN;clear cN;obtain⟨c3,c7⟩:=o9.k2 c3 c7;replace N:=N.k o9;replace N24:=N24.k o9;refine gO ?_;refine aY (n:=2) (e:=3) 0 rfl rfl rfl rfl rfl rfl rfl dE ?_;refine zE c5 rfl ?_;refine wC (bP T.Fi.wf T.ps) ?_;rintro r A10 ⟨rfl,t10⟩;replace T:=T.then t10;obtain⟨c3,c5⟩:=t10.Fi.k2 c3 c5;replace N:=N.k t10.Fi;replace N24:=N24.k t10.Fi;refine wP ?_;refine ai ?_;refine yL (pp 0 X.pc (pp 3 f3 (pv 4 (.str (up X.hs c.s)) (pp 5 f5 (pv 24 v24 (pn 25 ms.length (pn 26 (i+1:Nat) .nil))))))) ?_;have eF:en (ms.take (i+1))=en (ms.take i)+1:=by rw[htk,mO,iN k4]
   have eM:cG (ms.take (i+1))=cG (ms.take i):=by rw[htk,lj,iN k4];rfl
   refine ih (i+1,_) A10 (by simp only;omega) ⟨T,hlt,c3,?_,N,N24,?_⟩
   ·show gt A10 f5 1 [.int .i64 (en (ms.take (i+1)) : Nat),.int .i64 (cG (ms.take (i+1)) : Nat)];rw[eF,eM];exact c5
   ·show (decide ((8:Int)<(en (ms.take i) : Nat)+1) || (th || (((ms.take i).find? fun o=>decide (o.s=m.s)).isSome || b3)))=false↔b=false∧∀j m,j<i+1→ms[j]?=some m→jl X.cs X.hs (up X.hs c.s) ms j m;rw[Bool.or_eq_false_iff,Bool.or_eq_false_iff,Bool.or_eq_false_iff,h7,e3,e2,hz];constructor
    ·rintro ⟨g1,g3,g4,⟨⟨g5,g6⟩,g7⟩,g8⟩;refine⟨g5,fun j y hj hy=>?_⟩;by_cases e:j=i
     ·subst e;rw[hu] at hy;cases hy;refine⟨g7,g8,Option.not_isSome_iff_eq_none.1 (by rw[g4];decide),g3,fun h=>absurd h k4,?_⟩;rw[iN k4,eF];have:=of_decide_eq_false g1;omega
     ·exact g6 j y om hy
    ·rintro ⟨g5,g6⟩;have F:=g6 i m (Nat.lt_succ_self _) hu;have F1:=F.cnt;rw[iN k4,eF] at F1;refine⟨yF om,F.ov,by rw[F.nm];rfl,⟨⟨g5,fun j y hj hy=>g6 j y om hy⟩,F.typ⟩,F.par⟩
 ·refine ay rfl ?_;refine gO ?_;refine bd rfl ⟨b0,T,?_⟩;rw[hz];unfold eT;rw[hms];exact⟨fun h=>⟨h.1,fun j x hx=>h.2 j x (by have:=(List.getElem?_eq_some_iff.1 hx).1;omega) hx⟩,fun h=>⟨h.1,fun j x _ hx=>h.2 j x hx⟩⟩
end Go.Proofs.YtafamggbkobcfaaGreat.Ae
