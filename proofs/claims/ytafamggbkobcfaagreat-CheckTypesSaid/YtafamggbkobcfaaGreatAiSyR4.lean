/- A part of the proof of the statement CheckTypes. -/
import Derived.Test.YtafamggbkobcfaaGreatAiSyK28
import Derived.Test.YtafamggbkobcfaaGreatAiSyR1
import Derived.Test.YtafamggbkobcfaaGreatAiSyT17
namespace Go.Proofs.YtafamggbkobcfaaGreat.Ae
open Go.AE
set_option linter.unusedVariables false
set_option maxRecDepth 100000
theorem own_in{cs:List Nd}{c n:Str}{k:Int}{m:Nd}(h:Ae.own cs c n k=some m): ∃d,d∈cs∧d.s=c∧m∈d.l.drop 1∧m.k=k∧m.s=n:=by
 unfold Ae.own at h;cases hc:bp cs c with
 | none=>
  rw[hc] at h;cases h
 | some d=>
  rw[hc] at h;have h:(d.l.drop 1).find? (fun m=>decide (m.s=n∧m.k=k))=some m:=h;have h1:=jP hc;have h2:=of_decide_eq_true (p:=m.s=n∧m.k=k) (List.find?_some (p:=fun m:Nd=>decide (m.s=n∧m.k=k)) h);exact⟨d,h1.1,h1.2,List.mem_of_find?_eq_some h,h2.2,h2.1⟩
def TPost(A A1:AW)(r:AV)(z:Option bM): Prop:=ac A A1 ag∧match z with
 | none=>r=.tuple [.agg (bc (0,[])),.int .i64 200]
 | some y=>r=.tuple [.agg (bc y),.int .i64 0]
set_option maxHeartbeats 8000000 in
theorem yp{K:FuncId}{n:Nat}{A:AW}{t x:Nd}{kv kx:AV}{c m:Str}{z:Option bM}(hw:Wf A)(N:aI A (fun g=>g<A.aa) t kv)(Nx:aI A (fun g=>g<A.aa) x kx)(hok:Ai t.l n)(hx:Ex x∧sz x≤n)
 (hz:(¬iv t.l n→z=none)∧(iv t.l n→z=match Ae.own t.l c m 4 with
  | none=>none
  | some k=>cW ⟨t.l,cI t.l,c,cL k⟩ n x)) :
 aD (ES K) 7 [.agg (au t kv),.str c,.str m,.agg (au x kx)] A fun r A1=>TPost A A1 r z:=by
 refine ap rfl rfl rfl ?_;have T:ac A A ag:=ac.refl hw _;refine gO ?_;have hsx:=Nx.bh;refine bA rfl rfl rfl rfl ?_;generalize hf4:A.aa=f4;refine iV (n:=6) (cs:=au t kv) T hf4 ?_;intro A1 x4 o1 c4 T;replace N:=N.k o1;replace Nx:=Nx.k o1;have l1:=T.wf _ _ c4;refine bA rfl rfl rfl rfl ?_;generalize hf7:A1.aa=f7;refine iV (n:=6) (cs:=au x kx) T hf7 ?_;intro A2 x7 o2 c7 T;replace c4:=o2.k c4;replace N:=N.k o2;replace Nx:=Nx.k o2;have l2:=T.wf _ _ c7;refine aq rfl rfl rfl ?_;generalize hf8:A2.aa=f8;refine iV (n:=2) (cs:=bc (0,[])) T hf8 ?_;intro A3 x8 o3 c8 T;obtain⟨c4,c7⟩:=o3.k2 c4 c7;replace N:=N.k o3;replace Nx:=Nx.k o3;have l3:=T.wf _ _ c8;refine wL c4 ?_;have hchk:=wN (K:=K) (n:=n) (cs:=t.l) T.wf (N.mono fun g hg _=>Nat.lt_of_lt_of_le hg T.aa) rfl hok;refine zC rfl hchk ?_;rintro r A4 ⟨o4,pc,rfl,hpc,hr⟩;replace T:=T.same o4
 obtain⟨c7,c8⟩:=o4.k2 c7 c8;replace Nx:=Nx.k o4;have m4:=o4.aa;refine gO ?_;rcases hr with ⟨hno,v,fe,hce⟩|⟨hyes,fr,fm,vn,h⟩
 ·refine gO ?_;refine bL (v:=.bool true) rfl rfl rfl rfl ?_;refine rU ?_;refine wS c8 ?_;refine dz rfl rfl rfl (bk rfl rfl (by rw[AW.aw,iP rfl]) rfl) ?_;have oS:=ac.put (x:=.cells 0 false 2 (bc (0,[]))) T.wf (T.wf _ _ c8);refine⟨ac.fresh hw T oS fun g hg=>by cases hg;exact x8,?_⟩;rw[show z=none from (hz.1 hno)];rfl
 generalize hX:(⟨A3.aa,pc,fr,fm,kv,vn,t.l,cI t.l⟩:BX)=X at h;have eM:X.M=A3.aa:=by rw[←hX]
 have ep:X.pc=pc:=by rw[←hX]
 have ec:X.cs=t.l:=by rw[←hX]
 have eh:X.hs=cI t.l:=by rw[←hX]
 clear hX;obtain rfl:X.pc=pc:=ep;have hlp:=h.lt T.wf;obtain⟨fe,hce⟩:=h.cell;refine gO ?_;refine bL (v:=.bool false) rfl rfl rfl rfl ?_;refine rU ?_;refine zC rfl (ve (c:=c) (n:=m) (k:=4) T.wf h) ?_;rintro r A5 ⟨o5,hr⟩;rw[ec] at hr;replace T:=T.same o5;replace h:=h.quiet o5;clear hce;obtain⟨c7,c8⟩:=o5.k2 c7 c8;replace Nx:=Nx.k o5;have m5:=o5.aa;cases ho:Ae.own t.l c m 4 with
 | none=>
  rw[ho] at hr;have hr:r=.tuple [.agg (au dL .aj),.bool false]:=hr;subst hr;refine gO ?_;refine aq rfl rfl rfl ?_;refine zS (by rw[AW.add_get,iP rfl]) ?_;generalize hf11:A5.aa=f11;refine yf (n:=6) (cs:=au dL .aj) T hf11 ?_;intro A6 x11 o6 c11 T;replace c8:=o6.k c8;refine rU ?_;refine wS c8 ?_;refine dz rfl rfl rfl (bk rfl rfl (by rw[AW.aw,iP rfl]) rfl) ?_;have oS:=ac.put (x:=.cells 0 false 2 (bc (0,[]))) T.wf (T.wf _ _ c8);refine⟨ac.fresh hw T oS fun g hg=>by cases hg;exact x8,?_⟩;rw[show z=none from (hz.2 hyes).trans (by rw[ho])];rfl
 | some k=>
  rw[ho] at hr;obtain⟨kk,hr,Nk⟩:∃kv,r=.tuple [.agg (au k kv),.bool true]∧aI A5 (fun g=>g<X.M∨A4.aa≤g) k kv:=hr;subst hr;have hzz:z=cW ⟨t.l,cI t.l,c,cL k⟩ n x:=(hz.2 hyes).trans (by rw[ho]);refine gO ?_;refine aq rfl rfl rfl ?_;refine zS (by rw[AW.add_get,iP rfl]) ?_;generalize hf11:A5.aa=f11;refine yf (n:=6) (cs:=au k kk) T hf11 ?_;intro A6 x11 o6 c11 T;obtain⟨c7,c8⟩:=o6.k2 c7 c8;replace Nx:=Nx.k o6;replace Nk:=Nk.k o6;have l6:=T.wf _ _ c11;replace h:=h.quiet o6;refine rU ?_;obtain⟨d,hd1,hd2,hd3,hd4,_⟩:=own_in ho;have hmo:=(hok.mem d hd1 k hd3);have hp:=hmo.2 hd4;obtain⟨di,hdi,hdx⟩:=List.getElem_of_mem hd1;obtain⟨mi,hmi,hmx⟩:=List.getElem_of_mem hd3;have hpar:=(hyes.Cq di d (by rw[gE hdi,hdx]) mi k (by rw[gE hmi,hmx])).par hd4;refine tD ?_;refine rD ?_;refine zL c11 ?_;refine eR ?_;refine rD ?_;refine zL c7 ?_;refine eR ?_;refine dR ?_
  refine bW rfl rfl rfl rfl ?_;refine aq rfl rfl rfl ?_;generalize hf13:A6.aa=f13;refine iV (n:=2) (cs:=bc (0,[])) T hf13 ?_;intro A7 x13 o7 c13 T;replace h:=h.quiet o7;obtain⟨c7,c8⟩:=o7.k2 c7 c8;replace Nx:=Nx.k o7;replace Nk:=Nk.k o7;refine oP ?_;refine aC ?_;refine zC rfl (tZ T.wf h Nk hp.1 hp.2 (by rw[←hd2];exact hok.cls d hd1) (fun _=>mP hpar)) ?_;rintro r A8 ⟨o8,fb,vv,rfl,hfb,S,hvv⟩;replace T:=T.same o8;obtain⟨c7,c8,c13⟩:=o8.k3 c7 c8 c13;replace Nx:=Nx.k o8;refine sA ?_;refine aC ?_;refine zC rfl (bT n T.wf S.bo (Nx.mono fun g hg _=>by show g<X.M;omega) hx) ?_;rintro r A9 ⟨y,b1,rfl,t9,z9⟩;have nq:∀g,g<X.pc→¬one X.pc g:=fun g h1 h2=>by have h2:g=X.pc:=h2;omega
  replace T:ac A A9 ag:=ac.fresh hw T t9.Fi fun g hg=>by
   have hg:g=X.pc:=hg;omega
  replace c8:=t9.Fi.ae _ _ c8 (nq _ om);have npc:f13≠X.pc:=om;replace c13:=t9.Fi.ae _ _ c13 fun e=>npc e;have hps:=t9.ps.eO;have z9:=z9 rfl;dsimp only at z9;rw[show cW (BY.cx ⟨X,fb,c,first k,vv,.aj,cL k,[]⟩) n x=z from by
   rw[hzz];show cW ⟨X.cs,X.hs,c,cL k⟩ n x=_;rw[ec,eh]] at z9
  refine sA ?_;refine aC ?_;refine zS c13 ?_;have o13:=ac.put (x:=.cells 0 false 2 (bc y)) T.wf (T.wf _ _ c13);have hpc13:=hps.cell;refine bG (fun B=>ac A9 B (one f13)∧B.heap.get f13=some (.cells 0 false 2 (bc y))) ⟨o13,by rw[AW.aw,if_pos rfl];rfl⟩ ?_;clear o13;rintro B ⟨o13,c13'⟩;replace c13:=c13';clear c13';replace c8:=o13.k c8;replace T:ac A B ag:=ac.fresh hw T o13 nF;obtain⟨fe,hce⟩:=hpc13;replace hce:=o13.ae _ _ hce fun e=>npc e.symm;refine sA ?_;refine eD ?_;cases hzv:z with
  | none=>
   rw[hzv] at z9;have z9:b1=true:=z9;subst z9;refine bL (v:=.bool true) rfl rfl rfl rfl ?_;refine rU ?_;refine wS c8 ?_;refine dz rfl rfl rfl (bk rfl rfl (by rw[AW.aw,iP rfl]) rfl) ?_;have oS:=ac.put (x:=.cells 0 false 2 (bc (0,[]))) T.wf (T.wf _ _ c8);exact⟨ac.fresh hw T oS fun g hg=>by cases hg;exact x8,rfl⟩
  | some w=>
   rw[hzv] at z9;obtain⟨rfl,rfl⟩:b1=false∧y=w:=z9;refine bL (v:=.bool false) rfl rfl rfl rfl ?_;refine rU ?_;refine wL c13 ?_;refine wS c8 ?_;refine dz rfl rfl rfl (bk rfl rfl (by rw[AW.aw,iP rfl]) rfl) ?_;have oS:=ac.put (x:=.cells 0 false 2 (bc y)) T.wf (T.wf _ _ c8);exact⟨ac.fresh hw T oS fun g hg=>by cases hg;exact x8,rfl⟩
def RC(A:AW)(dc:Nat)(t:Nd)(kv hv:AV)(b:Bool)(more:List AV): Prop:=∃a:Int,A.heap.get dc=some (.cells 0 false 18 (au t kv++(hv::.bool b::.int .i64 a::more)))
section
variable{A A1:AW}{dc:Nat}{t:Nd}{kv hv:AV}{b b1:Bool}{more:List AV}
theorem RC.ae{T:Nat→Prop}(h:RC A dc t kv hv b more)(o:ac A A1 T)(hd:¬T dc): RC A1 dc t kv hv b more:=h.imp fun _ h=>o.ae _ _ h hd
theorem RC.quiet(h:RC A dc t kv hv b more)(o:ac A A1 ag): RC A1 dc t kv hv b more:=h.ae o fun h=>h
theorem RC.lt(hw:Wf A)(h:RC A dc t kv hv b more): dc<A.aa:=by
 obtain⟨a,h⟩:=h;exact hw _ _ h
end
theorem uc{K:FuncId}{A:AW}{dc:Nat}{t:Nd}{kv hv:AV}{b:Bool}{more:List AV}{a:Int}(hw:Wf A)(h:RC A dc t kv hv b more):
 aD (ES K) 33 [.ptr dc 0 0,.int .i64 a] A fun r A1=>RC A1 dc t kv hv true more∧ac A A1 (one dc):=by
 obtain⟨a0,hc⟩:=h;refine ap rfl rfl rfl ?_;refine gO ?_;cases b with
 | true=>
  refine rU ?_;exact bd rfl ⟨⟨a0,hc⟩,ac.refl hw _⟩
 | false=>
  refine rU ?_;refine zS hc ?_;have o1:=ac.put (x:=.cells 0 false 18 (au t kv++(hv::.bool true::.int .i64 a0::more))) hw (hw _ _ hc);refine bG (fun A1=>ac A A1 (one dc)∧A1.heap.get dc=some (.cells 0 false 18 (au t kv++(hv::.bool true::.int .i64 a0::more)))) ⟨o1,by rw[AW.aw,if_pos rfl];rfl⟩ ?_;clear o1;rintro A1 ⟨o1,hc1⟩;refine gO ?_;refine zS hc1 ?_;have o2:=ac.put (x:=.cells 0 false 18 (au t kv++(hv::.bool true::.int .i64 a::more))) o1.wf (o1.wf _ _ hc1);refine bG (fun A2=>ac A A2 (one dc)∧A2.heap.get dc=some (.cells 0 false 18 (au t kv++(hv::.bool true::.int .i64 a::more)))) ⟨o1.same o2,by rw[AW.aw,if_pos rfl];rfl⟩ ?_;clear o2;rintro A2 ⟨o2,hc2⟩;refine gO ?_;exact bd rfl ⟨⟨a,hc2⟩,o2⟩
theorem vu{K:FuncId}{A:AW}{dc:Nat}{t:Nd}{kv hv:AV}{b x:Bool}{more:List AV}{a:Int}(hw:Wf A)(h:RC A dc t kv hv b more):
 aD (ES K) 25 [.ptr dc 0 0,.bool x,.int .i64 a] A fun r A1=>r=.bool (x && !b)∧RC A1 dc t kv hv (!x || b) more∧ac A A1 (one dc):=by
 refine ap rfl rfl rfl ?_;refine gO ?_;cases x with
 | true=>
  obtain⟨a0,hc⟩:=h;refine rU ?_
  try refine aF 13 true rfl rfl ?_
  refine gO ?_;cases b with
  | true=>exact af rfl ⟨rfl,⟨a0,hc⟩,ac.refl hw _⟩
  | false=>exact af rfl ⟨rfl,⟨a0,hc⟩,ac.refl hw _⟩
 | false=>
  refine rU ?_;refine zC rfl (uc hw h) ?_;rintro r A1 ⟨h1,o1⟩;obtain⟨a1,hc⟩:=h1;refine gO ?_
  try refine aF 13 false rfl rfl ?_
  refine gO ?_;exact af rfl ⟨rfl,⟨a1,hc⟩,o1⟩
theorem fP{K:FuncId}{A:AW}{s:Str}(hw:Wf A): aD (ES K) 29 [.str s] A fun r A1=>r=.agg (bc (named s))∧ac A A1 ag:=by
 refine ap rfl rfl rfl ?_;refine gO ?_;refine zA (n:=2) (y:=bc (0,[])) hw ?_;intro A1 o1 c1;generalize hf1:A.aa=f1 at c1;have fin:∀{y:bM},ac A (A1.put f1 (.cells 0 false 2 (bc y))) ag:=fun {y}=>ac.fresh hw o1 (ac.put o1.wf (o1.wf _ _ c1)) nF;refine wD (fun h1=>?_) fun h1=>?_
 ·refine wS c1 ?_;exact fO rfl rfl (bk rfl rfl (by rw[AW.aw,iP rfl]) rfl) ⟨by rw[show named s=(1,[]) from iP h1];rfl,fin (y:=(1,[]))⟩
 refine wD (fun h2=>?_) fun h2=>?_
 ·refine wS c1 ?_;exact fO rfl rfl (bk rfl rfl (by rw[AW.aw,iP rfl]) rfl) ⟨by rw[show named s=(2,[]) from (iN h1).trans (iP h2)];rfl,fin (y:=(2,[]))⟩
 refine wD (fun h3=>?_) fun h3=>?_
 ·refine wS c1 ?_;exact fO rfl rfl (bk rfl rfl (by rw[AW.aw,iP rfl]) rfl) ⟨by rw[show named s=(3,[]) from (iN h1).trans ((iN h2).trans (iP h3))];rfl,fin (y:=(3,[]))⟩
 refine wD (fun h4=>?_) fun h4=>?_
 ·refine wS c1 ?_;exact fO rfl rfl (bk rfl rfl (by rw[AW.aw,iP rfl]) rfl) ⟨by rw[show named s=(0,[]) from (iN h1).trans ((iN h2).trans ((iN h3).trans (iP h4)))];rfl,fin (y:=(0,[]))⟩
 refine wS c1 ?_;exact fO rfl rfl (bk rfl rfl (by rw[AW.aw,iP rfl]) rfl) ⟨by rw[show named s=(4,s) from (iN h1).trans ((iN h2).trans ((iN h3).trans (iN h4)))];rfl,fin (y:=(4,s))⟩
theorem fQ{K:FuncId}{A:AW}{S:Nat→Prop}{t:Nd}{kv:AV}(hw:Wf A)(h:aI A S t kv)(h2:2≤t.l.length): aD (ES K) 28 [.agg (au t kv)] A fun r A1=>aI A1 S (jT (params t)) r∧ac A A1 ag:=by
 have hl:=h.len;refine ap rfl rfl rfl ?_;refine gO ?_;refine zB (n:=6) (y:=au t kv) hw ?_;intro A1 o1 c1;generalize A.aa=f1 at c1;refine wJ h.bm ?_;refine fd rfl rfl rfl om om ?_;refine oP ?_;refine bQ (Q:=fun r=>aI A1 S (jT (params t)) r) rfl rfl rfl rfl rfl ?_ ?_
 ·obtain⟨r,g1,g2⟩:=ml (K:=K) (lo:=1) (hi:=t.l.length-1) (k1:=.i64) (hv:=some (.int .i64 ((t.l.length-1:Nat) : Int))) (h.ae o1 fun _ _ h=>h) om om om (fun c hc=>dY om);refine⟨r,?_,?_⟩
  ·rw[show ((t.l.length:Int)-1)=((t.l.length-1:Nat) : Int) from by omega];exact g1
  ·unfold params;rw[show t.l.length-2=t.l.length-1-1 from by omega];exact g2
 intro r hr;refine gO ?_;exact af rfl ⟨hr,o1⟩
theorem dB{K:FuncId}{A:AW}{y:bM}(hw:Wf A): aD (ES K) 64 [.agg (bc y)] A fun r A1=>r=.bool (decide (y.1=4))∧ac A A1 ag:=by
 refine ap rfl rfl rfl ?_;refine gO ?_;refine zB (n:=2) (y:=bc y) hw ?_;intro A1 o1 c1;generalize A.aa=f1 at c1;refine gO ?_;exact af rfl ⟨rfl,o1⟩
def DN(S:Nat→Prop)(o:Option Nd)(A A1:AW)(r:AV): Prop:=
 ac A A1 ag∧match o with
  | none=>r=.tuple [.agg (au dL .aj),.bool false]
  | some c=>∃kv,r=.tuple [.agg (au c kv),.bool true]∧aI A1 S c kv
theorem kh{K:FuncId}{A:AW}{S:Nat→Prop}{dc:Nat}{t:Nd}{kv hv:AV}{b:Bool}{more:List AV}{n:Str}(hw:Wf A)(h:RC A dc t kv hv b more)(N:aI A S t kv)(hS:∀g,S g→g<A.aa):
 aD (ES K) 9 [.ptr dc 0 0,.str n] A fun r A1=>DN S (bp t.l n) A A1 r:=by
 obtain⟨a,hc⟩:=h;have hlv:=N.bm;have hl9:=N.len;refine ap rfl rfl rfl ?_;refine gO ?_;refine zA (n:=6) (y:=au dL .aj) hw ?_;intro A1 o1 c4;generalize hf4:A.aa=f4 at c4;replace hc:=o1.k hc;replace N:=N.k o1;have fin:∀{u:Nd} {ku:AV},ac A (A1.put f4 (.cells 0 false 6 (au u ku))) ag:=fun {u ku}=>ac.fresh hw o1 (ac.put o1.wf (o1.wf _ _ c4)) nF;refine gO ?_;refine aE ?_;refine yL (pp 0 dc (pv 1 (.str n) (pp 4 f4 (pn 6 0 .nil)))) ?_;refine aV (ι:=Nat) (fun i=>t.l.length-i) (fun i=>pp 0 dc (pv 1 (.str n) (pp 4 f4 (pn 6 i .nil)))) (fun i B=>B=A1∧i≤t.l.length∧bp t.l n=bp (t.l.drop i) n) ?_ 0 A1 ⟨rfl,Nat.zero_le _,rfl⟩;rintro i B ⟨rfl,hi,hp⟩ ih;refine wJ hlv ?_;refine zG (fun hlt=>?_) fun hge=>?_
 ·have hlt:i<t.l.length:=Int.ofNat_lt.1 hlt;have hu:t.l[i]?=some t.l[i]:=gE hlt;have hd:t.l.drop i=t.l[i]::t.l.drop (i+1):=List.drop_eq_getElem_cons hlt;generalize hx:t.l[i]=u at hu hd;rw[hd] at hp;have ec:bp (u::t.l.drop (i+1)) n=if u.s=n then some u else bp (t.l.drop (i+1)) n:=by
   unfold bp;rw[List.find?_cons];by_cases h:u.s=n
   ·rw[yT h,iP h]
   ·rw[yF h,iN h]
  rw[ec] at hp;obtain⟨f,s,o,cc,ex,ro,all,ku,hv',hs,hh,hl,hN,cw⟩:=bv N hu;refine wI hv' hl ?_;refine aZ rfl rfl rfl rfl hh (v:=.str u.s) (aR ((cw 1 2 dE).trans rfl)) ?_;refine wD (fun he=>?_) fun he=>?_
  ·have he:u.s=n:=he;rw[iP he] at hp;refine wI hv' hl ?_;refine zK hh ((cw 6 0 (Nat.le_refl _)).trans rfl) ?_;refine oP ?_;refine zS c4 ?_;have op:=ac.put (x:=.cells 0 false 6 (au u ku)) o1.wf (o1.wf _ _ c4);refine gO ?_;refine dz rfl rfl rfl (bk rfl rfl (by rw[AW.aw,iP rfl]) rfl) ⟨fin (u:=u) (ku:=ku),?_⟩;rw[hp];exact⟨ku,rfl,hN.ae op fun g hg e=>by have:=hS g hg;have e:g=f4:=e;omega⟩
  ·have he:¬u.s=n:=he;rw[iN he] at hp;refine wP ?_;refine ai ?_;refine yL (pp 0 dc (pv 1 (.str n) (pp 4 f4 (pn 6 (i+1:Nat) .nil)))) ?_;exact ih (i+1) B om ⟨rfl,hlt,hp⟩
 ·have hge:i=t.l.length:=by
   omega
  rw[hge,List.drop_length] at hp;refine ay rfl ?_;refine wS c4 ?_;refine dz rfl rfl rfl (bk rfl rfl (by rw[AW.aw,iP rfl]) rfl) ⟨fin (u:=dL) (ku:=.aj),?_⟩;rw[hp];rfl
theorem yq{K:FuncId}{A:AW}{S:Nat→Prop}{dc:Nat}{t:Nd}{kv hv:AV}{b:Bool}{more:List AV}{n:Str}(hw:Wf A)(h:RC A dc t kv hv b more)(N:aI A S t kv)(hS:∀g,S g→g<A.aa):
 aD (ES K) 56 [.ptr dc 0 0,.str n] A fun r A1=>r=.bool (decide (gg t.l n))∧ac A A1 ag:=by
 refine ap rfl rfl rfl ?_;refine wC (kh hw h N hS) ?_;rintro r A1 ⟨o1,hr⟩;have hu:∃z zk,r=.tuple [.agg (au z zk),.bool (bp t.l n).isSome]:=by
  cases hm:bp t.l n with
  | none=>
   rw[hm] at hr;exact⟨_,_,hr⟩
  | some z=>
   rw[hm] at hr;obtain⟨zk,hr,_⟩:=hr;exact⟨z,zk,hr⟩
 obtain⟨z,zk,rfl⟩:=hu;clear hr;refine gO ?_;refine aq rfl rfl rfl ?_;refine zS (by rw[AW.add_get,iP rfl]) ?_;refine bG (fun A2=>ac A A2 ag) (o1.same (made o1.wf)) ?_;intro A2 o2;refine gO ?_;have hiff:(bp t.l n).isSome=true↔n∈ei t.l:=mN;cases hm:(bp t.l n).isSome with
 | true=>
  refine aF 14 true rfl rfl ?_;refine gO ?_;exact af rfl ⟨congrArg AV.bool (yT (.inr (.inr (.inr (hiff.1 hm))))).symm,o2⟩
 | false=>
  refine aF 14 false rfl rfl ?_;refine gO ?_;have hno:n∉ei t.l:=fun k=>by
   rw[hiff.2 k] at hm;cases hm
  by_cases h1:n=[]
  ·refine wT 18 h1 ?_;refine gO ?_;exact af rfl ⟨congrArg AV.bool (yT (.inl h1)).symm,o2⟩
  refine wF 18 h1 ?_;refine gO ?_;by_cases h2:n=bB
  ·refine wT 22 h2 ?_;refine gO ?_;exact af rfl ⟨congrArg AV.bool (yT (.inr (.inl h2))).symm,o2⟩
  refine wF 22 h2 ?_;refine gO ?_;exact af rfl ⟨congrArg AV.bool (decide_eq_decide.2 ⟨fun h=>.inr (.inr (.inl h)),fun h=>((h.resolve_left h1).resolve_left h2).resolve_right hno⟩),o2⟩
def nE(v:Str×bM×Bool): List AV:=[.str v.1,.int .i64 v.2.1.1,.str v.2.1.2,.bool v.2.2]
structure DX where
 M:Nat
 dc:Nat
 t:Nd
 kv:AV
 fr:Nat
 vn:AV
 vs:AV
 hs:Hs
structure DY where
 X:DX
 cls:Str
 mt:Nd
 mv:AV
 vv:AV
 w:List (Str×bM×Bool)
 nl:Nat
def DY.more(Y:DY): List AV:=.str Y.cls::(au Y.mt Y.mv++[Y.vv,.int .i64 (Y.nl:Int)])
def DY.vars(Y:DY): Vs:=Y.w.map fun v=>(v.1,v.2.1)
def DY.cx(Y:DY): Cx:=⟨Y.X.t.l,Y.X.hs,Y.cls,Y.vars⟩
structure DC (A:AW) (Y:DY) (b:Bool) : Prop where
 cell:RC A Y.X.dc Y.X.t Y.X.kv (.ptr Y.X.fr 0 0) b Y.more
 tree:aI A (fun g=>g<Y.X.M) Y.X.t Y.X.kv
 mtr:aI A (fun g=>g<Y.X.M) Y.mt Y.mv
 ri:Ri A Y.X.fr Y.X.vn Y.X.vs Y.X.hs
 ht:Tree Y.X.hs
 hd:Hd Y.X.hs
 le:Y.X.M≤Y.X.dc
 n1:Y.X.fr≠Y.X.dc
 n2:¬Y.X.vn.av Y.X.dc
 n3:¬Y.X.vs.av Y.X.dc
 row:lE A 4 Y.vv Y.w.length (Y.w.flatMap nE)
 out:∀g,Y.vv.av g→Y.X.M≤g∧g≠Y.X.dc∧g≠Y.X.fr∧¬Y.X.vn.av g∧¬Y.X.vs.av g
 hc:named Y.cls=(4,Y.cls)
 vl:Y.w.length≤1000000000
 ll:Y.nl≤1000000000
 nd:b=false→(Y.w.map Prod.fst).Nodup
 mem:∀c∈Y.X.t.l,∀m∈c.l.drop 1,jK m
 nf:bp Y.X.t.l cV=none
structure DT (A A1:AW) (Y:DY) (b b1:Bool) : Prop where
 ps:DC A1 Y b1
 Fi:ac A A1 (one Y.X.dc)
 bad:b=true→b1=true
section
variable{A A1 A2:AW}{Y:DY}{b b0 b1 b2:Bool}
theorem Ri.ny{fr:Nat}{vn vs:AV}{hs:Hs}{T:Nat→Prop}(h:Ri A fr vn vs hs)(o:ac A A1 T)(h1:¬T fr)(h2:∀g,vn.av g→¬T g)(h3:∀g,vs.av g→¬T g): Ri A1 fr vn vs hs:=
 ⟨o.ae _ _ h.cell h1,gQ h.n o h2,gQ h.s o h3⟩
theorem DC.lt(hw:Wf A)(h:DC A Y b): Y.X.dc<A.aa:=h.cell.lt hw
def DY.has(Y:DY)(g:Nat): Prop:=g<Y.X.M∨g=Y.X.dc∨g=Y.X.fr∨Y.X.vn.av g∨Y.X.vs.av g∨Y.vv.av g
theorem DC.under(hw:Wf A)(h:DC A Y b): ∀g,Y.has g→g<A.aa:=fun g hg=>by
 rcases hg with hg|rfl|rfl|hg|hg|hg
 ·have:=h.lt hw;have:=h.le;omega
 ·exact h.lt hw
 ·exact hw _ _ h.ri.cell
 ·obtain⟨t,ht⟩:=fj h.ri.n hg;exact hw _ _ ht
 ·obtain⟨t,ht⟩:=fj h.ri.s hg;exact hw _ _ ht
 ·exact h.row.row.under hw g hg
theorem DC.ae{T:Nat→Prop}(h:DC A Y b)(o:ac A A1 T)(hT:∀g,Y.has g→¬T g): DC A1 Y b:=
 ⟨h.cell.ae o (hT _ (.inr (.inl rfl))),h.tree.ae o fun g hg=>hT g (.inl hg),h.mtr.ae o fun g hg=>hT g (.inl hg),h.ri.ny o (hT _ (.inr (.inr (.inl rfl)))) (fun g hg=>hT g (.inr (.inr (.inr (.inl hg))))) fun g hg=>hT g (.inr (.inr (.inr (.inr (.inl hg))))),
  h.ht,h.hd,h.le,h.n1,h.n2,h.n3,h.row.ae o fun g hg=>hT g (.inr (.inr (.inr (.inr (.inr hg))))),h.out,h.hc,h.vl,h.ll,h.nd,h.mem,h.nf⟩
theorem DC.quiet(h:DC A Y b)(o:ac A A1 ag): DC A1 Y b:=h.ae o fun _ _ h=>h
theorem DC.flag(h:DC A Y b)(c:RC A1 Y.X.dc Y.X.t Y.X.kv (.ptr Y.X.fr 0 0) b1 Y.more)(o:ac A A1 (one Y.X.dc))(hb:b=true→b1=true): DT A A1 Y b b1:=
 ⟨⟨c,h.tree.ae o fun g hg e=>by
  have e:g=Y.X.dc:=e;have:=h.le;omega,h.mtr.ae o fun g hg e=>by
  have e:g=Y.X.dc:=e;have:=h.le;omega,h.ri.ny o (fun e=>h.n1 e) (fun g hg e=>h.n2 (by cases e;exact hg)) fun g hg e=>h.n3 (by cases e;exact hg),
  h.ht,h.hd,h.le,h.n1,h.n2,h.n3,h.row.ae o fun g hg e=>(h.out g hg).2.1 e,h.out,h.hc,h.vl,h.ll,fun e=>h.nd (by
   cases b
   ·rfl
   ·rw[hb rfl] at e;cases e),h.mem,h.nf⟩,o,hb⟩
theorem DT.refl(hw:Wf A)(h:DC A Y b): DT A A Y b b:=⟨h,ac.refl hw _,fun h=>h⟩
theorem DT.then(h:DT A A1 Y b b1)(k:DT A1 A2 Y b1 b2): DT A A2 Y b b2:=⟨k.ps,h.Fi.same k.Fi,fun z=>k.bad (h.bad z)⟩
theorem DT.quiet(h:DT A A1 Y b b1)(o:ac A1 A2 ag): DT A A2 Y b b1:=⟨h.ps.quiet o,h.Fi.same (o.mono fun _ h=>h.elim),h.bad⟩
theorem DT.after(o:ac A A1 ag)(h:DT A1 A2 Y b b1): DT A A2 Y b b1:=⟨h.ps,(o.mono fun _ h=>h.elim).same h.Fi,h.bad⟩
theorem DT.fresh{T:Nat→Prop}(hw:Wf A)(h0:DC A Y b0)(h:DT A A1 Y b b1)(o:ac A1 A2 T)(ht:∀g,T g→A.aa≤g): DT A A2 Y b b1:=by
 refine⟨h.ps.ae o fun g hg k=>?_,⟨o.wf,Nat.le_trans h.Fi.aa o.aa,fun g F hg hn=>?_⟩,h.bad⟩
 ·have:=ht g k;have:=h0.under hw g hg;omega
 ·exact o.ae _ _ (h.Fi.ae _ _ hg hn) fun k=>by
   have:=ht g k;have:=hw g F hg;omega
theorem DT.bl(T:DT A A1 Y b b1){t:Nd}{kv:AV}(N:aI A (fun g=>g<Y.X.M) t kv): aI A1 (fun g=>g<Y.X.M) t kv:=N.ae T.Fi fun g hg e=>by
 have e:g=Y.X.dc:=e;have:=T.ps.le;omega
theorem DT.flag(T:DT A A1 Y b false): b=false:=by
 cases b
 ·rfl
 ·exact absurd (T.bad rfl) dE
variable{E:Env}{C:bC}{all rest:List Oper}{l:Kn}{K:Kn→AW→Prop}{n f:Nat}{cs cs0:List AV}
theorem fX(hw:Wf A)(h:DC A Y b0)(T:DT A A1 Y b b1)(hf:A1.aa=f)(g:∀A2,A.aa≤f→f≠Y.X.dc→ac A1 A2 ag→A2.heap.get f=some (.cells 0 false n cs)→DT A A2 Y b b1→WO E C all rest l A2 K): WO E C all rest l (A1.add (.cells 0 false n cs)) K:=by
 subst hf;have h1:=T.Fi.aa;have h2:=h.lt hw;have o:ac A1 (A1.add (.cells 0 false n cs)) ag:=ac.add T.Fi.wf _;exact g _ h1 om o (by rw[AW.add_get,iP rfl]) (T.quiet o)
theorem eZ(hw:Wf A)(h:DC A Y b0)(T:DT A A1 Y b b1)(hf:A1.aa=f)(g:∀A2,A.aa≤f→f≠Y.X.dc→ac A1 A2 ag→A2.heap.get f=some (.cells 0 false n cs)→DT A A2 Y b b1→WO E C all rest l A2 K): WO E C all rest l ((A1.add (.cells 0 false n cs0)).put f (.cells 0 false n cs)) K:=by
 subst hf;have h1:=T.Fi.aa;have h2:=h.lt hw;have o:ac A1 _ ag:=made (es:=n) (cs:=cs0) (cs':=cs) T.Fi.wf;exact g _ h1 om o (by rw[AW.aw,iP rfl]) (T.quiet o)
theorem bD(hw:Wf A)(h:DC A Y b0)(T:DT A A1 Y b b1)(x:A.aa≤f)(c:A1.heap.get f=some (.cells 0 false n cs0))(g:∀A2,ac A1 A2 (one f)→A2.heap.get f=some (.cells 0 false n cs)→DT A A2 Y b b1→WO E C all rest l A2 K): WO E C all rest l (A1.put f (.cells 0 false n cs)) K:=by
 have o:=ac.put (x:=.cells 0 false n cs) T.Fi.wf (T.Fi.wf _ _ c);exact g _ o (by rw[AW.aw,iP rfl]) (T.fresh hw h o fun g hg=>by cases hg;exact x)
end
theorem aG{K:FuncId}{A:AW}{Y:DY}{b x:Bool}{a:Int}(hw:Wf A)(h:DC A Y b):
 aD (ES K) 25 [.ptr Y.X.dc 0 0,.bool x,.int .i64 a] A fun r A1=>r=.bool (x && !b)∧DT A A1 Y b (!x || b):=by
 refine (vu hw h.cell).mono ?_;rintro r A1 ⟨rfl,c,o⟩;exact⟨rfl,h.flag c o fun e=>by rw[e,Bool.or_true]⟩
theorem Aj{K:FuncId}{A:AW}{Y:DY}{b:Bool}{a:Int}(hw:Wf A)(h:DC A Y b):
 aD (ES K) 33 [.ptr Y.X.dc 0 0,.int .i64 a] A fun r A1=>DT A A1 Y b true:=by
 refine (uc hw h.cell).mono ?_;rintro r A1 ⟨c,o⟩;exact h.flag c o fun _=>rfl
theorem qG{K:FuncId}{A:AW}{Y:DY}{b:Bool}{n:Str}(hw:Wf A)(h:DC A Y b):
 aD (ES K) 9 [.ptr Y.X.dc 0 0,.str n] A fun r A1=>DN (fun g=>g<Y.X.M) (bp Y.X.t.l n) A A1 r:=
 kh hw h.cell h.tree fun g hg=>h.under hw g (.inl hg)
theorem lm{K:FuncId}{A:AW}{Y:DY}{b:Bool}{x y:bM}(hw:Wf A)(h:DC A Y b):
 aD (ES K) 61 [.ptr Y.X.fr 0 0,.agg (bc x),.agg (bc y)] A fun r A1=>r=.bool (decide (bI Y.X.hs x y))∧ac A A1 ag:=
 zr (x:=x) (y:=y) hw h.ri h.ht.xV h.ht.ups h.hd h.ht.len
theorem Ak(v:Str×bM)(l:Vs)(n:Str): bN (v::l) n=if v.1=n then some v.2 else bN l n:=rfl
theorem jQ{K:FuncId}{A:AW}{Y:DY}{b:Bool}{n:Str}(hw:Wf A)(h:DC A Y b):
 aD (ES K) 30 [.ptr Y.X.dc 0 0,.str n] A fun r A1=>A1=A∧∃z:Int,r=.int .i64 z∧((z = -1∧bN Y.vars n=none)∨∃(i:Nat) (v:Str×bM×Bool),z=(i:Int)∧Y.w[i]?=some v∧v.1=n∧bN Y.vars n=some v.2.1):=by
 obtain⟨a,hc⟩:=h.cell;unfold DY.more at hc;have hvl:=h.vl;refine ap rfl rfl rfl ?_;refine gO ?_;refine aE ?_;refine yL (pp 0 Y.X.dc (pv 1 (.str n) (pn 5 0 .nil))) ?_;refine aV (ι:=Nat) (fun i=>Y.w.length-i) (fun i=>pp 0 Y.X.dc (pv 1 (.str n) (pn 5 i .nil))) (fun i B=>B=A∧i≤Y.w.length∧bN Y.vars n=bN ((Y.w.drop i).map fun v=>(v.1,v.2.1)) n) ?_ 0 A ⟨rfl,Nat.zero_le _,rfl⟩;rintro i B ⟨rfl,hi,hp⟩ ih;refine wJ h.row.row.bm ?_;refine zG (fun hlt=>?_) fun hge=>?_
 ·have hlt:i<Y.w.length:=Int.ofNat_lt.1 hlt;have hu:Y.w[i]?=some Y.w[i]:=gE hlt;have hd:Y.w.drop i=Y.w[i]::Y.w.drop (i+1):=List.drop_eq_getElem_cons hlt;generalize Y.w[i]=v at hu hd;rw[hd,List.map_cons,Ak] at hp;obtain⟨f,t,o,cc,ex,ro,all,hv,hh,hl,cw⟩:=dT (cl:=nE) (fun _=>rfl) h.row.row hu;refine wI hv hl ?_;refine aZ rfl rfl rfl rfl hh (v:=.str v.1) (aR ((cw 1 0 dE).trans rfl)) ?_;refine wD (fun he=>?_) fun he=>?_
  ·have he:v.1=n:=he;rw[iP he] at hp;refine gO ?_;exact af rfl ⟨rfl,_,rfl,.inr ⟨i,v,rfl,hu,he,hp⟩⟩
  ·have he:¬v.1=n:=he;rw[iN he] at hp;refine wP ?_;refine ai ?_;refine yL (pp 0 Y.X.dc (pv 1 (.str n) (pn 5 (i+1:Nat) .nil))) ?_;exact ih (i+1) B om ⟨rfl,hlt,hp⟩
 ·have hge:i=Y.w.length:=by
   omega
  rw[hge,List.drop_length] at hp;refine ay rfl ?_;refine gO ?_;exact af rfl ⟨rfl,_,rfl,.inl ⟨rfl,hp⟩⟩
theorem Cr{s:Str}(h:(named s).1=4): named s=(4,s):=by
 revert h;unfold named;split
 ·exact fun h=>absurd h dE
 split
 ·exact fun h=>absurd h dE
 split
 ·exact fun h=>absurd h dE
 split
 ·exact fun h=>absurd h dE
 exact fun _=>rfl
theorem mQ{K:FuncId}{A:AW}{Y:DY}{b:Bool}{t:Nd}{kv:AV}(hw:Wf A)(h:DC A Y b):
 aD (ES K) 59 [.ptr Y.X.dc 0 0,.agg (au t kv)] A fun r A1=>r=.agg (bc (named t.s))∧DT A A1 Y b (!decide (there Y.X.hs (named t.s)) || b):=by
 refine ap rfl rfl rfl ?_;have T:=DT.refl hw h;refine gO ?_;refine bA rfl rfl rfl rfl ?_;generalize hf3:A.aa=f3;refine fX (n:=6) (cs:=au t kv) hw h T hf3 ?_;intro A1 x3 p3 o1 c3 T;refine aq rfl rfl rfl ?_;generalize hf4:A1.aa=f4;refine fX (n:=2) (cs:=bc (0,[])) hw h T hf4 ?_;intro A2 x4 p4 o2 c4 T;replace c3:=o2.k c3;refine wC (fP T.Fi.wf) ?_;rintro r A3 ⟨rfl,o3⟩;replace T:=T.quiet o3;obtain⟨c3,c4⟩:=o3.k2 c3 c4;refine oP ?_;refine aq rfl rfl rfl ?_;refine zS (by rw[AW.add_get,iP rfl]) ?_;generalize hf5:A3.aa=f5;refine eZ (n:=2) (cs:=bc (named t.s)) hw h T hf5 ?_;intro A4 x5 p5 o4 c5 T;obtain⟨c3,c4⟩:=o4.k2 c3 c4;refine wD (fun h4=>?_) fun h4=>?_
 ·have h4:(named t.s).1=4:=h4;obtain⟨a0,hc⟩:=T.ps.cell;refine gO ?_;have e4:named t.s=(4,t.s):=Cr h4;refine tD ?_;refine aC ?_;refine zC rfl (gS T.ps.ri T.ps.ht.len) ?_;rintro r A' ⟨rfl,e'⟩;obtain rfl:A4=A':=e'.symm;refine sA ?_;refine aC ?_;refine zC rfl (aG T.Fi.wf T.ps) ?_;rintro r A5 ⟨rfl,t5⟩;replace T:=T.then t5;obtain⟨c4,c5⟩:=t5.Fi.k2 c4 c5;refine sA ?_;refine eD ?_;refine wL c5 ?_;refine zS c4 ?_;refine bD (cs:=bc (named t.s)) hw h T x4 c4 ?_;intro A6 o6 c4 T;refine gO ?_;refine zT c4 ⟨rfl,?_⟩;rw[show decide (there Y.X.hs (named t.s))=decide ((0:Int)≤ix (Y.X.hs.map Prod.fst) t.s 0) from decide_eq_decide.2 (by
   unfold there;rw[e4,fW];exact⟨fun h=>h.resolve_left fun h=>h rfl,.inr⟩)]
  exact T
 have h4:¬(named t.s).1=4:=h4;refine wL c5 ?_;refine zS c4 ?_;refine bD (cs:=bc (named t.s)) hw h T x4 c4 ?_;intro A5 o5 c4 T;refine gO ?_;refine zT c4 ⟨rfl,?_⟩;rw[yT (show there Y.X.hs (named t.s) from .inl h4)];exact T
theorem jm{K:FuncId}{A:AW}{Y:DY}{b:Bool}{c n:Str}{k:Int}(hw:Wf A)(h:DC A Y b):
 aD (ES K) 27 [.ptr Y.X.dc 0 0,.str c,.str n,.int .i64 k] A fun r A1=>DN (fun g=>g<Y.X.M∨A.aa≤g) (dM Y.X.t.l Y.X.hs c n k) A A1 r:=by
 obtain⟨a0,hc⟩:=h.cell;have hal:=rG Y.X.hs c;have hhl:=h.ht.len;refine ap rfl rfl rfl ?_;refine gO ?_;refine zA (n:=6) (y:=au dL .aj) hw ?_;intro A1 o1 c8;generalize hf8:A.aa=f8 at c8;have x8:=o1.wf _ _ c8;replace hc:=o1.k hc;refine wC (pT o1.wf (h.quiet o1).ri h.ht.xV h.ht.ups h.hd h.ht.len) ?_;rintro r A2 ⟨hb,o2,hg⟩;have o12:=o1.same o2;have n2:=o2.aa;replace c8:=o2.k c8;unfold dM;generalize nj Y.X.hs c=al at hb hal;have fin:∀{B:AW} {t:Nd} {kv:AV},ac A B ag→gt B f8 6 (au dL .aj)→ac A (B.put f8 (.cells 0 false 6 (au t kv))) ag:=fun o hB=>ac.fresh hw o (ac.put o.wf (o.wf _ _ hB)) nF;refine gO ?_;refine aE ?_;refine yL (pp 0 Y.X.dc (pv 2 (.str n) (pz 3 k (pp 8 f8 (pv 10 r (pn 11 0 .nil)))))) ?_
 refine aV (ι:=Nat) (fun i=>al.length-i) (fun i=>(pp 0 Y.X.dc (pv 2 (.str n) (pz 3 k (pp 8 f8 (pv 10 r (pn 11 i .nil))))))) (fun i B=>ac A2 B ag∧i≤al.length∧gx Y.X.t.l n k al=gx Y.X.t.l n k (al.drop i)) ?_ 0 A2 ⟨ac.refl o2.wf _,Nat.zero_le _,rfl⟩;rintro i B ⟨oB,hi,hp⟩ ih;replace c8:=oB.k c8;replace hb:=hb.k oB;have o1B:=o12.same oB;have nB:=oB.aa;refine wJ hb.row.bm ?_;refine zG (fun hlt=>?_) fun hge=>?_
 ·have hlt:i<al.length:=Int.ofNat_lt.1 hlt;have hu:al[i]?=some al[i]:=gE hlt;have hd:al.drop i=al[i]::al.drop (i+1):=List.drop_eq_getElem_cons hlt;generalize hx:al[i]=u at hu hd;rw[hd,oe] at hp;obtain⟨f,t,o,cc,ex,ro,all,hv,hh,hl,cw⟩:=cZ hb.row hu;refine wI hv hl ?_;refine zE hh cw ?_;refine dU 9 (pp 0 Y.X.dc (pv 2 (.str n) (pz 3 k (pp 8 f8 (pv 10 r (pn 11 i (pb 39 (decide (u=cV∧n=ke∧k=3)) .nil))))))) ?_ ?_
  ·refine oP ?_;by_cases h1:u=cV
   ·refine wT 32 h1 ?_;refine oP ?_;by_cases h2:n=ke
    ·refine wT 36 h2 ?_;refine oP ?_;exact⟨rfl,rfl,rfl,rfl,rfl,rfl,rfl,congrArg (fun x=>some (AV.bool x)) (decide_eq_decide.2 ⟨fun h=>⟨h1,h2,h⟩,fun h=>h.2.2⟩),trivial⟩
    ·refine wF 36 h2 ?_;refine oP ?_;exact⟨rfl,rfl,rfl,rfl,rfl,rfl,rfl,congrArg (fun x=>some (AV.bool x)) (yF fun h=>h2 h.2.1).symm,trivial⟩
   ·refine wF 32 h1 ?_;refine oP ?_
    try refine aF 36 false rfl rfl ?_
    refine oP ?_;exact⟨rfl,rfl,rfl,rfl,rfl,rfl,rfl,congrArg (fun x=>some (AV.bool x)) (yF fun h=>h1 h.1).symm,trivial⟩
  refine sQ ?_;refine zG (fun hbc=>?_) fun hbc=>?_
  ·have hbc:u=cV∧n=ke∧k=3:=hbc;obtain⟨rfl,rfl,rfl⟩:=hbc;have hno:Ae.own Y.X.t.l cV ke 3=none:=by
    unfold Ae.own;rw[h.nf]
   rw[hno] at hp;have hp:gx Y.X.t.l ke 3 al=some nr:=hp.trans (iP ⟨rfl,rfl,rfl⟩);refine gO ?_;refine bG (fun A5=>ac B A5 ag∧A5.heap.get B.aa=some (.cells 0 false 6 (au (nd 6 0 [105,110,116] []) .aj))) ⟨ac.add oB.wf _,by rw[AW.add_get,iP rfl];rfl⟩ ?_;rintro A5 ⟨o5,c47⟩;generalize hf47:B.aa=f47 at c47;replace c8:=o5.k c8;refine oP ?_;refine zS c8 ?_;have op:=ac.put (x:=.cells 0 false 6 (au nr (.slice f47 0 0 1 1 true))) o5.wf (o5.wf _ _ c8);refine gO ?_;refine dz rfl rfl rfl (bk rfl rfl (by rw[AW.aw,iP rfl]) rfl) ⟨fin (t:=nr) (kv:=.slice f47 0 0 1 1 true) (o1B.same o5) c8,?_⟩;simp only[hp]
   refine⟨.slice f47 0 0 1 1 true,rfl,.mk (cs:=au (nd 6 0 [105,110,116] []) .aj++[]) (.inr ⟨f47,0,0,1,true,false,au (nd 6 0 [105,110,116] []) .aj,rfl,op.ae _ _ c47 fun e=>by have e:f47=f8:=e;omega,Nat.le_refl _,rfl⟩) (fun g hg=>.inr (by cases hg;omega)) dE (.cons (aI.cB rfl) .nil)⟩
  ·have hbc:¬(u=cV∧n=ke∧k=3):=hbc;rw[iN hbc] at hp;refine wI hv hl ?_;refine wE hh cw ?_;refine zC rfl (qG oB.wf ((h.quiet o12).quiet oB)) ?_;rintro r3 A3 ⟨o3,hr⟩;have hu3:∃z zk,(∃th,r3=.tuple [.agg (au z zk),.bool th])∧aI A3 (fun g=>g<Y.X.M) z zk∧Ae.own Y.X.t.l u n k=(z.l.drop 1).find? fun m=>decide (m.s=n∧m.k=k):=by
    unfold Ae.own;cases hm:bp Y.X.t.l u with
    | none=>
     rw[hm] at hr;exact⟨dL,.aj,⟨_,hr⟩,aI.cB rfl,rfl⟩
    | some z=>
     rw[hm] at hr;obtain⟨zk,hr,N⟩:=hr;exact⟨z,zk,⟨_,hr⟩,N,rfl⟩
   obtain⟨z,zk,⟨th,rfl⟩,N,hown⟩:=hu3;clear hr;replace c8:=o3.k c8;refine gO ?_;refine zM (n:=6) (y:=au z zk) o3.wf ?_;intro A4 o4 c12;generalize hf12:A3.aa=f12 at c12;replace c8:=o4.k c8;replace N:=N.k o4;have hlz:=N.bm;have hl9:=N.len;rw[hown] at hp;clear hown;refine gO ?_;refine aE ?_;refine yL (pp 0 Y.X.dc (pv 2 (.str n) (pz 3 k (pp 8 f8 (pv 10 r (pn 11 i (pp 12 f12 (pn 14 (1:Nat) .nil)))))))) ?_;refine aV (ι:=Nat) (fun j=>z.l.length-j) (fun j=>(pp 0 Y.X.dc (pv 2 (.str n) (pz 3 k (pp 8 f8 (pv 10 r (pn 11 i (pp 12 f12 (pn 14 j .nil))))))))) (fun j D=>D=A4∧1≤j∧(z.l.drop 1).find? (fun m=>decide (m.s=n∧m.k=k))=(z.l.drop j).find? fun m=>decide (m.s=n∧m.k=k)) ?_ 1 A4 ⟨rfl,Nat.le_refl _,rfl⟩;rintro j D ⟨rfl,hj,hq⟩ ih2;refine wJ hlz ?_;refine zG (fun hlt2=>?_) fun hge2=>?_
   ·have hlt2:j<z.l.length:=Int.ofNat_lt.1 hlt2;have hw2:z.l[j]?=some z.l[j]:=gE hlt2;have hd2:z.l.drop j=z.l[j]::z.l.drop (j+1):=List.drop_eq_getElem_cons hlt2;generalize z.l[j]=w at hw2 hd2;rw[hd2,List.find?_cons] at hq;obtain⟨f',s',o',cc',ex',ro',all',kw,hv',hs',hh',hl',Nw,hat'⟩:=bv N hw2;have t0:=aR ((hat' 1 0 dE).trans rfl);have t2:=aR ((hat' 1 2 dE).trans rfl);refine wI hv' hl' ?_;refine aZ rfl rfl rfl rfl hh' (v:=.int .i64 w.k) t0 ?_;refine dU 12 (pp 0 Y.X.dc (pv 2 (.str n) (pz 3 k (pp 8 f8 (pv 10 r (pn 11 i (pp 12 f12 (pn 14 j (pb 76 (decide (w.s=n∧w.k=k)) .nil))))))))) ?_ ?_
    ·refine oP ?_;by_cases h1:w.k=k
     ·refine wT 67 h1 ?_;refine oP ?_
      try refine aM rfl ?_
      refine wI hv' hl' ?_
      try refine aM rfl ?_
      refine aZ rfl rfl rfl rfl hh' (v:=.str w.s) t2 ?_;refine oP ?_;exact⟨rfl,rfl,rfl,rfl,rfl,rfl,rfl,rfl,rfl,congrArg (fun x=>some (AV.bool x)) (decide_eq_decide.2 ⟨fun h=>⟨h,h1⟩,fun h=>h.1⟩),trivial⟩
     ·refine wF 67 h1 ?_;refine oP ?_;exact⟨rfl,rfl,rfl,rfl,rfl,rfl,rfl,rfl,rfl,congrArg (fun x=>some (AV.bool x)) (yF fun h=>h1 h.2).symm,trivial⟩
    refine sQ ?_;refine zG (fun hbc=>?_) fun hbc=>?_
    ·rw[yT hbc] at hq;refine wI hv' hl' ?_;refine zK hh' ((hat' 6 0 (Nat.le_refl _)).trans rfl) ?_;refine oP ?_;refine zS c8 ?_;have op:=ac.put (x:=.cells 0 false 6 (au w kw)) o4.wf (o4.wf _ _ c8);refine gO ?_;refine dz rfl rfl rfl (bk rfl rfl (by rw[AW.aw,iP rfl]) rfl) ⟨fin (t:=w) (kv:=kw) ((o1B.same o3).same o4) c8,?_⟩;rw[hq] at hp;simp only[hp];have hMA:=h.le;have hlp:=h.lt hw;exact⟨kw,rfl,(Nw.ae op fun g hg e=>by have e:g=f8:=e;omega).mono fun g hg _=>.inl hg⟩
    ·rw[yF hbc] at hq;refine wP ?_;refine ai ?_;refine yL (pp 0 Y.X.dc (pv 2 (.str n) (pz 3 k (pp 8 f8 (pv 10 r (pn 11 i (pp 12 f12 (pn 14 (j+1:Nat) .nil)))))))) ?_;exact ih2 (j+1) D om ⟨rfl,om,hq⟩
   ·have hge2:z.l.drop j=[]:=by
     exact List.drop_eq_nil_of_le om
    rw[hge2] at hq;rw[hq] at hp;have hp:gx Y.X.t.l n k al=gx Y.X.t.l n k (al.drop (i+1)):=hp;refine ay rfl ?_;refine wP ?_;refine ai ?_;refine yL (pp 0 Y.X.dc (pv 2 (.str n) (pz 3 k (pp 8 f8 (pv 10 r (pn 11 (i+1:Nat) .nil)))))) ?_;exact ih (i+1) D om ⟨(oB.same o3).same o4,hlt,hp⟩
 ·have hge:i=al.length:=by
   omega
  rw[hge,List.drop_length] at hp;have hp:gx Y.X.t.l n k al=none:=hp;refine ay rfl ?_;refine wS c8 ?_;refine dz rfl rfl rfl (bk rfl rfl (by rw[AW.aw,iP rfl]) rfl) ⟨fin (t:=dL) (kv:=.aj) o1B c8,?_⟩;simp only[hp];rfl
end Go.Proofs.YtafamggbkobcfaaGreat.Ae
