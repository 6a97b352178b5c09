/- A part of the proof of the statement CheckTypes. -/
import Derived.Test.YtafamggbkobcfaaGreatAiSyP16
namespace Go.Proofs.YtafamggbkobcfaaGreat.Ae
open Go.AE
set_option linter.unusedVariables false
set_option maxRecDepth 100000
def tkF(t:Tk): Prop:=(t.k=1→nm t.s)∧small t.s
structure pU (A B:AW) (s:Str) (p:Nat) (L:List Tk) (vb:AV) : Prop where
 buf:eH B 5 vb L.length (L.flatMap fT)
 Fi:ac A B ag
 own:∀g,vb.av g→A.aa≤g
 le:p≤s.length
 ll:L.length≤p
 ok:∀t∈L,tkF t
theorem pU.quiet{A B B1:AW}{s:Str}{p:Nat}{L:List Tk}{vb:AV}(h:pU A B s p L vb)(o:ac B B1 ag): pU A B1 s p L vb:=⟨h.buf.ae o fun _ _ h=>h,h.Fi.same o,h.own,h.le,h.ll,h.ok⟩
theorem pU.to{A B:AW}{s:Str}{p q:Nat}{L:List Tk}{vb:AV}(h:pU A B s p L vb)(h1:p≤q)(h2:q≤s.length): pU A B s q L vb:=⟨h.buf,h.Fi,h.own,h2,Nat.le_trans h.ll h1,h.ok⟩
theorem pU.push{A B B2:AW}{s:Str}{p q:Nat}{L:List Tk}{vb vb':AV}{t:Tk}(hw:Wf A)(h:pU A B s p L vb)(g:xM B B2 5 vb vb' (L.length+1) (L.flatMap fT++fT t))(hq:p<q)(h2:q≤s.length)(ht:tkF t): pU A B2 s q (L++[t]) vb':=by
 refine⟨?_,ac.fresh hw h.Fi g.Fi h.own,fun k hk=>(g.grow k hk).elim (h.own k) fun h'=>Nat.le_trans h.Fi.aa h',h2,by rw[lA,lS];have:=h.ll;omega,fun u hu=>(List.mem_append.1 hu).elim (h.ok u) fun hu=>by cases List.mem_singleton.1 hu;exact ht⟩;have:=g.buf;rw[lA,lS,fA];simpa using this
theorem EL{s:Str}{p e:Nat}(h0:p<e)(h1:e≤s.length)(h20:e-p≤20)(hl:nk (s.getD p 0) true=true)(hp:∀j,p≤j→j<e→nk (s.getD j 0) false=true): rI ((s.drop p).take (e-p)):=by
 have hlen:((s.drop p).take (e-p)).length=e-p:=by
  rw[List.length_take,List.length_drop];omega
 refine⟨fun h=>by rw[h] at hlen;simp at hlen;omega,om,?_,fun c hc=>?_⟩
 ·have e1:((s.drop p).take (e-p)).getD 0 0=s.getD p 0:=by
   rw[List.getD_eq_getElem?_getD,List.getElem?_take_of_lt om,List.getElem?_drop,Nat.add_zero,List.getD_eq_getElem?_getD]
  rw[e1];unfold nk at hl;simpa using hl
 ·obtain⟨j,hj⟩:=List.getElem?_of_mem hc;have hj2:=(List.getElem?_eq_some_iff.1 hj).1;rw[hlen] at hj2;have e1:s.getD (p+j) 0=c:=by
   rw[List.getElem?_take_of_lt om,List.getElem?_drop] at hj;rw[List.getD_eq_getElem?_getD,hj];rfl
  have:=hp (p+j) om om;rw[e1] at this;unfold nk at this;unfold mh;simpa using this
def AR(A A1:AW)(r:AV): Prop:=
 ac A A1 ag∧∃(lv:AV) (L:List Tk) (e z:Int),r=.tuple [lv,.int .i64 e,.int .i64 z]∧(z=0→Row A1 5 lv L.length (L.flatMap fT)∧TkOk L∧0<L.length)
theorem EM{L:List Tk}{a:Int}{s:Str}(hl:L.length≤8000)(ok:∀t∈L,tkF t): TkOk (L++[⟨6,a,[],0,(0,0)⟩]):=by
 have hc:∀i,i<(L++[(⟨6,a,[],0,(0,0)⟩:Tk)]).length→tkF (cur (L++[⟨6,a,[],0,(0,0)⟩]) i):=fun i hi=>by
  have hm:cur (L++[⟨6,a,[],0,(0,0)⟩]) i∈L++[(⟨6,a,[],0,(0,0)⟩:Tk)]:=by
   unfold cur;rw[List.getD_eq_getElem?_getD,gE hi];exact List.getElem_mem hi
  rcases List.mem_append.1 hm with h|h
  ·exact ok _ h
  ·rw[List.mem_singleton.1 h];exact⟨fun h=>absurd h (by show ¬(6:Int)=1;decide),fun b hb=>absurd hb (List.not_mem_nil)⟩
 refine⟨by rw[lA,lS];omega,fun i hi=>?_,fun i hi=>(hc i hi).1,fun i hi=>(hc i hi).2⟩;rw[lA,lS] at hi;have:i=L.length:=om;subst this;unfold cur;rw[List.getD_eq_getElem?_getD,List.getElem?_append_right (Nat.le_refl _),Nat.sub_self];rfl
set_option maxHeartbeats 16000000 in
theorem xU{K:FuncId}{A:AW}{s:Str}(hw:Wf A)(hs:small s)(hl:s.length≤8000): aD (ES K) 13 [.str s] A fun r A1=>AR A A1 r:=by
 have nop:∀{B:AW} {lv:AV} {e z:Int},ac A B ag→z≠0→AR A B (.tuple [lv,.int .i64 e,.int .i64 z]):=fun o hz=>⟨o,_,[],_,_,rfl,fun h=>absurd h hz⟩;refine ap rfl rfl rfl ?_;refine wD (fun h=>?_) fun _=>?_
 ·omega
 refine gO ?_;refine aE ?_;refine yL (pv 0 (.str s) (.put 5 .aj (pn 6 0 .nil))) ?_;refine aV (ι:=Nat×List Tk×AV) (fun i=>s.length-i.1) (fun i=>pv 0 (.str s) (.put 5 i.2.2 (pn 6 i.1 .nil))) (fun i B=>pU A B s i.1 i.2.1 i.2.2) ?_ (0,[],.aj) A ⟨.inl ⟨rfl,rfl,rfl⟩,ac.refl hw _,fun g h=>h.elim,Nat.zero_le _,Nat.le_refl _,fun t h=>absurd h (List.not_mem_nil)⟩;rintro ⟨p,L,vb⟩ B I ih;replace I:pU A B s p L vb:=I;have hpl:=I.le;have hll:=I.ll;refine wD (fun hlt=>?_) fun hge=>?_;rotate_left
 ·refine ay rfl ?_;refine gO ?_;refine bE rfl rfl rfl rfl rfl (cH (n:=L.length) (de:=d55) rfl rfl rfl rfl I.Fi.wf I.buf rfl dE (cU om dE)) ?_;intro vb' B1 g;refine gO ?_;refine af rfl ⟨ac.fresh hw I.Fi g.Fi I.own,_,L++[⟨6,(s.length:Int),[],0,(0,0)⟩],_,_,rfl,fun _=>⟨?_,EM (s:=s) om I.ok,by rw[lA,lS];omega⟩⟩;have:Row B1 5 vb' (L.length+1) (L.flatMap fT++fT ⟨6,(s.length:Int),[],0,(0,0)⟩):=g.buf.row;rw[lA,lS,fA];simpa using this
 have hlt:p<s.length:=by
  omega
 refine gO ?_;refine cn p rfl rfl rfl rfl rfl rfl (gf hlt) ?_;refine wC zH ?_;rintro r B1 ⟨⟨x,rfl⟩,rfl⟩;refine gO ?_;cases x with
 | true=>
  refine rU ?_;refine wP ?_;refine ai ?_;refine yL (pv 0 (.str s) (pv 5 vb (pn 6 (p+1:Nat) .nil))) ?_;exact ih (p+1,L,vb) B1 (by simp only;omega) (I.to (Nat.le_succ _) hlt)
 | false=>
 refine da rfl ?_;refine sQ ?_;refine bX (pv 0 (.str s) (pv 5 vb (pn 6 p (pv 7 (.int .u8 ((s.getD p 0:Nat) : Int)) (.put 46 (.bool (decide (s.getD p 0=47∧p+1<s.length∧s.getD (p+1) 0=47))) .nil))))) ?_ ?_
 ·refine oP ?_;by_cases h1:((s.getD p 0:Nat) : Int)=47
  ·have h1':s.getD p 0=47:=om;refine wT 49 h1 ?_;refine wP ?_;by_cases h2:(p:Int)+1<(s.length:Int)
   ·refine wT 56 h2 ?_;refine wP ?_;refine cn (p+1) rfl rfl rfl rfl rfl rfl (gf om) ?_;refine oP ?_;exact⟨rfl,rfl,rfl,rfl,rfl,congrArg (fun x=>some (AV.bool x)) (decide_eq_decide.2 ⟨fun h=>⟨h1',om,by have h:((s.getD (p+1) 0:Nat) : Int)=47:=h;omega⟩,fun h=>by show ((s.getD (p+1) 0:Nat) : Int)=47;have:=h.2.2;omega⟩),trivial⟩
   ·refine wF 56 h2 ?_;refine oP ?_;exact⟨rfl,rfl,rfl,rfl,rfl,congrArg (fun x=>some (AV.bool x)) (yF fun h=>h2 (by have:=h.2.1;omega)).symm,trivial⟩
  ·refine wF 49 h1 ?_;refine oP ?_;exact⟨rfl,rfl,rfl,rfl,rfl,congrArg (fun x=>some (AV.bool x)) (yF fun h=>h1 (by have:=h.1;omega)).symm,trivial⟩
 refine zG (fun hc=>?_) fun _=>?_
 ·refine gO ?_;refine aE ?_;refine yL (pv 0 (.str s) (pv 5 vb (pn 6 p .nil))) ?_;refine aV (ι:=Nat) (fun i=>s.length-i) (fun i=>pv 0 (.str s) (pv 5 vb (pn 6 i .nil))) (fun i B2=>B2=B1∧p≤i∧i≤s.length) ?_ p B1 ⟨rfl,Nat.le_refl _,hpl⟩;rintro i B2 ⟨rfl,hi1,hi2⟩ ih2;refine sQ ?_;refine bX (pv 0 (.str s) (pv 5 vb (pn 6 i (pb 72 (decide (i<s.length∧s.getD i 0≠10)) .nil)))) ?_ ?_
  ·refine oP ?_;by_cases h1:(i:Int)<(s.length:Int)
   ·have h1':i<s.length:=om;refine wT 67 h1 ?_;refine oP ?_;refine cn i rfl rfl rfl rfl rfl rfl (gf h1') ?_;refine oP ?_;exact⟨rfl,rfl,rfl,rfl,congrArg (fun x=>some (AV.bool x)) (decide_eq_decide.2 ⟨fun h=>⟨h1',fun k=>h (by show ((s.getD i 0:Nat) : Int)=10;omega)⟩,fun h k=>h.2 (by have k:((s.getD i 0:Nat) : Int)=10:=k;omega)⟩),trivial⟩
   ·refine wF 67 h1 ?_;refine oP ?_;exact⟨rfl,rfl,rfl,rfl,congrArg (fun x=>some (AV.bool x)) (yF fun h=>h1 (by have:=h.1;omega)).symm,trivial⟩
  refine zG (fun hgo=>?_) fun hgo=>?_
  ·refine wP ?_;refine ai ?_;refine yL (pv 0 (.str s) (pv 5 vb (pn 6 (i+1:Nat) .nil))) ?_;exact ih2 (i+1) B2 om ⟨rfl,om,om⟩
  ·have hpi:p<i:=by
    refine Decidable.byContradiction fun k=>hgo ?_;have:i=p:=om;subst this;exact⟨hlt,by rw[hc.1];decide⟩
   refine ay rfl ?_;refine gO ?_;refine ai ?_;refine yL (pv 0 (.str s) (pv 5 vb (pn 6 i .nil))) ?_;exact ih (i,L,vb) B2 (by simp only;omega) (I.to (Nat.le_of_lt hpi) hi2)
 refine wC jf ?_;rintro r B2 ⟨rfl,rfl⟩;refine gO ?_;refine fh rfl (fun hlet=>?_) fun _=>?_
 ·refine gO ?_;refine aE ?_;refine yL (pv 0 (.str s) (pv 5 vb (pn 6 p (pn 8 p .nil)))) ?_;refine aV (ι:=Nat) (fun i=>s.length-i) (fun i=>pv 0 (.str s) (pv 5 vb (pn 6 p (pn 8 i .nil)))) (fun i B3=>B3=B2∧p≤i∧i≤s.length∧∀j,p≤j→j<i→nk (s.getD j 0) false=true) ?_ p B2 ⟨rfl,Nat.le_refl _,hpl,fun j h1 h2=>absurd h2 om⟩;rintro i B3 ⟨rfl,hi1,hi2,hj⟩ ih2;refine sQ ?_;refine bX (pv 0 (.str s) (pv 5 vb (pn 6 p (pn 8 i (pb 88 (decide (i<s.length) && nk (s.getD i 0) false) .nil))))) ?_ ?_
  ·refine oP ?_;by_cases h1:(i:Int)<(s.length:Int)
   ·have h1':i<s.length:=om;refine wT 83 h1 ?_;refine oP ?_;refine cn i rfl rfl rfl rfl rfl rfl (gf h1') ?_;refine wC jf ?_;rintro r B4 ⟨rfl,rfl⟩;refine oP ?_;exact⟨rfl,rfl,rfl,rfl,rfl,congrArg (fun x=>some (AV.bool x)) (by rw[yT h1',Bool.true_and]),trivial⟩
   ·refine wF 83 h1 ?_;refine oP ?_;exact⟨rfl,rfl,rfl,rfl,rfl,congrArg (fun x=>some (AV.bool x)) (by rw[yF (fun h=>h1 om),Bool.false_and]),trivial⟩
  refine fh rfl (fun hgo=>?_) fun hgo=>?_
  ·rw[Bool.and_eq_true] at hgo;have hil:=of_decide_eq_true hgo.1;refine wP ?_;refine ai ?_;refine yL (pv 0 (.str s) (pv 5 vb (pn 6 p (pn 8 (i+1:Nat) .nil)))) ?_;refine ih2 (i+1) B3 om ⟨rfl,om,om,fun j h1 h2=>?_⟩;by_cases e:j=i
   ·subst e;exact hgo.2
   ·exact hj j h1 om
  have hpi:p<i:=by
   refine Decidable.byContradiction fun k=>?_;have e:i=p:=om;rw[e,yT hlt,Bool.true_and] at hgo;have h2:nk (s.getD p 0) false=true:=by
    unfold nk at hlet ⊢;simp only[Bool.not_true,Bool.and_false,Bool.or_false] at hlet;rw[hlet];rfl
   rw[h2] at hgo;cases hgo
  clear ih2;refine ay rfl ?_;refine gO ?_;refine fd rfl rfl rfl om om ?_;refine wD (fun _=>?_) fun h20=>?_
  ·refine gO ?_;exact af rfl (nop I.Fi dE)
  have h20:i-p≤20:=by
   omega
  have hN:=EL hpi hi2 h20 hlet hj;have hsm:small ((s.drop p).take (i-p)):=(hs.drop p).take _;refine gO ?_;refine bQ (Q:=fun r=>r=.str ((s.drop p).take (i-p))) rfl rfl rfl rfl rfl ⟨_,AQ rfl rfl om hi2,rfl⟩ ?_;rintro r rfl;generalize (s.drop p).take (i-p)=w at hN hsm;refine gO ?_;refine zM (n:=5) (y:=fT ⟨1,(p:Int),w,0,(0,0)⟩) I.Fi.wf ?_;intro B4 o4 c9;have l9:=I.Fi.aa;have lb:∀g,vb.av g→g<B3.aa:=I.buf.under I.Fi.wf;generalize hf9:B3.aa=f9 at c9 l9;replace I:=I.quiet o4;refine wC (Cd I.Fi.wf) ?_;rintro r B5 ⟨⟨x,rfl,hx⟩,o5⟩;replace I:=I.quiet o5;replace c9:=o5.k c9;refine sQ ?_;refine ce (fun l1 B6=>∃t,(Kn.put 0 (.str s) (pv 5 vb (pn 6 p (pn 8 i (pp 9 f9 .nil))))).le l1∧pU A B6 s p L vb∧B6.heap.get f9=some (.cells 0 false 5 (fT t))∧tkF t) ?_ ?_
  ·intro k' hk';cases x with
   | true=>
    refine rU ?_;refine zS c9 ?_;have op:ac B5 (B5.put f9 (.cells 0 false 5 (fT ⟨2,(p:Int),w,0,(0,0)⟩))) (one f9):=ac.put I.Fi.wf (I.Fi.wf _ _ c9);refine bG (fun B6=>pU A B6 s p L vb∧B6.heap.get f9=some (.cells 0 false 5 (fT ⟨2,(p:Int),w,0,(0,0)⟩))) ⟨⟨I.buf.ae op fun g hg e=>by have:=lb g hg;cases e;omega,ac.fresh hw I.Fi op nF,I.own,I.le,I.ll,I.ok⟩,by rw[AW.aw,if_pos rfl];rfl⟩ ?_;rintro B6 ⟨I,c9⟩;refine gO ?_;exact hk' _ _ ⟨_,⟨rfl,rfl,rfl,rfl,rfl,trivial⟩,I,c9,fun h=>absurd h (by show ¬(2:Int)=1;decide),hsm⟩
   | false=>
    refine rU ?_;exact hk' _ _ ⟨_,⟨rfl,rfl,rfl,rfl,rfl,trivial⟩,I,c9,fun _=>⟨hN,hx rfl⟩,hsm⟩
  clear I c9;rintro l1 B6 ⟨t,hle,I,c9,ht⟩;refine bY _ ?_ hle;refine wL c9 ?_;refine bE rfl rfl rfl rfl rfl (cH (n:=L.length) (de:=d55) rfl rfl rfl rfl I.Fi.wf I.buf rfl dE (cU om dE)) ?_;intro vb' B7 g;refine gO ?_;refine ai ?_;refine yL (pv 0 (.str s) (.put 5 vb' (pn 6 i .nil))) ?_;exact ih (i,L++[t],vb') B7 (by simp only;omega) (I.push hw g hpi hi2 ht)
 refine wC tO ?_;rintro r B3 ⟨rfl,rfl⟩;refine wD (fun hd=>?_) fun _=>?_
 ·refine wC (xT I.Fi.wf hs hl hlt hd) ?_;rintro r B4 ⟨o4,t,e,z,rfl,hz⟩;replace I:=I.quiet o4;refine gO ?_;refine zM (n:=5) (y:=fT t) I.Fi.wf ?_;intro B5 o5 c9;generalize hf9:B4.aa=f9 at c9;replace I:=I.quiet o5;refine wD (fun he=>?_) fun he=>?_
  ·have he:z≠0:=he;refine gO ?_;exact af rfl (nop I.Fi he)
  have he:z=0:=Decidable.byContradiction he;obtain⟨hk,hsm,q,rfl,hq1,hq2⟩:=hz he;refine wL c9 ?_;refine bE rfl rfl rfl rfl rfl (cH (n:=L.length) (de:=d55) rfl rfl rfl rfl I.Fi.wf I.buf rfl dE (cU om dE)) ?_;intro vb' B7 g;refine gO ?_;refine ai ?_;refine yL (pv 0 (.str s) (.put 5 vb' (pn 6 q .nil))) ?_;exact ih (q,L++[t],vb') B7 (by simp only;omega) (I.push hw g hq1 hq2 ⟨fun h=>om,hsm⟩)
 refine gO ?_;refine bQ (Q:=fun r=>r=.str (s.drop p)) rfl rfl rfl rfl rfl ⟨_,Dr rfl rfl hpl,rfl⟩ ?_;rintro r rfl;refine wC (Ce (hs.drop p) (by rw[List.length_drop];omega) (by rw[List.length_drop];omega)) ?_;rintro r B4 ⟨⟨x,rfl,hxs,hxl⟩,rfl⟩;rw[List.length_drop] at hxl;refine wD (fun _=>?_) fun hx=>?_
 ·refine gO ?_;exact af rfl (nop I.Fi dE)
 have hx0:0<x.length:=by
  have hx:¬x=[]:=hx;exact List.length_pos_iff.2 hx
 refine gO ?_;refine bE rfl rfl rfl rfl rfl (cH (n:=L.length) (de:=d55) rfl rfl rfl rfl I.Fi.wf I.buf rfl dE (cU om dE)) ?_;intro vb' B7 g;refine wP ?_;refine ai ?_;refine yL (pv 0 (.str s) (.put 5 vb' (pn 6 (p+x.length:Nat) .nil))) ?_;exact ih (p+x.length,L++[⟨5,(p:Int),x,0,(0,0)⟩],vb') B7 (by simp only;omega) (I.push (t:=⟨5,(p:Int),x,0,(0,0)⟩) hw g om om ⟨fun h=>absurd h (by show ¬(5:Int)=1;decide),hxs⟩)
def AU(P:Nd→Prop)(A A1:AW)(r:AV): Prop:=
 ac A A1 ag∧∃(t:Nd) (kv:AV) (a e:Int),r=.tuple [.agg (au t kv),.int .i64 a,.int .i64 e]∧(e=0→aI A1 (fun g=>A.aa≤g) t kv∧P t)
theorem classes{K:FuncId}(n:Nat)(hn:n≤9000): jS Cl K 43 n:=zF (xS (jS.mono (stmts n).2 fun t h=>St.mono h (by omega)))
set_option maxHeartbeats 8000000 in
theorem qO{K:FuncId}{A:AW}{s:Str}(hw:Wf A)(hs:small s)(hl:s.length≤8000): aD (ES K) 5 [.str s] A fun r A1=>AU Pr A A1 r:=by
 refine ap rfl rfl rfl ?_;refine gO ?_;refine zA (n:=6) (y:=au dL .aj) hw ?_;intro A1 o1 c1;generalize hf1:A.aa=f1 at c1;have xc1:=o1.wf _ _ c1;refine wC (xU o1.wf hs hl) ?_;rintro r A2 ⟨o2,lv,L,e,z,rfl,hz⟩;replace c1:=o2.k c1;have o12:=o1.same o2;have m2:=o2.aa;have fin:∀{B:AW} {t:Nd} {kv:AV},ac A B ag→gt B f1 6 (au dL .aj)→ac A (B.put f1 (.cells 0 false 6 (au t kv))) ag:=fun o hB=>ac.fresh hw o (ac.put o.wf (o.wf _ _ hB)) nF;refine wD (fun he=>?_) fun he=>?_
 ·have he:z≠0:=he;refine wS c1 ?_;exact iA rfl rfl rfl rfl (bk rfl rfl (by rw[AW.aw,iP rfl]) rfl) ⟨fin (t:=dL) (kv:=.aj) o12 c1,dL,.aj,e,z,rfl,fun h=>absurd h he⟩
 have he:z=0:=Decidable.byContradiction he;obtain⟨hrow,hok,hpos⟩:=hz he;obtain⟨fl,tl,ol,cl,exl,rol,alll,rfl,_,_,_⟩:=dT (cl:=fT) (fun _=>rfl) hrow (gE hpos);refine gO ?_;refine zB (n:=4) (y:=[.slice fl tl ol L.length cl exl,.int .i64 ((0:Nat) : Int),.int .i64 0,.bool false]) o2.wf ?_;intro A3 o3 cp;have hlv:∀g,(AV.slice fl tl ol L.length cl exl).av g→g<A2.aa:=hrow.under o2.wf;have nfp:f1≠A2.aa:=om;have m3:A2.aa<A3.aa:=o3.wf _ _ cp;generalize hfp:A2.aa=fp at cp nfp m3;replace c1:=o3.k c1;have o13:=o12.same o3;have h:PS A3 fp (.slice fl tl ol L.length cl exl) L 0 0 false:=⟨cp,hrow.ae o3 fun _ _ h=>h,fun hg=>by have:=hlv _ hg;omega,hok,hpos⟩;refine wC ((wk (classes L.length (by have:=hok.len;omega))) o3.wf h om (Int.le_refl 0) dE fun _=>by decide) ?_;rintro r A4 ⟨t,kv,q,b1,rfl,N,t4,_,hx⟩;replace c1:=t4.Fi.k c1;have o14:ac A A4 ag:=ac.fresh hw o13 t4.Fi nF
 have m4:=t4.Fi.aa;have w4:=o14.wf;refine gO ?_;refine aq rfl rfl rfl ?_;refine bx rfl rfl rfl rfl rfl rfl (by rw[AW.add_get,iP rfl]) rfl ?_;refine bG (fun A5=>ac A4 A5 ag∧A5.heap.get A4.aa=some (.cells 0 false 6 (au t kv))) ⟨made o14.wf,by rw[AW.aw,iP rfl];rfl⟩ ?_;rintro A5 ⟨o5,c9⟩;have n9:f1≠A4.aa∧fp≠A4.aa:=by constructor<;>omega
 generalize hf9:A4.aa=f9 at c9 n9;replace c1:=o5.k c1;replace N:=(N.mono (S':=fun g=>A3.aa≤g∧g<A4.aa) fun g hg ⟨F,hF⟩=>⟨hg,w4 g F hF⟩).ae o5 fun _ _ h=>h;have o15:=o14.same o5;have T:=t4.ps.quiet o5;have hc:=T.cell;refine gO ?_;refine fh rfl (fun hb=>?_) fun hb=>?_
 ·subst hb;refine wC (cJ o15.wf T) ?_;rintro r A6 ⟨rfl,o6⟩;replace c1:=o6.k c1;refine gO ?_;refine dx rfl rfl rfl ?_;refine wS c1 ?_;exact iA rfl rfl rfl rfl (bk rfl rfl (by rw[AW.aw,iP rfl]) rfl) ⟨fin (t:=dL) (kv:=.aj) (o15.same o6) c1,dL,.aj,_,190,rfl,fun h=>absurd h dE⟩
 ·subst hb;refine wL c9 ?_;refine zS c1 ?_;have oR:=ac.put (x:=.cells 0 false 6 (au t kv)) o15.wf (o15.wf _ _ c1);refine gO ?_;refine iA rfl rfl rfl rfl (bk rfl rfl (by rw[AW.aw,iP rfl]) rfl) ⟨fin (t:=t) (kv:=kv) o15 c1,t,kv,0,0,rfl,fun _=>⟨?_,hx rfl⟩⟩;exact (N.ae oR fun g hg e=>by cases e;omega).q
set_option maxHeartbeats 8000000 in
theorem wq{K:FuncId}{A:AW}{s:Str}(hw:Wf A)(hs:small s)(hl:s.length≤8000): aD (ES K) 6 [.str s] A fun r A1=>AU Ex A A1 r:=by
 refine ap rfl rfl rfl ?_;refine gO ?_;refine zA (n:=6) (y:=au dL .aj) hw ?_;intro A1 o1 c1;generalize hf1:A.aa=f1 at c1;have xc1:=o1.wf _ _ c1;refine wC (xU o1.wf hs hl) ?_;rintro r A2 ⟨o2,lv,L,e,z,rfl,hz⟩;replace c1:=o2.k c1;have o12:=o1.same o2;have m2:=o2.aa;have fin:∀{B:AW} {t:Nd} {kv:AV},ac A B ag→gt B f1 6 (au dL .aj)→ac A (B.put f1 (.cells 0 false 6 (au t kv))) ag:=fun o hB=>ac.fresh hw o (ac.put o.wf (o.wf _ _ hB)) nF;refine wD (fun he=>?_) fun he=>?_
 ·have he:z≠0:=he;refine wS c1 ?_;exact iA rfl rfl rfl rfl (bk rfl rfl (by rw[AW.aw,iP rfl]) rfl) ⟨fin (t:=dL) (kv:=.aj) o12 c1,dL,.aj,e,z,rfl,fun h=>absurd h he⟩
 have he:z=0:=Decidable.byContradiction he;obtain⟨hrow,hok,hpos⟩:=hz he;obtain⟨fl,tl,ol,cl,exl,rol,alll,rfl,_,_,_⟩:=dT (cl:=fT) (fun _=>rfl) hrow (gE hpos);refine gO ?_;refine zB (n:=4) (y:=[.slice fl tl ol L.length cl exl,.int .i64 ((0:Nat) : Int),.int .i64 0,.bool false]) o2.wf ?_;intro A3 o3 cp;have hlv:∀g,(AV.slice fl tl ol L.length cl exl).av g→g<A2.aa:=hrow.under o2.wf;have nfp:f1≠A2.aa:=om;have m3:A2.aa<A3.aa:=o3.wf _ _ cp;generalize hfp:A2.aa=fp at cp nfp m3;replace c1:=o3.k c1;have o13:=o12.same o3;have h:PS A3 fp (.slice fl tl ol L.length cl exl) L 0 0 false:=⟨cp,hrow.ae o3 fun _ _ h=>h,fun hg=>by have:=hlv _ hg;omega,hok,hpos⟩;refine wC ((exprs L.length |>.1) o3.wf h om (Int.le_refl 0) dE fun _=>by decide) ?_;rintro r A4 ⟨t,kv,q,b1,rfl,N,t4,_,hx⟩;replace c1:=t4.Fi.k c1;have o14:ac A A4 ag:=ac.fresh hw o13 t4.Fi nF;have m4:=t4.Fi.aa;have w4:=o14.wf
 refine gO ?_;refine aq rfl rfl rfl ?_;refine bx rfl rfl rfl rfl rfl rfl (by rw[AW.add_get,iP rfl]) rfl ?_;refine bG (fun A5=>ac A4 A5 ag∧A5.heap.get A4.aa=some (.cells 0 false 6 (au t kv))) ⟨made o14.wf,by rw[AW.aw,iP rfl];rfl⟩ ?_;rintro A5 ⟨o5,c9⟩;have n9:f1≠A4.aa∧fp≠A4.aa:=by constructor<;>omega
 generalize hf9:A4.aa=f9 at c9 n9;replace c1:=o5.ae _ _ c1 fun h=>h;replace N:=(N.mono (S':=fun g=>A3.aa≤g∧g<A4.aa) fun g hg ⟨F,hF⟩=>⟨hg,w4 g F hF⟩).ae o5 fun _ _ h=>h;have o15:=o14.same o5;have T:=t4.ps.quiet o5;have hc:=T.cell;refine gO ?_;refine cY rfl rfl bF rfl (cJ o15.wf T) ?_;rintro r A6 ⟨rfl,o6⟩;replace c1:=o6.ae _ _ c1 fun h=>h;replace c9:=o6.ae _ _ c9 fun h=>h;replace N:=N.ae o6 fun _ _ h=>h;replace T:=T.quiet o6;replace o15:=o15.same o6;clear hc;refine gO ?_;refine dx rfl rfl rfl ?_;refine oP ?_;refine sQ ?_;refine ce (fun l1 B=>∃b2,(pp 8 fp (pp 2 f1 (pp 9 f9 .nil))).le l1∧PT A6 B fp (.slice fl tl ol L.length cl exl) L q 0 b1 q b2) ?_ ?_
 ·intro k' hk';refine zG (fun _=>?_) fun _=>?_
  ·refine wC (iq o15.wf T) ?_;rintro r B ⟨rfl,tB⟩;refine gO ?_;exact hk' _ _ ⟨true,⟨rfl,rfl,rfl,trivial⟩,tB⟩
  ·refine gO ?_;exact hk' _ _ ⟨b1,⟨rfl,rfl,rfl,trivial⟩,PT.refl o15.wf T⟩
 rintro l1 B ⟨b2,hle,tB⟩;refine bY _ ?_ hle;obtain⟨c1,c9⟩:=tB.Fi.k2 c1 c9;replace N:=N.k tB.Fi;replace o15:ac A B ag:=ac.fresh hw o15 tB.Fi nF;replace T:=tB.ps;have hc:=T.cell;refine gO ?_;refine fh rfl (fun hb=>?_) fun hb=>?_
 ·subst hb;refine wC (cJ o15.wf T) ?_;rintro r A6 ⟨rfl,o6⟩;replace c1:=o6.k c1;refine gO ?_;refine dx rfl rfl rfl ?_;refine wS c1 ?_;exact iA rfl rfl rfl rfl (bk rfl rfl (by rw[AW.aw,iP rfl]) rfl) ⟨fin (t:=dL) (kv:=.aj) (o15.same o6) c1,dL,.aj,_,190,rfl,fun h=>absurd h dE⟩
 ·subst hb;refine wL c9 ?_;refine zS c1 ?_;have oR:=ac.put (x:=.cells 0 false 6 (au t kv)) o15.wf (o15.wf _ _ c1);refine gO ?_;refine iA rfl rfl rfl rfl (bk rfl rfl (by rw[AW.aw,iP rfl]) rfl) ⟨fin (t:=t) (kv:=kv) o15 c1,t,kv,0,0,rfl,fun _=>⟨?_,(hx (az tB.bad rfl)).2⟩⟩;exact (N.ae oR fun g hg e=>by cases e;omega).q
end Go.Proofs.YtafamggbkobcfaaGreat.Ae
