/- A part of the proof of the statement CheckTypes. -/
import Derived.Test.YtafamggbkobcfaaGreatAiSyK26
namespace Go.Proofs.YtafamggbkobcfaaGreat.Ae
open Go.AE
set_option linter.unusedVariables false
set_option maxRecDepth 100000
def yo(m:Nd): Nd:=eg m (m.l.length-1)
def iX(cs:List Nd)(hs:Hs)(c m:Nd)(n:Nat): Prop:=m.k=4→(cP ⟨cs,hs,c.s,first m,n⟩ 20000 [] (cL m) (yo m)).isSome=true∧((first m).1≠0→co 20000 (yo m)=true)
def fv(cs:List Nd)(hs:Hs)(c:Nd)(n:Nat): Prop:=∀(i:Nat) (m:Nd),(c.l.drop 1)[i]?=some m→iX cs hs c m n
theorem ST.pt2{A A1 A2 A3:AW}{X:BX}{b b0 b3:Bool}{Y Y1:BY}(hw:Wf A)(T:ir A A1 X b b0)(o:ac A1 A2 ag)(t:ST A2 A3 Y Y1 b0 b3)(e:Y.X=X)(e1:Y1.X=X)(ho:∀g,Y.own g→A1.aa≤g): ir A A3 X b b3:=by
 refine⟨by have:=t.ps.bo.eO;rw[e1] at this;exact this,⟨t.Fi.wf,Nat.le_trans (T.quiet o).Fi.aa t.Fi.aa,fun g F hg hn=>t.Fi.ae g F ((T.quiet o).Fi.ae g F hg hn) fun hm=>?_⟩,fun h=>t.bad (T.bad h)⟩;rcases hm with hm|hm
 ·exact hn (by rw[hm,e];rfl)
 ·have h1:=ho g hm;have h2:=hw g F hg;have h3:=T.Fi.aa;omega
theorem mP{ps:List Nd}(h:DJ ps): (ps.map Nd.s).Nodup:=by
 unfold List.Nodup;rw[List.pairwise_iff_getElem];intro i j hi hj hij e;rw[lM] at hi hj;have e:ps[i].s=ps[j].s:=by simpa using e
 have:=h j ps[j] (gE hj);rw[List.find?_eq_none] at this;exact this ps[i] (by rw[List.mem_take_iff_getElem];exact⟨i,om,rfl⟩) (yT e)
set_option maxHeartbeats 8000000 in
theorem wM{K:FuncId}{n:Nat}{A:AW}{X:BX}{b:Bool}{c:Nd}{kv:AV}(hw:Wf A)(h:PC A X b)(N:aI A (fun g=>g<X.M) c kv)(h0:0<c.l.length)(hc:named c.s=(4,c.s))(hmem:∀m∈c.l.drop 1,jK m)(hd:b=false→∀m∈c.l.drop 1,m.k=4→((params m).map Nd.s).Nodup)(hB:∀m∈c.l.drop 1,m.k=4→∃u,m.l[m.l.length-1]?=some u∧St 20000 u∧sz u≤n):
 aD (ES K) 48 [.ptr X.pc 0 0,.agg (au c kv)] A fun r A1=>∃b1,ir A A1 X b b1∧(b1=false↔b=false∧fv X.cs X.hs c n):=by
 refine ap rfl rfl rfl ?_;have T:=ir.refl hw h;have hlp:=h.lt hw;have hM:=h.le;refine gO ?_;refine bA rfl rfl rfl rfl ?_;generalize hf3:A.aa=f3;refine wB (n:=6) (cs:=au c kv) hw h T hf3 ?_;intro A1 x3 p3 o1 c3 T;replace N:=N.k o1;refine gO ?_;refine bQ (Q:=fun r=>aI A1 (fun g=>g<X.M) (jT (c.l.drop 1)) r) rfl rfl rfl rfl rfl (mK N h0) ?_;intro v9 N9;refine gO ?_;clear N;generalize hms:c.l.drop 1=ms at N9 ⊢;have hlv:bm v9=some ms.length:=N9.bm;have hl9:ms.length≤9000:=N9.len;refine wJ hlv ?_;refine aE ?_;refine yL (pp 0 X.pc (pp 3 f3 (pv 9 v9 (pn 10 ms.length (pn 11 0 .nil))))) ?_;refine aV (ι:=Nat×Bool) (fun i=>ms.length-i.1) (fun i=>(pp 0 X.pc (pp 3 f3 (pv 9 v9 (pn 10 ms.length (pn 11 i.1 .nil))))))
  (fun i B=>ir A B X b i.2∧i.1≤ms.length∧gt B f3 6 (au c kv)∧aI B (fun g=>g<X.M) (jT ms) v9∧(i.2=false↔b=false∧∀j m,j<i.1→ms[j]?=some m→iX X.cs X.hs c m n)) ?_ (0,b) A1 ⟨T,Nat.zero_le _,c3,N9,fun h=>⟨h,fun j m hj _=>absurd hj (Nat.not_lt_zero _)⟩,fun h=>h.1⟩
 clear T c3 N9;rintro ⟨i,b0⟩ A0 ⟨T,hi,c3,N9,hz⟩ ih;replace T:ir A A0 X b b0:=T;replace hi:i≤ms.length:=hi;replace hz:(b0=false↔b=false∧∀j m,j<i→ms[j]?=some m→iX X.cs X.hs c m n):=hz;have lt3:=T.Fi.wf _ _ c3;refine wD (fun hlt=>?_) fun hge=>?_
 ·have hltN:i<ms.length:=Int.ofNat_lt.1 hlt;clear hlt;have hlt:=hltN;have hu:ms[i]?=some ms[i]:=gE hlt;generalize hx:ms[i]=m at hu;have hum:m∈c.l.drop 1:=by rw[hms,←hx];exact List.getElem_mem hlt
  have hmo:=hmem m hum;obtain⟨f,s,o,cc,ex,ro,all,km,hv,hh,_,Nm,cw⟩:=N9.wi (i:=i) (u:=m) hu;have hlvm:=Nm.bm;have hlm9:=Nm.len;refine wI hv hlt ?_;refine zK hh ((cw 6 0 (Nat.le_refl _)).trans rfl) ?_;refine oP ?_;refine aq rfl rfl rfl ?_;refine zS (by rw[AW.add_get,iP rfl]) ?_;generalize hf5:A0.aa=f5;refine gX (n:=6) (cs:=au m km) hw h T hf5 ?_;intro A1 x5 p5 o1 c5 T;replace c3:=o1.k c3;replace N9:=N9.k o1;replace Nm:=Nm.k o1;have l1:=T.Fi.wf _ _ c5;obtain⟨fe,hpc⟩:=T.ps.cell;refine gO ?_;by_cases k4:m.k=4
  ·refine aF 18 false rfl (yF fun h=>h k4) ?_;refine gO ?_;cases b0 with
   | true=>
    refine bL (v:=.bool true) rfl rfl rfl rfl ?_;refine rU ?_;refine ay rfl ?_;refine wP ?_;refine ai ?_;refine yL (pp 0 X.pc (pp 3 f3 (pv 9 v9 (pn 10 ms.length (pn 11 (i+1:Nat) .nil))))) ?_;refine ih (i+1,true) A1 (by simp only;omega) ⟨T,hltN,c3,N9,fun h=>(by cases h),fun h=>?_⟩;have:=hz.2 ⟨h.1,fun j y hj hy=>h.2 j y (by show j<i+1;omega) hy⟩;cases this
   | false=>
    refine bL (v:=.bool false) rfl rfl rfl rfl ?_;refine rU ?_;have hp:=hmo.2 k4;obtain⟨u,hu5,hSu,hzu⟩:=hB m hum k4;have eu:yo m=u:=cO hu5;have hpl:=jL hp.1;refine wL c5 ?_;have hbz:=T.Fi.aa;have T1:=T;refine zC rfl (tZ T.Fi.wf T.ps Nm hp.1 hp.2 hc (fun _=>hd (hz.1 rfl).1 m hum k4)) ?_;rintro r29 A2 ⟨o2,fb,vv,rfl,hfb,S,hvv⟩;replace T:=T.quiet o2;obtain⟨c3,c5⟩:=o2.k2 c3 c5;replace N9:=N9.k o2;replace Nm:=Nm.k o2;generalize hY:(⟨X,fb,c.s,first m,vv,.aj,cL m,[]⟩:BY)=Y at S;have ho:∀g,Y.own g→A1.aa≤g:=fun g hg=>by
     rw[←hY] at hg;rcases hg with rfl|hg|hg
     ·exact hfb
     ·exact hvv g hg
     ·exact hg.elim
    have eX:Y.X=X:=by rw[←hY]
    have efb:Y.fb=fb:=by rw[←hY]
    refine gO ?_;obtain⟨fku,sku,oku,cku,eku,rku,aku,ku,hvu,hsu,hhu,hlu,Nu,htu⟩:=bv Nm hu5;have hku:takeN 6 (aB (Nat.add oku (Nat.mul (m.l.length-1) 6)) aku)=some (au u ku):=(htu 6 0 (Nat.le_refl _)).trans rfl;refine wJ hlvm ?_;refine fd rfl rfl rfl om om ?_;refine oP ?_;refine bg (m.l.length-1) rfl (congrArg some hvu) rfl rfl (show (m.l.length:Int)-1=((m.l.length-1:Nat) : Int) by omega) hlu ?_;refine wK hhu hku ?_;have Nu':aI A2 (fun g=>g<Y.X.M) u ku:=by rw[eX];exact Nu
    refine cY rfl (by rw[←efb];rfl) bF rfl (tY (n:=n) 20000 T.Fi.wf S Nu' hSu hzu (by rw[←hY];show (cL m).length+9001*20000+2≤_;unfold cL;rw[lM];omega)) ?_;rintro r39 A3 ⟨vv',lv',ws,b9,t9,n9,z9⟩;have hcb:=t9.ps.bo.cell;replace T:=t9.pt2 hw T1 o2 eX eX ho;have hnm:∀g,g<A1.aa→g≠X.pc→¬Y.mod g:=fun g h1 h2 h3=>by
     rcases h3 with h3|h3
     ·exact h2 (by rw[h3,eX])
     ·have:=ho g h3;omega
    replace c3:=t9.Fi.ae _ _ c3 (hnm _ om p3);replace c5:=t9.Fi.ae _ _ c5 (hnm _ om p5);replace N9:=N9.ae t9.Fi fun g hg k=>hnm g om om k;replace Nu:=Nu.ae t9.Fi fun g hg k=>hnm g om om k;replace hhu:=t9.Fi.ae _ _ hhu (hnm _ om om);have hcb:gt A3 fb 6 [.ptr X.pc 0 0,.str c.s,.int .i64 (first m).1,.str (first m).2,vv',lv']:=by rw[←hY] at hcb;exact hcb
    have z9:b9=false↔(cP ⟨X.cs,X.hs,c.s,first m,n⟩ 20000 [] (cL m) (yo m)).isSome=true:=by
     have z9:=z9 rfl;rw[eu];rw[←hY] at z9;cases hs:cP ⟨X.cs,X.hs,c.s,first m,n⟩ 20000 [] (cL m) u with
     | none=>
      have hs:cP (BY.ev ⟨X,fb,c.s,first m,vv,.aj,cL m,[]⟩ n) 20000 [] (cL m) u=none:=hs;rw[hs] at z9;have z9:b9=true:=z9;rw[z9];exact⟨fun h=>(by cases h),fun h=>(by cases h)⟩
     | some vs=>
      have hs:cP (BY.ev ⟨X,fb,c.s,first m,vv,.aj,cL m,[]⟩ n) 20000 [] (cL m) u=some vs:=hs;rw[hs] at z9;exact⟨fun _=>rfl,fun _=>z9.1⟩
    clear hY S ho eX t9;refine sQ ?_;have T9:=ir.refl T.Fi.wf T.ps;refine ce (fun l1 B=>∃x,((pp 0 X.pc (pp 3 f3 (pv 9 v9 (pn 10 ms.length (pn 11 i .nil))))) : Kn).le l1∧ir A3 B X b9 (x || b9)∧(x=false↔((first m).1≠0→co 20000 u=true))) ?_ ?_
    ·intro k' hk';refine tD ?_;by_cases hr0:(first m).1=0
     ·refine aL 47 false rfl (yF fun h=>h hr0) ?_;refine dO ?_;refine aC ?_;refine sA ?_;refine dO ?_;refine aC ?_;refine zC rfl (bP T.Fi.wf T.ps) ?_;rintro r61 B ⟨rfl,tB⟩;refine sA ?_;refine eD ?_;exact hk' _ _ ⟨false,⟨rfl,rfl,rfl,rfl,rfl,trivial⟩,tB,fun _ h=>absurd hr0 h,fun _=>rfl⟩
     ·refine aL 47 true rfl (yT hr0) ?_;refine rD ?_;refine zJ hlvm ?_;refine eR ?_;refine ax rfl rfl rfl rfl rfl ?_
      try refine aM rfl ?_
      refine fd rfl rfl rfl om om ?_;refine eP ?_;refine ax rfl rfl rfl rfl rfl ?_
      try refine aM rfl ?_
      refine bg (m.l.length-1) rfl (congrArg some hvu) rfl rfl (show (m.l.length:Int)-1=((m.l.length-1:Nat) : Int) by omega) hlu ?_;refine eP ?_;refine rD ?_;refine zK hhu hku ?_;refine eR ?_;refine aC ?_;refine zC rfl (vq T.Fi.wf Nu hSu) ?_;rintro r56 B1 ⟨rfl,oB⟩;replace c5:=oB.k c5;refine sA ?_;refine aC ?_;refine zC rfl (bP oB.wf (T9.quiet oB).ps) ?_;rintro r61 B ⟨rfl,tB⟩;refine sA ?_;refine eD ?_;refine hk' _ _ ⟨!co 20000 u,⟨rfl,rfl,rfl,rfl,rfl,trivial⟩,(T9.quiet oB).then tB,?_⟩;cases co 20000 u with
      | true=>exact⟨fun _ _=>rfl,fun _=>rfl⟩
      | false=>exact⟨fun h=>(by cases h),fun h=>(by have:=h hr0;cases this)⟩
    rintro l1 A4 ⟨x,hl,t4,e4⟩;refine bY (pp 0 X.pc (pp 3 f3 (pv 9 v9 (pn 10 ms.length (pn 11 i .nil))))) ?_ hl;replace T:=T.then t4;clear T9 hcb Nm Nu hhu;replace c3:=t4.Fi.k c3;replace N9:=N9.k t4.Fi;refine wP ?_;refine ai ?_;refine yL (pp 0 X.pc (pp 3 f3 (pv 9 v9 (pn 10 ms.length (pn 11 (i+1:Nat) .nil))))) ?_;refine ih (i+1,_) A4 (by simp only;omega) ⟨T,hltN,c3,N9,?_⟩;show (x || b9)=false↔b=false∧∀j y,j<i+1→ms[j]?=some y→iX X.cs X.hs c y n;rw[Bool.or_eq_false_iff,z9,e4];have hz:=hz.1 rfl;constructor
    ·rintro ⟨g1,g2⟩;refine⟨hz.1,fun j y hj hy=>?_⟩;by_cases e:j=i
     ·subst e;rw[hu] at hy;cases hy;rw[←eu] at g1;exact fun _=>⟨g2,g1⟩
     ·exact hz.2 j y om hy
    ·rintro ⟨g1,g2⟩;have:=g2 i m (Nat.lt_succ_self _) hu k4;rw[eu] at this ⊢;exact⟨this.2,this.1⟩
  ·refine wT 18 k4 ?_;refine rU ?_;refine ay rfl ?_;refine wP ?_;refine ai ?_;refine yL (pp 0 X.pc (pp 3 f3 (pv 9 v9 (pn 10 ms.length (pn 11 (i+1:Nat) .nil))))) ?_;refine ih (i+1,b0) A1 (by simp only;omega) ⟨T,hltN,c3,N9,?_⟩;show b0=false↔b=false∧∀j y,j<i+1→ms[j]?=some y→iX X.cs X.hs c y n;rw[hz];refine⟨fun h=>⟨h.1,fun j y hj hy=>?_⟩,fun h=>⟨h.1,fun j y hj hy=>h.2 j y om hy⟩⟩;by_cases e:j=i
   ·subst e;rw[hu] at hy;cases hy;exact fun h=>absurd h k4
   ·exact h.2 j y om hy
 ·refine ay rfl ?_;refine gO ?_;refine bd rfl ⟨b0,T,?_⟩;rw[hz];unfold fv;rw[hms];exact⟨fun h=>⟨h.1,fun j x hx=>h.2 j x (by have:=(List.getElem?_eq_some_iff.1 hx).1;omega) hx⟩,fun h=>⟨h.1,fun j x _ hx=>h.2 j x hx⟩⟩
def gz:Str:=[77,97,105,110]
def mp:Str:=[109,97,105,110]
def Ah(cs:List Nd)(hs:Hs): Prop:=(bp cs gz).isSome=true∧∃m,dM cs hs gz mp 4=some m∧(params m).length=0∧(first m).1=0
structure iv (cs:List Nd) (n:Nat) : Prop where
 hier:gW cs
 Cq:∀(i:Nat) (c:Nd),cs[i]?=some c→eT cs (cI cs) c
 DK:∀(i:Nat) (c:Nd),cs[i]?=some c→fv cs (cI cs) c n
 main:Ah cs (cI cs)
structure Ai (cs:List Nd) (n:Nat) : Prop where
 two:∀c∈cs,0<c.l.length
 Cv:∀c∈cs,rI c.s
 cls:∀c∈cs,named c.s=(4,c.s)
 sup:∀c∈cs,small (bZ c)
 mem:∀c∈cs,∀m∈c.l.drop 1,jK m
 sm:∀c∈cs,∀m∈c.l.drop 1,qF m
 wU:∀c∈cs,∀m∈c.l.drop 1,m.k=4→∃u,m.l[m.l.length-1]?=some u∧St 20000 u∧sz u≤n
theorem DL{s:Str}(h:nm s): named s=(4,s):=by
 have h:=h.2;unfold kwT at h;unfold named;rw[if_neg fun e=>h (.inl e),if_neg fun e=>h (.inr (.inl e)),if_neg fun e=>h (.inr (.inr (.inl e))),if_neg fun e=>h (.inr (.inr (.inr e)))]
theorem vr{k a:Int}{s:Str}{i:Int}{x:Nat×Nat}{t b:Nd}{ps:List Nd}:params (.mk k a s i x (t::(ps++[b])))=ps:=by
 show (ps++[b]).take ((t::(ps++[b])).length-2)=ps;rw[lC,lA,lS,show ps.length+1+1-2=ps.length from by omega,List.take_left'];rfl
theorem DM{m:Nd}{n:Nat}(h:Mb m)(hz:sz m≤n): jK m∧qF m∧(m.k=4→∃u,m.l[m.l.length-1]?=some u∧St 20000 u∧sz u≤n):=by
 cases h with
 | field ht=>exact⟨⟨by show 0<1;decide,fun h=>absurd h (by show ¬(3:Int)=4;decide)⟩,⟨ht,fun p hp=>absurd hp (by show p∉[];exact List.not_mem_nil)⟩,fun h=>absurd h (by show ¬(3:Int)=4;decide)⟩
 | meth ht hps hb=>
  rename_i a s i x t b ps;have hl:(t::(ps++[b])).length=ps.length+2:=by rw[lC,lA,lS]
  refine⟨⟨by show 0<(t::(ps++[b])).length;omega,fun _=>⟨by show 2≤(t::(ps++[b])).length;omega,fun p hp=>?_⟩⟩,⟨ht,fun p hp=>?_⟩,fun _=>⟨b,?_,hb,?_⟩⟩
  ·rw[vr] at hp;cases hps p hp with
   | mk h=>exact Nat.succ_pos _
  ·rw[vr] at hp;cases hps p hp with
   | mk h=>exact h
  ·show (t::(ps++[b]))[(t::(ps++[b])).length-1]?=some b;rw[hl,show ps.length+2-1=ps.length+1 from by omega,List.getElem?_cons_succ,List.getElem?_append_right (Nat.le_refl _),Nat.sub_self];rfl
  ·have:=fE (t:=.mk 4 a s i x (t::(ps++[b]))) (u:=b) (by show b∈t::(ps++[b]);simp);omega
theorem pr_ok{t:Nd}(h:Pr t): Ai t.l (sz t):=by
 cases h with
 | mk hc=>
  rename_i a s i x cs;have key:∀c∈cs,0<c.l.length∧rI c.s∧named c.s=(4,c.s)∧small (bZ c)∧∀m∈c.l.drop 1,Mb m:=by
   intro c hcc;cases hc c hcc with
   | mk h1 h2 h3=>
    rename_i a s i x t ms;have e:small t.s:=h2.elim (fun e=>by
     rw[e];exact fun b hb=>absurd hb List.not_mem_nil) fun h=>uX h.1
    exact⟨Nat.succ_pos _,h1.1,DL h1,e,h3⟩
  have hs:∀c∈cs,∀m∈c.l.drop 1,sz m≤sz (Nd.mk 1 a s i x cs):=fun c hcc m hm=>by
   have h1:=fE (t:=.mk 1 a s i x cs) (u:=c) hcc;have h2:=fE (List.mem_of_mem_drop hm);omega
  exact⟨fun c h=>(key c h).1,fun c h=>(key c h).2.1,fun c h=>(key c h).2.2.1,fun c h=>(key c h).2.2.2.1,fun c h m hm=>(DM ((key c h).2.2.2.2 m hm) (hs c h m hm)).1,fun c h m hm=>(DM ((key c h).2.2.2.2 m hm) (hs c h m hm)).2.1,fun c h m hm=>(DM ((key c h).2.2.2.2 m hm) (hs c h m hm)).2.2⟩
theorem Bg{cs:List Nd}(h:gW cs)(t:Tree (cI cs)){c:Nd}(hc:c∈cs): ∃rest,nj (cI cs) c.s=c.s::up (cI cs) c.s::rest:=by
 have hk:=h.cls hc;have h1:has (cI cs) c.s=true:=DD.2 (.inr (.inr (List.mem_map_of_mem hc)));rw[tT t h1 hk.2.1];have h2:=t.ups c.s h1 hk.2.1;refine⟨if up (cI cs) c.s=bB then [] else iJ (cI cs) (cI cs).length (up (cI cs) (up (cI cs) c.s)),congrArg _ ?_⟩;show nj (cI cs) (up (cI cs) c.s)=_;unfold nj;rw[iP h2];rfl
theorem bld62{K:FuncId}{A:AW}{es n:Nat}{cs:List AV}{v:AV}(h:Row A es v n cs): kP (ES K) 62 [(0,v)] A=.val (.agg [v,.bJ,.bJ]) A:=by
 rcases h with ⟨rfl|⟨z,rfl⟩,_,_⟩|⟨f,t,o,c,ex,ro,all,rfl,_,_⟩<;>rfl
theorem aI.row{A:AW}{S:Nat→Prop}{t:Nd}{kv:AV}(h:aI A S t kv): ∃n cs,Row A 6 kv n cs:=by
 cases h with
 | mk h1 h2 h3 h4=>exact⟨_,_,h1⟩
def Fe(A A1:AW)(cs:List Nd)(kv:AV)(n:Nat)(r:AV): Prop:=ac A A1 ag∧∃pc,r=.ptr pc 0 0∧A.aa≤pc∧
 ((¬iv cs n∧∃v fe,A1.heap.get pc=some (.cells 0 false 3 [kv,v,.ptr fe 0 0]))∨(iv cs n∧∃fr fm vn,PC A1 ⟨A.aa,pc,fr,fm,kv,vn,cs,cI cs⟩ false))
set_option maxHeartbeats 8000000 in
theorem wN{K:FuncId}{n:Nat}{A:AW}{t:Nd}{kv:AV}{cs:List Nd}(hw:Wf A)(N:aI A (fun g=>g<A.aa) t kv)(hcs:cs=t.l)(hok:Ai cs n):
 aD (ES K) 18 [.agg (au t kv)] A fun r A1=>Fe A A1 cs kv n r:=by
 refine ap rfl rfl rfl ?_;have T:ac A A ag:=ac.refl hw _;refine gO ?_;replace N:=N.jT;rw[←hcs] at N;refine bA rfl rfl rfl rfl ?_;generalize hf1:A.aa=f1;refine iV (n:=6) (cs:=au t kv) T hf1 ?_;intro A1 x1 o1 c1 T;replace N:=N.k o1;have l1:=T.wf _ _ c1;refine gO ?_;obtain⟨rn,rcs,hrow⟩:=N.row;refine pa rfl rfl (bld62 hrow) ?_;refine oP ?_;refine bA rfl rfl rfl rfl ?_;generalize hf3:A1.aa=f3;refine iV (n:=3) (cs:=[kv,.bJ,.bJ]) T hf3 ?_;intro A2 x3 o2 c3 T;replace N:=N.k o2;have l2:=T.wf _ _ c3;refine gO ?_;have P:PH A2 A.aa f3 kv cs false:=⟨⟨0,c3⟩,N,om⟩;refine zC rfl (Co T.wf P om hok.two hok.Cv hok.sup hok.mem) ?_;rintro r17 A3 ⟨o3,hr⟩;have o03:ac A A3 ag:=ac.fresh hw T o3 fun g hg=>by cases hg;exact x3
 have hlv:bm kv=some cs.length:=N.bm;have hl9:cs.length≤9000:=N.len;refine gO ?_;refine dG rfl rfl rfl ?_;refine oP ?_;refine dG rfl rfl rfl ?_;refine gO ?_;rcases hr with ⟨P,hno⟩|⟨hhi,fr,fm,vn,h⟩
 ·obtain⟨fe,hc⟩:=P.cell;have h0:0<cs.length:=by
   refine Nat.pos_of_ne_zero fun e=>hno ?_;have e:cs=[]:=List.eq_nil_of_length_eq_zero e;rw[e];exact⟨fun i c h=>(by cases h),fun c h=>absurd h List.not_mem_nil,fun c h=>absurd h List.not_mem_nil⟩
  obtain⟨u,hu⟩:∃u,cs[0]?=some u:=⟨_,gE h0⟩;obtain⟨f,s,o,cc,ex,ro,all,ku,hv,hh,_,hN,cw⟩:=P.tree.wi (i:=0) (u:=u) hu;refine aE ?_;refine gO ?_;refine cD rfl (fun _=>?_) fun h=>absurd dE h;refine gO ?_;refine md (n:=2) (e:=66) 0 rfl rfl rfl rfl rfl rfl rfl dE rfl ?_;refine wJ hlv ?_;refine aE ?_;refine gO ?_;refine cD rfl (fun _=>?_) fun h=>absurd (Int.ofNat_lt.2 h0) h;refine wI hv h0 ?_;refine zK hh ((cw 6 0 (Nat.le_refl _)).trans rfl) ?_;refine oP ?_;refine aq rfl rfl rfl ?_;refine zS (by rw[AW.add_get,iP rfl]) ?_;refine bG (fun A4=>ac A3 A4 ag) (made o3.wf) ?_;intro A4 o4;replace hc:=o4.k hc;refine gO ?_;refine bL (v:=.bool true) rfl rfl rfl rfl ?_;refine rU ?_;exact af rfl ⟨o03.same o4,f3,rfl,x3,.inl ⟨fun k=>hno k.hier,.bJ,fe,hc⟩⟩
 generalize hX:(⟨A.aa,f3,fr,fm,kv,vn,cs,cI cs⟩:BX)=X at h;have eM:X.M=A.aa:=by rw[←hX]
 have ep:X.pc=f3:=by rw[←hX]
 have ek:X.kv=kv:=by rw[←hX]
 have ec:X.cs=cs:=by rw[←hX]
 have eh:X.hs=cI cs:=by rw[←hX]
 have h':=hX;clear c3 c1 hX;have hw0:=hw;clear hw T;have hw:Wf A3:=o3.wf;have T:=ir.refl hw h;have N:=h.tree;rw[ec,ek] at N;have x3':A.aa≤X.pc:=om;rw[←ep];have fin:∀{B:AW} {b b':Bool},ir A3 B X b b'→ac A B ag:=fun k=>ac.fresh hw0 o03 k.Fi fun g hg=>by cases hg;exact x3'
 have bad:∀{B:AW} {b:Bool},ir A3 B X b true→¬iv cs n→Fe A B cs kv n (.ptr X.pc 0 0):=fun k hn=>⟨fin k,X.pc,rfl,x3',.inl ⟨hn,by
  obtain⟨fe,hc⟩:=k.ps.cell;rw[ek] at hc;exact⟨_,fe,hc⟩⟩⟩
 have htr:=wz hhi hok.Cv hok.sup;refine aE ?_;refine yL (pp 3 X.pc (pv 22 (.agg [.func 47 [.ptr X.pc 0 0] [],.func 48 [.ptr X.pc 0 0] []]) (pn 23 0 .nil))) ?_;refine gO ?_;refine cD rfl (fun _=>?_) fun h=>absurd dE h;obtain⟨fe,hpc⟩:=T.ps.cell;rw[ek] at hpc;refine gO ?_;refine md (n:=2) (e:=66) 0 rfl rfl rfl rfl rfl rfl rfl dE rfl ?_;refine wJ hlv ?_;clear hpc;refine aE ?_;refine yL (pp 3 X.pc (pv 22 (.agg [.func 47 [.ptr X.pc 0 0] [],.func 48 [.ptr X.pc 0 0] []]) (pv 5 (.func 47 [.ptr X.pc 0 0] []) (pn 23 0 (pv 29 kv (pn 30 cs.length (pn 31 0 .nil))))))) ?_;refine aV (ι:=Nat×Bool) (fun i=>cs.length-i.1) (fun i=>(pp 3 X.pc (pv 22 (.agg [.func 47 [.ptr X.pc 0 0] [],.func 48 [.ptr X.pc 0 0] []]) (pv 5 (.func 47 [.ptr X.pc 0 0] []) (pn 23 0 (pv 29 kv (pn 30 cs.length (pn 31 i.1 .nil))))))))
  (fun i B=>ir A3 B X false i.2∧i.1≤cs.length∧aI B (fun g=>g<X.M) (jT cs) kv∧(i.2=false↔∀(j:Nat) (c:Nd),j<i.1→cs[j]?=some c→eT cs (cI cs) c)) ?_ (0,false) _ ⟨T,Nat.zero_le _,N,fun _ j c hj _=>absurd hj (Nat.not_lt_zero _),fun _=>rfl⟩
 clear T N;rintro ⟨i,b0⟩ B0 ⟨T,hi,N,hz⟩ ih;replace T:ir A3 B0 X false b0:=T;replace hi:i≤cs.length:=hi;replace hz:b0=false↔∀(j:Nat) (c:Nd),j<i→cs[j]?=some c→eT cs (cI cs) c:=hz;refine wD (fun hlt=>?_) fun hge=>?_
 ·have hltN:i<cs.length:=Int.ofNat_lt.1 hlt;clear hlt;have hu:cs[i]?=some cs[i]:=gE hltN;generalize hx:cs[i]=u at hu;have hum:u∈cs:=by rw[←hx];exact List.getElem_mem hltN
  obtain⟨f,s,o,cc,ex,ro,all,ku,hv,hh,_,Nu,cw⟩:=N.wi (i:=i) (u:=u) hu;obtain⟨fe,hpc⟩:=T.ps.cell;refine wI hv hltN ?_;refine zK hh ((cw 6 0 (Nat.le_refl _)).trans rfl) ?_;refine oP ?_;refine aq rfl rfl rfl ?_;refine zS (by rw[AW.add_get,iP rfl]) ?_;generalize hf7:B0.aa=f7;refine gX (n:=6) (cs:=au u ku) hw h T hf7 ?_;intro B1 x7 p7 o7 c7 T;replace N:=N.k o7;replace Nu:=Nu.k o7;replace hpc:=o7.k hpc;refine gO ?_;cases b0 with
  | true=>
   refine bL (v:=.bool true) rfl rfl rfl rfl ?_;refine rU ?_;refine af rfl (bad T fun k=>?_);have:=hz.2 (fun j y _ hy=>k.Cq j y hy);cases this
  | false=>
   have hz:=hz.1 rfl;refine bL (v:=.bool false) rfl rfl rfl rfl ?_;refine rU ?_;refine wL c7 ?_;obtain⟨rest,hup⟩:=Bg hhi htr hum;refine pi (vs:=[.agg (au u ku)]) rfl rfl rfl rfl bF rfl (wH T.Fi.wf T.ps Nu (hok.two u hum) (hok.mem u hum) (hok.sm u hum) (by rw[ec];exact hok.sm) (rest:=rest) (by rw[eh];exact hup)) ?_;rintro r43 B2 ⟨b1,t2,e2⟩;replace T:=T.then t2;replace N:=N.k t2.Fi;rw[ec,eh] at e2;refine wP ?_;refine ai ?_;refine yL (pp 3 X.pc (pv 22 (.agg [.func 47 [.ptr X.pc 0 0] [],.func 48 [.ptr X.pc 0 0] []]) (pv 5 (.func 47 [.ptr X.pc 0 0] []) (pn 23 0 (pv 29 kv (pn 30 cs.length (pn 31 (i+1:Nat) .nil))))))) ?_;refine ih (i+1,b1) _ (by simp only;omega) ⟨T,hltN,N,?_⟩;show b1=false↔∀(j:Nat) (c:Nd),j<i+1→cs[j]?=some c→eT cs (cI cs) c;rw[e2];constructor
   ·rintro ⟨_,g2⟩;refine fun j y hj hy=>?_;by_cases e:j=i
    ·subst e;rw[hu] at hy;cases hy;exact g2
    ·exact hz j y om hy
   ·exact fun g=>⟨rfl,g i u (Nat.lt_succ_self _) hu⟩
 have hge:i=cs.length:=by
  omega
 subst hge;clear ih;refine ay rfl ?_;refine wP ?_;refine ai ?_;have hz:b0=false↔∀(j:Nat) (c:Nd),cs[j]?=some c→eT cs (cI cs) c:=hz.trans ⟨fun h j c hj=>h j c (List.getElem?_eq_some_iff.1 hj).1 hj,fun h j c _ hj=>h j c hj⟩;refine yL (pp 3 X.pc (pv 22 (.agg [.func 47 [.ptr X.pc 0 0] [],.func 48 [.ptr X.pc 0 0] []]) (pn 23 1 .nil))) ?_;refine gO ?_;refine cD rfl (fun _=>?_) fun h=>absurd dE h;obtain⟨fe,hpc⟩:=T.ps.cell;rw[ek] at hpc;refine gO ?_;refine md (n:=2) (e:=66) 1 rfl rfl rfl rfl rfl rfl rfl dE rfl ?_;refine wJ hlv ?_;clear hpc;refine aE ?_;refine yL (pp 3 X.pc (pv 22 (.agg [.func 47 [.ptr X.pc 0 0] [],.func 48 [.ptr X.pc 0 0] []]) (pv 5 (.func 48 [.ptr X.pc 0 0] []) (pn 23 1 (pv 29 kv (pn 30 cs.length (pn 31 0 .nil))))))) ?_
 refine aV (ι:=Nat×Bool) (fun i=>cs.length-i.1) (fun i=>(pp 3 X.pc (pv 22 (.agg [.func 47 [.ptr X.pc 0 0] [],.func 48 [.ptr X.pc 0 0] []]) (pv 5 (.func 48 [.ptr X.pc 0 0] []) (pn 23 1 (pv 29 kv (pn 30 cs.length (pn 31 i.1 .nil))))))))
  (fun i B=>ir A3 B X false i.2∧i.1≤cs.length∧aI B (fun g=>g<X.M) (jT cs) kv∧(i.2=false↔(∀(j:Nat) (c:Nd),cs[j]?=some c→eT cs (cI cs) c)∧∀(j:Nat) (c:Nd),j<i.1→cs[j]?=some c→fv cs (cI cs) c n)) ?_ (0,b0) _ ⟨T,Nat.zero_le _,N,fun e=>⟨hz.1 e,fun j c hj _=>absurd hj (Nat.not_lt_zero _)⟩,fun e=>hz.2 e.1⟩
 clear T N;rintro ⟨i,b0⟩ C0 ⟨T,hi,N,hz⟩ ih;replace T:ir A3 C0 X false b0:=T;replace hi:i≤cs.length:=hi;replace hz:b0=false↔(∀(j:Nat) (c:Nd),cs[j]?=some c→eT cs (cI cs) c)∧∀(j:Nat) (c:Nd),j<i→cs[j]?=some c→fv cs (cI cs) c n:=hz;refine wD (fun hlt=>?_) fun hge=>?_
 ·have hltN:i<cs.length:=Int.ofNat_lt.1 hlt;clear hlt;have hu:cs[i]?=some cs[i]:=gE hltN;generalize hx:cs[i]=u at hu;have hum:u∈cs:=by rw[←hx];exact List.getElem_mem hltN
  obtain⟨f,s,o,cc,ex,ro,all,ku,hv,hh,_,Nu,cw⟩:=N.wi (i:=i) (u:=u) hu;obtain⟨fe,hpc⟩:=T.ps.cell;refine wI hv hltN ?_;refine zK hh ((cw 6 0 (Nat.le_refl _)).trans rfl) ?_;refine oP ?_;refine aq rfl rfl rfl ?_;refine zS (by rw[AW.add_get,iP rfl]) ?_;generalize hf7:C0.aa=f7;refine gX (n:=6) (cs:=au u ku) hw h T hf7 ?_;intro C1 x7 p7 o7 c7 T;replace N:=N.k o7;replace Nu:=Nu.k o7;replace hpc:=o7.k hpc;refine gO ?_;cases b0 with
  | true=>
   refine bL (v:=.bool true) rfl rfl rfl rfl ?_;refine rU ?_;refine af rfl (bad T fun k=>?_);have:=hz.2 ⟨k.Cq,fun j y _ hy=>k.DK j y hy⟩;cases this
  | false=>
   have hz:=hz.1 rfl;refine bL (v:=.bool false) rfl rfl rfl rfl ?_;refine rU ?_;refine wL c7 ?_;have hdn:∀m∈u.l.drop 1,m.k=4→((params m).map Nd.s).Nodup:=fun m hm k4=>by
    obtain⟨j,hj,hx⟩:=List.getElem_of_mem hm;exact mP ((hz.1 i u hu j m (by rw[gE hj,hx])).par k4)
   refine pi (vs:=[.agg (au u ku)]) rfl rfl rfl rfl bF rfl (wM (n:=n) T.Fi.wf T.ps Nu (hok.two u hum) (hok.cls u hum) (hok.mem u hum) (fun _=>hdn) (hok.wU u hum)) ?_;rintro r43 C2 ⟨b1,t2,e2⟩;replace T:=T.then t2;replace N:=N.k t2.Fi;rw[ec,eh] at e2;refine wP ?_;refine ai ?_;refine yL (pp 3 X.pc (pv 22 (.agg [.func 47 [.ptr X.pc 0 0] [],.func 48 [.ptr X.pc 0 0] []]) (pv 5 (.func 48 [.ptr X.pc 0 0] []) (pn 23 1 (pv 29 kv (pn 30 cs.length (pn 31 (i+1:Nat) .nil))))))) ?_;refine ih (i+1,b1) _ (by simp only;omega) ⟨T,hltN,N,?_⟩;show b1=false↔(∀(j:Nat) (c:Nd),cs[j]?=some c→eT cs (cI cs) c)∧∀(j:Nat) (c:Nd),j<i+1→cs[j]?=some c→fv cs (cI cs) c n;rw[e2];constructor
   ·rintro ⟨_,g2⟩;refine⟨hz.1,fun j y hj hy=>?_⟩;by_cases e:j=i
    ·subst e;rw[hu] at hy;cases hy;exact g2
    ·exact hz.2 j y om hy
   ·exact fun g=>⟨rfl,g.2 i u (Nat.lt_succ_self _) hu⟩
 have hge:i=cs.length:=by
  omega
 subst hge;clear ih;refine ay rfl ?_;refine wP ?_;refine ai ?_;have hz:b0=false↔(∀(j:Nat) (c:Nd),cs[j]?=some c→eT cs (cI cs) c)∧∀(j:Nat) (c:Nd),cs[j]?=some c→fv cs (cI cs) c n:=hz.trans ⟨fun h=>⟨h.1,fun j c hj=>h.2 j c (List.getElem?_eq_some_iff.1 hj).1 hj⟩,fun h=>⟨h.1,fun j c _ hj=>h.2 j c hj⟩⟩;refine yL (pp 3 X.pc (pv 22 (.agg [.func 47 [.ptr X.pc 0 0] [],.func 48 [.ptr X.pc 0 0] []]) (pn 23 2 .nil))) ?_;refine gO ?_;refine cD rfl (fun h=>absurd h dE) fun _=>?_;refine ay rfl ?_;obtain⟨fe,hpc⟩:=T.ps.cell;refine gO ?_;cases b0 with
 | true=>
  refine bL (v:=.bool true) rfl rfl rfl rfl ?_;refine rU ?_;exact af rfl (bad T fun k=>by
   have:=hz.2 ⟨k.Cq,k.DK⟩;cases this)
 | false=>
  have hz:=hz.1 rfl;refine bL (v:=.bool false) rfl rfl rfl rfl ?_;refine rU ?_;refine zC rfl (qE (n:=gz) T.Fi.wf T.ps) ?_;rintro r54 D1 ⟨oD1,hr54⟩;rw[ec] at hr54;replace T:=T.quiet oD1;have hu54:∃z zk,r54=.tuple [.agg (au z zk),.bool (bp cs gz).isSome]:=by
   cases hm:bp cs gz with
   | none=>
    rw[hm] at hr54;exact⟨_,_,hr54⟩
   | some z=>
    rw[hm] at hr54;obtain⟨zk,hr54,_⟩:=hr54;exact⟨z,zk,hr54⟩
  obtain⟨z,zk,rfl⟩:=hu54;clear hr54;refine gO ?_;refine aq rfl rfl rfl ?_;refine zS (by rw[AW.add_get,iP rfl]) ?_;generalize hfz:D1.aa=fz;refine gX (n:=6) (cs:=au z zk) hw h T hfz ?_;intro D2 xz pz oD2 cz T;refine wC (jj (c:=gz) (n:=mp) (k:=4) T.Fi.wf T.ps) ?_;rintro r59 D3 ⟨oD3,hr59⟩;rw[ec,eh] at hr59;replace T:=T.quiet oD3;have hu59:∃o ko th,r59=.tuple [.agg (au o ko),.bool th]∧match dM cs (cI cs) gz mp 4 with
   | none=>th=false
   | some o'=>th=true∧o'=o∧∃S,aI D3 S o ko:=by
   cases hm:dM cs (cI cs) gz mp 4 with
   | none=>
    rw[hm] at hr59;exact⟨dL,.aj,false,hr59,rfl⟩
   | some o'=>
    rw[hm] at hr59;obtain⟨ko,g1,g2⟩:=hr59;exact⟨o',ko,true,g1,rfl,rfl,_,g2⟩
  clear hr59;obtain⟨o,ko,th,rfl,h59⟩:=hu59;refine gO ?_;refine aq rfl rfl rfl ?_;refine zS (by rw[AW.add_get,iP rfl]) ?_;generalize hf10:D3.aa=f10;refine gX (n:=6) (cs:=au o ko) hw h T hf10 ?_;intro D4 x10 p10 oD4 c10 T;refine gO ?_;cases hcl:(bp cs gz).isSome with
  | false=>
   refine aF 65 true rfl rfl ?_;refine wC (bP T.Fi.wf T.ps) ?_;rintro r81 E1 ⟨rfl,tE⟩;replace T:=T.then tE;refine gO ?_;refine af rfl (bad T fun k=>?_);have:=k.main.1;rw[hcl] at this;cases this
  | true=>
   refine aF 65 false rfl rfl ?_;refine oP ?_;cases hm:dM cs (cI cs) gz mp 4 with
   | none=>
    rw[hm] at h59;have h59:th=false:=h59;subst h59;refine aF 69 true rfl rfl ?_;refine wC (bP T.Fi.wf T.ps) ?_;rintro r81 E1 ⟨rfl,tE⟩;replace T:=T.then tE;refine gO ?_;refine af rfl (bad T fun k=>?_);obtain⟨m,e,_⟩:=k.main.2;rw[hm] at e;cases e
   | some o'=>
    rw[hm] at h59;obtain⟨rfl,rfl,S,No⟩:=h59;have hoo:=jg hok.mem hm;have hop:=hoo.1.2 hoo.2;replace No:=No.k oD4;refine aF 69 false rfl rfl ?_;refine oP ?_
    try refine aM rfl ?_
    refine wL c10 ?_
    try refine aM rfl ?_
    refine zC rfl (dH T.Fi.wf No hop.1) ?_;rintro r71 E1 ⟨N71,oE1⟩;replace T:=T.quiet oE1;replace No:=No.k oE1;replace c10:=oE1.k c10;refine oP ?_
    try refine aM rfl ?_
    refine wJ (show bm r71=some (params o').length from N71.bm) ?_;by_cases hp0:(0:Int)<((params o').length:Int)
    ·refine wT 75 hp0 ?_;refine wC (bP T.Fi.wf T.ps) ?_;rintro r81 E2 ⟨rfl,tE⟩;replace T:=T.then tE;refine gO ?_;refine af rfl (bad T fun k=>?_);obtain⟨m,e,e0,_⟩:=k.main.2;rw[hm] at e;cases e;omega
    refine wF 75 hp0 ?_;refine oP ?_
    try refine aM rfl ?_
    refine wL c10 ?_
    try refine aM rfl ?_
    refine zC rfl (eN T.Fi.wf No om) ?_;rintro r77 E2 ⟨rfl,oE2⟩;replace T:=T.quiet oE2;refine oP ?_
    try refine aM rfl ?_
    refine dx rfl rfl (v:=.int .i64 (first o').1) rfl ?_;refine oP ?_;by_cases hv0:(first o').1=0
    ·refine aF 80 false rfl (yF fun h=>h hv0) ?_;refine zC rfl (bP T.Fi.wf T.ps) ?_;rintro r81 E3 ⟨rfl,tE⟩;replace T:=T.then tE;refine gO ?_;refine af rfl ⟨fin T,X.pc,rfl,x3',.inr ⟨⟨hhi,hz.1,hz.2,hcl,o',hm,om,hv0⟩,fr,fm,vn,?_⟩⟩;have:=T.ps;rw[ep];rw[←h'] at this;exact this
    ·refine wT 80 hv0 ?_;refine zC rfl (bP T.Fi.wf T.ps) ?_;rintro r81 E3 ⟨rfl,tE⟩;replace T:=T.then tE;refine gO ?_;exact af rfl (bad T fun k=>by
      obtain⟨m,e,_,e0⟩:=k.main.2;rw[hm] at e;cases e;exact hv0 e0)
end Go.Proofs.YtafamggbkobcfaaGreat.Ae
