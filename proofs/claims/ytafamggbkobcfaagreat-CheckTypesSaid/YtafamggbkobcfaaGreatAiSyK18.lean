/- A part of the proof of the statement CheckTypes. -/
import Derived.Test.YtafamggbkobcfaaGreatAiSyK17
namespace Go.Proofs.YtafamggbkobcfaaGreat.Ae
open Go.AE
set_option linter.unusedVariables false
set_option maxRecDepth 100000
theorem rO{E:Ev}{m:Nat}{lk:List Str}{vs ws xs:Vs}{t u0 u1 u2:Nd}{b1 b3 b4:Bool}(e:ba t=u0∧eg t 1=u1∧eg t 2=u2)(z1:match cP E m lk vs u0 with
 | none=>b1=true
 | some w=>b1=false∧w=vs++ws) (bad3:(!decide (there E.hs (named u1.s)) || b1)=true→b3=true) (z3:(!decide (there E.hs (named u1.s)) || b1)=false→b3=decide (bN (vs++ws) t.s≠none)) (bad4:b3=true→b4=true)
 (z4:b3=false→match (match cP E m lk ((vs++ws)++[(t.s,named u1.s)]) u2 with
  | none=>none
  | some _=>some (vs++ws) : Option Vs) with
  | none=>b4=true
  | some w=>b4=false∧w=(vs++ws)++xs) :
 match (match cP E m lk vs (ba t) with
  | none=>none
  | some vs1=>if there E.hs (named (eg t 1).s)∧bN vs1 t.s=none then (match cP E m lk (vs1++[(t.s,named (eg t 1).s)]) (eg t 2) with
   | none=>none
   | some _=>some vs1) else none:Option Vs) with
  | none=>b4=true
  | some w=>b4=false∧w=(vs++ws)++xs:=by
 obtain⟨rfl,rfl,rfl⟩:=e;cases h1:cP E m lk vs (ba t) with
 | none=>
  rw[h1] at z1;have z1:b1=true:=z1;exact bad4 (bad3 (by rw[z1,Bool.or_true]))
 | some w=>
  rw[h1] at z1;obtain⟨rfl,rfl⟩:b1=false∧w=vs++ws:=z1;by_cases ht:there E.hs (named (eg t 1).s)
  ·rw[yT ht] at z3;have z3:=z3 rfl;by_cases hf:bN (vs++ws) t.s=none
   ·simp only[iP (show there E.hs (named (eg t 1).s)∧bN (vs++ws) t.s=none from ⟨ht,hf⟩)];exact z4 (by rw[z3];exact yF fun h=>h hf)
   ·simp only[iN (show ¬(there E.hs (named (eg t 1).s)∧bN (vs++ws) t.s=none) from fun h=>hf h.2)];exact bad4 (by rw[z3];exact yT hf)
  ·simp only[iN (show ¬(there E.hs (named (eg t 1).s)∧bN (vs++ws) t.s=none) from fun h=>ht h.1)];exact bad4 (bad3 (by rw[yF ht];rfl))
theorem aW{t u:Nd}(h:t.l[0]?=some u): ba t=u:=by
 unfold ba;rw[List.headD_eq_head?_getD,List.head?_eq_getElem?,h];rfl
theorem cO{t u:Nd}{i:Nat}(h:t.l[i]?=some u): eg t i=u:=by
 unfold eg;rw[List.getD_eq_getElem?_getD,h];rfl
set_option maxHeartbeats 4000000 in
theorem Ck{K:FuncId}{n m:Nat}(hS:ye K n m){A:AW}{Y:BY}{b:Bool}{t u0 u1 u2:Nd}{kv:AV}(hw:Wf A)(h:BS A Y b)(N:aI A (fun g=>g<Y.X.M) t kv)(hu0:t.l[0]?=some u0)(hu1:t.l[1]?=some u1)(hu2:t.l[2]?=some u2)(hE0:St m u0∧sz u0≤n)(hE2:St m u2∧sz u2≤n)(hv:Y.vars.length+2+9001*m+2≤1000000000):
 aD (ES K) 112 [.ptr Y.fb 0 0,.agg (au t kv)] A fun r A1=>nC 1 A A1 Y b (match cP (Y.ev n) m Y.locks Y.vars (ba t) with
  | none=>none
  | some vs1=>if there Y.X.hs (named (eg t 1).s)∧bN vs1 t.s=none then (match cP (Y.ev n) m Y.locks (vs1++[(t.s,named (eg t 1).s)]) (eg t 2) with
   | none=>none
   | some _=>some vs1) else none):=by
 have e1:=And.intro (aW hu0) (And.intro (cO hu1) (cO hu2));refine ap rfl rfl rfl ?_;have T:ST A A Y (Y.set Y.vv Y.lv Y.vars Y.locks) b b:=ST.refl hw h;refine gO ?_;refine bA rfl rfl rfl rfl ?_;generalize hf2:A.aa=f2;refine gm (n:=1) (cs:=[.ptr Y.fb 0 0]) hw h T rfl hf2 ?_;intro A1 x2 p2 o1 c2 T;refine bA rfl rfl rfl rfl ?_;generalize hf3:A1.aa=f3;refine gm (n:=6) (cs:=au t kv) hw h T rfl hf3 ?_;intro A2 x3 p3 o2 c3 T;replace c2:=o2.k c2;have hkv:=N.fS;replace N:=T.bl h N;obtain⟨fku0,sku0,oku0,cku0,eku0,rku0,aku0,ku0,hvu0,hsu0,hhu0,hlu0,Nu0,htu0⟩:=bv N hu0;have hku0:takeN 6 (aB (Nat.add oku0 (Nat.mul 0 6)) aku0)=some (au u0 ku0):=(htu0 6 0 (Nat.le_refl _)).trans rfl;refine tD ?_;refine ax rfl rfl rfl rfl rfl ?_
 try refine aM rfl ?_
 refine zI 0 hvu0 hlu0 ?_;refine eP ?_;refine rD ?_;refine zK hhu0 hku0 ?_;refine eR ?_;refine aC ?_;refine zC rfl (hS T.Fi.wf T.ps Nu0 hE0.1 hE0.2 om) ?_;rintro r A3 ⟨vv3,lv3,ws3,b3,t3,n3,z3⟩;obtain⟨c2',p2'⟩:=t3.dg T.Fi.wf rfl c2 p2;replace c2:=c2';replace p2:=p2';clear c2' p2';obtain⟨c3',p3'⟩:=t3.dg T.Fi.wf rfl c3 p3;replace c3:=c3';replace p3:=p3';clear c3' p3';replace N:=t3.bl T.ps N;replace T:ST A A3 Y (Y.set vv3 lv3 (Y.vars++ws3) Y.locks) b b3:=T.then hw rfl t3;refine sA ?_;refine aK ?_;obtain⟨fku1,sku1,oku1,cku1,eku1,rku1,aku1,ku1,hvu1,hsu1,hhu1,hlu1,Nu1,htu1⟩:=bv N hu1;have hku1:takeN 6 (aB (Nat.add oku1 (Nat.mul 1 6)) aku1)=some (au u1 ku1):=(htu1 6 0 (Nat.le_refl _)).trans rfl;have hnu1:=Nu1.bh;refine wI hvu1 hlu1 ?_;refine aZ rfl rfl rfl rfl hhu1 (v:=.str u1.s) (aR ((htu1 1 2 dE).trans rfl)) ?_;refine wC (ee T.Fi.wf) ?_
 rintro r A4 ⟨rfl,o4⟩;replace T:=T.quiet hw o4;obtain⟨c2,c3⟩:=o4.k2 c2 c3;replace N:=N.k o4;replace hhu1:=o4.k hhu1;refine oP ?_;refine aq rfl rfl rfl ?_;refine zS (by rw[AW.add_get,iP rfl]) ?_;generalize hf4:A4.aa=f4;refine iK (n:=2) (cs:=bc (named u1.s)) hw h T rfl hf4 ?_;intro A5 x4 p4 o5 c4 T;obtain⟨c2,c3⟩:=o5.k2 c2 c3;replace N:=N.k o5;replace hhu1:=o5.k hhu1;have hc:=T.ps.bo.cell;obtain⟨fe,hpc⟩:=T.ps.bo.eO.cell;refine tD ?_;refine rD ?_;refine zL c4 ?_;refine eR ?_;refine dR ?_;refine ax rfl rfl rfl rfl rfl ?_
 try refine aM rfl ?_
 refine zI 1 hvu1 hlu1 ?_;refine eP ?_;refine rD ?_;refine zK hhu1 hku1 ?_;refine eR ?_;refine aC ?_;refine zC rfl (mn T.Fi.wf T.ps.bo.eO) ?_;rintro r A6 ⟨rfl,o6⟩;replace T:=T.quiet hw o6;obtain⟨c2,c3,c4⟩:=o6.k3 c2 c3 c4;replace N:=N.k o6;replace hhu1:=o6.k hhu1;obtain⟨fe,hpc⟩:=T.ps.bo.eO.cell;refine sA ?_;refine aC ?_;refine zC rfl (ah (Y:=(Y.set vv3 lv3 (Y.vars++ws3) Y.locks)) T.Fi.wf T.ps.bo) ?_;rintro r A7 ⟨rfl,t7⟩;replace T:=T.step hw rfl t7;replace c2:=t7.Fi.ae _ _ c2 fun e=>p2 (.inl e);replace c3:=t7.Fi.ae _ _ c3 fun e=>p3 (.inl e);replace c4:=t7.Fi.ae _ _ c4 fun e=>p4 (.inl e);replace N:=t7.bl N;refine sA ?_;refine eD ?_;refine wL c3 ?_;refine wL c4 ?_;refine zC rfl (mo (Y:=(Y.set vv3 lv3 (Y.vars++ws3) Y.locks)) T.Fi.wf T.ps.bo) ?_;rintro r A8 ⟨b8,t8,z8⟩;replace T:=T.step hw rfl t8
 replace c2:=t8.Fi.ae _ _ c2 fun e=>p2 (.inl e);replace c3:=t8.Fi.ae _ _ c3 fun e=>p3 (.inl e);replace c4:=t8.Fi.ae _ _ c4 fun e=>p4 (.inl e);replace N:=t8.bl N;refine gO ?_;refine dG rfl rfl rfl ?_;refine wC (kf (Y:=(Y.set vv3 lv3 (Y.vars++ws3) Y.locks)) T.Fi.wf T.ps bF rfl (try_cl (Y:=(Y.set vv3 lv3 (Y.vars++ws3) Y.locks)) hS T.Fi.wf T.ps N hu2 hE2 (by show (Y.vars++ws3).length+1+9001*m+2≤_;rw[lA];omega) c2 c3 c4 p2 p3 p4 fun e=>zW (z8 (zV t8.bad e)) e)) ?_;rintro r A9 ⟨vv9,lv9,ws9,b9,t9,n9,z9⟩;obtain⟨c2',p2'⟩:=t9.dg T.Fi.wf rfl c2 p2;clear c2' p2';obtain⟨c3',p3'⟩:=t9.dg T.Fi.wf rfl c3 p3;clear c3' p3';obtain⟨c4',p4'⟩:=t9.dg T.Fi.wf rfl c4 p4;clear c4' p4';replace T:ST A A9 Y (Y.set vv9 lv9 ((Y.vars++ws3)++ws9) Y.locks) b b9:=T.then hw rfl t9;refine gO ?_;rw[aA] at T
 refine bd rfl ⟨vv9,lv9,ws3++ws9,b9,T,by rw[lA];omega,fun e=>?_⟩;rw[←aA];exact rO e1 (z3 e) t8.bad z8 t9.bad z9
theorem Ba(l:List Str)(s:Str): ip (l++[s])=ip l++[.str s]:=by
 rw[dZ];rfl
theorem EP(l:List Str): (ip l).length=l.length:=by
 have:=tA (f:=fun s:Str=>[AV.str s]) (es:=1) (fun _=>rfl) l;unfold ip;rw[this,Nat.mul_one]
set_option maxHeartbeats 4000000 in
theorem zY{K:FuncId}{n m:Nat}(hS:ye K n m){A:AW}{Y:BY}{b:Bool}{t u0:Nd}{kv:AV}(hw:Wf A)(h:BS A Y b)(N:aI A (fun g=>g<Y.X.M) t kv)(hu0:t.l[0]?=some u0)(hE0:St m u0∧sz u0≤n)(hv:Y.vars.length+9001*m+2≤1000000000):
 aD (ES K) 113 [.ptr Y.fb 0 0,.agg (au t kv)] A fun r A1=>nC 1 A A1 Y b (match bN Y.vars t.s with
  | none=>none
  | some y=>if y.1=4∧t.s∉Y.locks∧Y.locks.length<6 then cP (Y.ev n) m (Y.locks++[t.s]) Y.vars (ba t) else none):=by
 refine ap rfl rfl rfl ?_;have T:ST A A Y (Y.set Y.vv Y.lv Y.vars Y.locks) b b:=ST.refl hw h;refine gO ?_;refine bA rfl rfl rfl rfl ?_;generalize hf3:A.aa=f3;refine gm (n:=6) (cs:=au t kv) hw h T rfl hf3 ?_;intro A1 x3 p3 o1 c3 T;have l1:=T.Fi.wf _ _ c3;have hst:=N.bh;replace N:=T.bl h N;refine wC (og T.Fi.wf T.ps.bo) ?_;rintro r A2 ⟨o2,y,x,rfl,hf⟩;replace T:=T.quiet hw o2;replace c3:=o2.k c3;replace N:=N.k o2;have m2:=o2.aa;refine oP ?_;refine aq rfl rfl rfl ?_;refine zS (by rw[AW.add_get,iP rfl]) ?_;generalize hf4:A2.aa=f4;refine iK (n:=2) (cs:=bc y) hw h T rfl hf4 ?_;intro A3 x4 p4 o3 c4 T;replace c3:=o3.k c3;replace N:=N.k o3;have l3:=T.Fi.wf _ _ c4;have hll:=h.bo.ll;obtain⟨fe,hpc⟩:=T.ps.bo.eO.cell;refine tD ?_;cases x with
 | false=>
  try refine aL 16 true rfl rfl ?_
  refine dO ?_;refine rD ?_;refine zL c3 ?_;refine eR ?_;refine aC ?_;refine sA ?_;refine dO ?_
  try refine aL 21 true rfl rfl ?_
  refine dO ?_;refine aC ?_;refine sA ?_;refine dO ?_
  try refine aL 30 true rfl rfl ?_
  refine dO ?_;refine aC ?_;refine zC rfl (ah (Y:=(Y.set Y.vv Y.lv Y.vars Y.locks)) T.Fi.wf T.ps.bo) ?_;rintro r A4 ⟨rfl,t4⟩;replace T:=T.step hw rfl t4;refine sA ?_;refine eD ?_;refine rU ?_;refine af rfl ⟨Y.vv,Y.lv,[],true,by rw[aN];exact T,Nat.zero_le _,fun e=>?_⟩;have hf:=hf e;have hf:bN Y.vars t.s=none:=hf;rw[hf]
 | true=>
  try refine aL 16 false rfl rfl ?_
  refine rD ?_;refine zL c4 ?_;refine eR ?_;refine rD ?_;refine zL c3 ?_;refine eR ?_;refine aC ?_;refine zC rfl (gT T.Fi.wf) ?_;rintro r A4 ⟨rfl,o4⟩;replace T:=T.quiet hw o4;obtain⟨c3,c4⟩:=o4.k2 c3 c4;replace N:=N.k o4;have m4:=o4.aa;have hc:=T.ps.bo.cell;obtain⟨fe,hpc⟩:=T.ps.bo.eO.cell;refine sA ?_;refine dR ?_;by_cases h4:y.1=4
  ·refine aL 21 false rfl (congrArg not (yT h4)) ?_;refine aC ?_;refine zC rfl (iz T.ps.bo.ls (by have:=T.ps.bo.ll;omega)) ?_;rintro r A' ⟨rfl,rfl⟩;refine sA ?_;refine dR ?_;by_cases hm:t.s∈Y.locks
   ·refine aL 30 true rfl (yT hm) ?_;refine dO ?_;refine aC ?_;refine zC rfl (ah (Y:=(Y.set Y.vv Y.lv Y.vars Y.locks)) T.Fi.wf T.ps.bo) ?_;rintro r A5 ⟨rfl,t5⟩;replace T:=T.step hw rfl t5;refine sA ?_;refine eD ?_;refine rU ?_;refine af rfl ⟨Y.vv,Y.lv,[],true,by rw[aN];exact T,Nat.zero_le _,fun e=>?_⟩;have hf:=hf e;have hf:bN Y.vars t.s=some y:=hf;rw[hf];show match (if _ then _ else none:Option Vs) with
     | none=>_
     | some _=>_
    rw[iN fun h=>h.2.1 hm]
   ·refine aL 30 false rfl (yF hm) ?_;refine rD ?_;refine zJ T.ps.bo.ls.bm ?_;refine eR ?_;refine aC ?_;refine zC rfl (ah (Y:=(Y.set Y.vv Y.lv Y.vars Y.locks)) T.Fi.wf T.ps.bo) ?_;rintro r A5 ⟨rfl,t5⟩;replace T:=T.step hw rfl t5;replace c3:=t5.Fi.ae _ _ c3 fun e=>p3 (.inl e);replace N:=t5.bl N;have m5:=t5.Fi.aa;refine sA ?_;refine eD ?_;by_cases h6:Y.locks.length<6
    ·have h6':¬(6:Int)≤(Y.locks.length:Int):=om;replace T:ST A A5 Y (Y.set Y.vv Y.lv Y.vars Y.locks) b (decide ((6:Int)≤(Y.locks.length:Int)) || b):=T;rw[yF h6'] at T;replace T:ST A A5 Y (Y.set Y.vv Y.lv Y.vars Y.locks) b b:=T;refine fh (x:=(decide ((6:Int)≤(Y.locks.length:Int)) || b)) rfl (fun e=>?_) fun e=>?_
     ·rw[yF h6'] at e;have e:b=true:=e;subst e;refine gO ?_;exact af rfl ⟨Y.vv,Y.lv,[],true,by rw[aN];exact T,Nat.zero_le _,fun e=>by cases e⟩
     ·rw[yF h6'] at e;have e:b=false:=e;subst e;have hf:bN Y.vars t.s=some y:=hf rfl;rw[hf];have hgo:(match some y with
       | none=>none
       | some y=>if y.1=4∧t.s∉Y.locks∧Y.locks.length<6 then cP (Y.ev n) m (Y.locks++[t.s]) Y.vars (ba t) else none:Option Vs)=cP (Y.ev n) m (Y.locks++[t.s]) Y.vars u0:=by
       rw[←aW hu0];exact iP ⟨h4,hm,h6⟩
      rw[hgo];refine gO ?_;have hc:=T.ps.bo.cell;obtain⟨fe,hpc⟩:=T.ps.bo.eO.cell;refine tD ?_;refine bW rfl rfl rfl rfl ?_;refine bq rfl rfl rfl ?_;refine oP ?_;refine aC ?_;refine bE rfl rfl rfl rfl rfl (jM (xs:=[.str t.s]) (de:=d9) rfl rfl rfl rfl T.Fi.wf T.ps.lc rfl dE (cU (by show Y.locks.length+1≤_;omega) dE)) ?_;intro lv1 A6 G;have hc':=G.Fi.ae _ _ T.ps.bo.cell T.ps.n5;replace c3:=G.Fi.ae _ _ c3 fun e=>p3 (.inr (.inr (.inr e)));replace N:=N.ae G.Fi fun g hg e=>by
       have:=(T.ps.out g (.inr (.inr e))).1;have e2:Y.X.M≤g:=this;omega
      refine sA ?_;refine aC ?_;refine bx rfl rfl G.cap.cells rfl rfl rfl hc' rfl ?_;have T2:=T.setL hw h rfl G.Fi (ls':=Y.locks++[t.s]) (by rw[List.length_append,Ba];exact G.cap) G.grow (by rw[List.length_append,List.length_singleton];omega);have N2:=N.ae (ac.put (x:=.cells 0 false 6 [.ptr Y.X.pc 0 0,.str Y.cls,.int .i64 Y.ret.1,.str Y.ret.2,Y.vv,lv1]) G.Fi.wf (G.Fi.wf _ _ hc')) fun g hg e=>by
       have:=(T.ps.out g (.inl e)).1;omega
      refine bG (fun A2=>ST A A2 Y (Y.set Y.vv lv1 Y.vars (Y.locks++[t.s])) false false∧A2.heap.get f3=some (.cells 0 false 6 (au t kv))∧aI A2 (fun g=>g<Y.X.M) t kv) ⟨T2,?_,N2⟩ ?_
      ·rw[AW.aw,if_neg fun e=>p3 (.inr (.inl e))];exact c3
      clear T2 N2 hc hpc hc';rintro A7 ⟨T2,c3',N2⟩;have q3:¬(Y.set Y.vv lv1 Y.vars (Y.locks++[t.s])).mod f3:=fun e=>by
       rcases e with e|e|e|e
       ·exact p3 (.inl e)
       ·exact p3 (.inr (.inl e))
       ·exact p3 (.inr (.inr (.inl e)))
       ·rcases G.grow _ e with e|e
        ·exact p3 (.inr (.inr (.inr e)))
        ·omega
      replace T:=T2;replace c3:=c3';replace N:=N2;replace p3:=q3;clear T2 c3' N2 q3 c4;refine oP ?_;refine sA ?_;refine aK ?_;obtain⟨fku0,sku0,oku0,cku0,eku0,rku0,aku0,ku0,hvu0,hsu0,hhu0,hlu0,Nu0,htu0⟩:=bv N hu0;have hku0:takeN 6 (aB (Nat.add oku0 (Nat.mul 0 6)) aku0)=some (au u0 ku0):=(htu0 6 0 (Nat.le_refl _)).trans rfl;obtain⟨fe,hpc⟩:=T.ps.bo.eO.cell;refine wI hvu0 hlu0 ?_;refine wK hhu0 hku0 ?_;refine zC rfl (hS (Y:=(Y.set Y.vv lv1 Y.vars (Y.locks++[t.s]))) T.Fi.wf T.ps Nu0 hE0.1 hE0.2 om) ?_;rintro r A8 ⟨vv8,lv8,ws8,b8,t8,n8,z8⟩;obtain⟨c3',p3'⟩:=t8.dg T.Fi.wf rfl c3 p3;clear c3' p3';replace T:ST A A8 Y (Y.set vv8 lv8 (Y.vars++ws8) (Y.locks++[t.s])) false b8:=T.then hw rfl t8;have hc:=T.ps.bo.cell;obtain⟨fe,hpc⟩:=T.ps.bo.eO.cell;refine tD ?_;refine rD ?_;refine zJ T.ps.bo.ls.bm ?_;refine eR ?_;refine dR ?_;refine ax rfl rfl rfl rfl rfl ?_
      refine fd rfl rfl rfl (by have:=T.ps.bo.ll;omega) (by have:=T.ps.bo.ll;omega) ?_;refine eP ?_;refine rD ?_;refine bQ (Q:=fun r=>lE A8 1 r Y.locks.length (ip Y.locks)∧∀g,r.av g→lv8.av g) rfl rfl rfl rfl rfl ?_ ?_
      ·obtain⟨r,g1,g2,g3⟩:=pk (E:=ES K) (t:=90) (d:=d90) (e:=9) (de:=d9) (k:=.i64) rfl rfl rfl T.ps.lc (m:=Y.locks.length) (by show Y.locks.length≤(Y.locks++[t.s]).length;rw[lA];omega);refine⟨r,?_,?_,g3⟩
       ·rw[show (((Y.locks++[t.s]).length:Nat) : Int)-1=(Y.locks.length:Int) from by rw[lA,lS];omega];exact g1
       ·have e:(ip (Y.locks++[t.s])).take (Y.locks.length*1)=ip Y.locks:=by
         rw[Ba,Nat.mul_one];exact List.take_left' (EP _)
        rw[←e];exact g2
      rintro lv2 ⟨hcap,hfm⟩;refine eR ?_;refine aC ?_;refine bx rfl rfl hcap.cells rfl rfl rfl hc rfl ?_;refine bG (fun A2=>ST A A2 Y (Y.set vv8 lv2 (Y.vars++ws8) Y.locks) false b8) (T.setL hw h rfl (ac.refl T.Fi.wf _) hcap (fun g hg=>.inl (hfm g hg)) hll) ?_;intro A2 T2;refine sA ?_;refine eD ?_;exact bd rfl ⟨vv8,lv2,ws8,b8,T2,n8,fun _=>z8 rfl⟩
    ·have h6':(6:Int)≤(Y.locks.length:Int):=om;replace T:ST A A5 Y (Y.set Y.vv Y.lv Y.vars Y.locks) b (decide ((6:Int)≤(Y.locks.length:Int)) || b):=T;rw[yT h6'] at T;refine fh (x:=(decide ((6:Int)≤(Y.locks.length:Int)) || b)) rfl (fun _=>?_) fun e=>by rw[yT h6'] at e;cases e
     refine gO ?_;refine af rfl ⟨Y.vv,Y.lv,[],true,by rw[aN];exact T,Nat.zero_le _,fun e=>?_⟩;have hf:bN Y.vars t.s=some y:=hf e;rw[hf];show match (if _ then _ else none:Option Vs) with
      | none=>_
      | some _=>_
     rw[iN fun h=>h6 h.2.2]
  ·refine aL 21 true rfl (congrArg not (yF h4)) ?_;refine dO ?_;refine aC ?_;refine sA ?_;refine dO ?_
   try refine aL 30 true rfl rfl ?_
   refine dO ?_;refine aC ?_;refine zC rfl (ah (Y:=(Y.set Y.vv Y.lv Y.vars Y.locks)) T.Fi.wf T.ps.bo) ?_;rintro r A5 ⟨rfl,t5⟩;replace T:=T.step hw rfl t5;refine sA ?_;refine eD ?_;refine rU ?_;refine af rfl ⟨Y.vv,Y.lv,[],true,by rw[aN];exact T,Nat.zero_le _,fun e=>?_⟩;have hf:=hf e;have hf:bN Y.vars t.s=some y:=hf;rw[hf];show match (if _ then _ else none:Option Vs) with
    | none=>_
    | some _=>_
   rw[iN fun h=>h4 h.1]
end Go.Proofs.YtafamggbkobcfaaGreat.Ae
