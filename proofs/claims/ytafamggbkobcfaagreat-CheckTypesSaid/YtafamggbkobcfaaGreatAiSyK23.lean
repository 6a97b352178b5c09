/- A part of the proof of the statement CheckTypes. -/
import Derived.Test.YtafamggbkobcfaaGreatAiSyK19
namespace Go.Proofs.YtafamggbkobcfaaGreat.Ae
open Go.AE
set_option linter.unusedVariables false
set_option maxRecDepth 100000
section
variable{E:Env}{C:bC}{all rest:List Oper}{l:Kn}{K:Kn→AW→Prop}{n f:Nat}{cs cs0:List AV}{A A1:AW}
theorem iV(T:ac A A1 ag)(hf:A1.aa=f)(g:∀A2,A.aa≤f→ac A1 A2 ag→A2.heap.get f=some (.cells 0 false n cs)→ac A A2 ag→WO E C all rest l A2 K): WO E C all rest l (A1.add (.cells 0 false n cs)) K:=by
 subst hf;have o:ac A1 (A1.add (.cells 0 false n cs)) ag:=ac.add T.wf _;exact g _ T.aa o (by rw[AW.add_get,iP rfl]) (T.same o)
theorem yf(T:ac A A1 ag)(hf:A1.aa=f)(g:∀A2,A.aa≤f→ac A1 A2 ag→A2.heap.get f=some (.cells 0 false n cs)→ac A A2 ag→WO E C all rest l A2 K): WO E C all rest l ((A1.add (.cells 0 false n cs0)).put f (.cells 0 false n cs)) K:=by
 subst hf;have o:ac A1 _ ag:=made (es:=n) (cs:=cs0) (cs':=cs) T.wf;exact g _ T.aa o (by rw[AW.aw,iP rfl]) (T.same o)
end
def co:Nat→Nd→Bool
 | 0,_=>false
 | m+1,t=>
  if t.k=12∨t.k=13 then true
  else if t.k=7 then (match t.l.getLast? with
   | none=>false
   | some u=>co m u)
  else if t.k=15 then co m (ba t)
  else if t.k=10 then decide (t.l.length=3) && co m (eg t 1) && co m (eg t 2)
  else if t.k=14 then co m (ba t) && co m (eg t 2)
  else false
theorem vp{m:Nat}{l:List Nd}{u:Nd}(h:l[l.length-1]?=some u): (match l.getLast? with
 | none=>false
 | some u=>co m u)=co m u:=by
 rw[List.getLast?_eq_getElem?,h]
set_option maxHeartbeats 4000000 in
theorem vq{K:FuncId}{S:Nat→Prop}:∀{m:Nat} {A:AW} {t:Nd} {kv:AV},Wf A→aI A S t kv→St m t→aD (ES K) 84 [.agg (au t kv)] A fun r A1=>r=.bool (co m t)∧ac A A1 ag
 | 0,_,_,_,_,_,h=>by cases h
 | m+1,A,t,kv,hw,N,hS=>by
  have ih:∀{A:AW} {t:Nd} {kv:AV},Wf A→aI A S t kv→St m t→aD (ES K) 84 [.agg (au t kv)] A fun r A1=>r=.bool (co m t)∧ac A A1 ag:=fun h1 h2 h3=>vq h1 h2 h3;refine ap rfl rfl rfl ?_;have T:ac A A ag:=ac.refl hw _;refine gO ?_;refine bA rfl rfl rfl rfl ?_;generalize hf1:A.aa=f1;refine iV (n:=6) (cs:=au t kv) T hf1 ?_;intro A1 x1 o1 c1 T;have m1:=o1.aa;have l1:=T.wf _ _ c1;have hlv:=N.bm;have hl9:=N.len;replace N:=N.k T;refine wD (fun k12=>?_) fun k12=>?_
  ·refine gO ?_;refine cD rfl (fun _=>?_) fun h=>absurd k12 h;refine gO ?_;exact af rfl ⟨congrArg AV.bool (show _=co (m+1) t from (iP (.inl k12)).symm),T⟩
  refine wD (fun k13=>?_) fun k13=>?_
  ·refine gO ?_;exact af rfl ⟨congrArg AV.bool (show _=co (m+1) t from (iP (.inr k13)).symm),T⟩
  refine wD (fun k7=>?_) fun k7=>?_
  ·refine wJ hlv ?_;by_cases h0:(0:Int)<(t.l.length:Int)
   ·obtain⟨u,hu⟩:∃u,t.l[t.l.length-1]?=some u:=⟨_,gE om⟩;obtain⟨fku,sku,oku,cku,eku,rku,aku,ku,hvu,hsu,hhu,hlu,Nu,htu⟩:=bv N hu;have hku:takeN 6 (aB (Nat.add oku (Nat.mul (t.l.length-1) 6)) aku)=some (au u ku):=(htu 6 0 (Nat.le_refl _)).trans rfl;have hnu:=Nu.bh;refine wT 14 h0 ?_;refine gO ?_
    try refine aM rfl ?_
    refine wJ hlv ?_
    try refine aM rfl ?_
    refine fd rfl rfl rfl om om ?_;refine gO ?_
    try refine aM rfl ?_
    refine bg (t.l.length-1) rfl (congrArg some hvu) rfl rfl (show (t.l.length:Int)-1=((t.l.length-1:Nat) : Int) by omega) hlu ?_;refine wK hhu hku ?_
    try refine aM rfl ?_
    refine zC rfl (ih T.wf Nu (st_7 hS k7 u (mG hu))) ?_;rintro r A2 ⟨rfl,o2⟩;replace T:=T.same o2;replace c1:=o2.k c1;have m2:=o2.aa;refine gO ?_;exact af rfl ⟨congrArg AV.bool (show _=co (m+1) t from ((iN (show ¬(t.k=12∨t.k=13) from fun h=>h.elim k12 k13)).trans ((iP k7).trans (vp hu))).symm),T⟩
   ·refine wF 14 h0 ?_;refine gO ?_;exact af rfl ⟨congrArg AV.bool (show _=co (m+1) t from ((iN (show ¬(t.k=12∨t.k=13) from fun h=>h.elim k12 k13)).trans ((iP k7).trans (by rw[List.eq_nil_of_length_eq_zero (show t.l.length=0 by omega)];rfl))).symm),T⟩
  refine wD (fun k15=>?_) fun k15=>?_
  ·obtain⟨u0,hu0,e0⟩:=st_15 hS k15;obtain⟨fku0,sku0,oku0,cku0,eku0,rku0,aku0,ku0,hvu0,hsu0,hhu0,hlu0,Nu0,htu0⟩:=bv N hu0;have hku0:takeN 6 (aB (Nat.add oku0 (Nat.mul 0 6)) aku0)=some (au u0 ku0):=(htu0 6 0 (Nat.le_refl _)).trans rfl;have hnu0:=Nu0.bh;refine wI hvu0 hlu0 ?_;refine wK hhu0 hku0 ?_;refine zC rfl (ih T.wf Nu0 e0) ?_;rintro r A2 ⟨rfl,o2⟩;replace T:=T.same o2;replace c1:=o2.k c1;have m2:=o2.aa;refine gO ?_;exact af rfl ⟨congrArg AV.bool (show _=co (m+1) t from ((iN (show ¬(t.k=12∨t.k=13) from fun h=>h.elim k12 k13)).trans ((iN k7).trans ((iP k15).trans (congrArg (co m) (aW hu0))))).symm),T⟩
  refine wD (fun k10=>?_) fun k10=>?_
  ·refine wJ hlv ?_;by_cases h3:t.l.length=3
   ·obtain⟨u0,hu0,e0,hr⟩:=st_10 hS k10;obtain⟨u1,hu1⟩:∃u,t.l[1]?=some u:=⟨_,gE om⟩;obtain⟨u2,hu2⟩:∃u,t.l[2]?=some u:=⟨_,gE om⟩;have e1:St m u1:=hr u1 (mG (i:=0) (by rw[List.getElem?_drop];exact hu1));have e2:St m u2:=hr u2 (mG (i:=1) (by rw[List.getElem?_drop];exact hu2));obtain⟨fku1,sku1,oku1,cku1,eku1,rku1,aku1,ku1,hvu1,hsu1,hhu1,hlu1,Nu1,htu1⟩:=bv N hu1;have hku1:takeN 6 (aB (Nat.add oku1 (Nat.mul 1 6)) aku1)=some (au u1 ku1):=(htu1 6 0 (Nat.le_refl _)).trans rfl;have hnu1:=Nu1.bh;obtain⟨fku2,sku2,oku2,cku2,eku2,rku2,aku2,ku2,hvu2,hsu2,hhu2,hlu2,Nu2,htu2⟩:=bv N hu2;have hku2:takeN 6 (aB (Nat.add oku2 (Nat.mul 2 6)) aku2)=some (au u2 ku2):=(htu2 6 0 (Nat.le_refl _)).trans rfl;have hnu2:=Nu2.bh;refine wT 38 (congrArg Int.ofNat h3) ?_;refine wI hvu1 hlu1 ?_;refine wK hhu1 hku1 ?_
    try refine aM rfl ?_
    refine zC rfl (ih T.wf Nu1 e1) ?_;rintro r A2 ⟨rfl,o2⟩;replace T:=T.same o2;replace c1:=o2.k c1;replace N:=N.k o2;replace Nu1:=Nu1.k o2;replace Nu2:=Nu2.k o2;obtain⟨hhu1,hhu2⟩:=o2.k2 hhu1 hhu2;have m2:=o2.aa;refine gO ?_;cases hb:co m u1 with
    | false=>
     refine aF 45 false rfl rfl ?_;refine gO ?_;exact af rfl ⟨congrArg AV.bool (show _=co (m+1) t from ((iN (show ¬(t.k=12∨t.k=13) from fun h=>h.elim k12 k13)).trans ((iN k7).trans ((iN k15).trans ((iP k10).trans (by rw[cO hu1,cO hu2,hb,yT h3];rfl))))).symm),T⟩
    | true=>
     refine aF 45 true rfl rfl ?_;refine wI hvu2 hlu2 ?_;refine wK hhu2 hku2 ?_
     try refine aM rfl ?_
     refine zC rfl (ih T.wf Nu2 e2) ?_;rintro r A3 ⟨rfl,o3⟩;replace T:=T.same o3;replace c1:=o3.k c1;have m3:=o3.aa;refine gO ?_;exact af rfl ⟨congrArg AV.bool (show _=co (m+1) t from ((iN (show ¬(t.k=12∨t.k=13) from fun h=>h.elim k12 k13)).trans ((iN k7).trans ((iN k15).trans ((iP k10).trans (by rw[cO hu1,cO hu2,hb,yT h3];rfl))))).symm),T⟩
   ·refine aF 38 false rfl (yF fun e=>h3 (Int.ofNat.inj e)) ?_;refine gO ?_
    try refine aF 45 false rfl rfl ?_
    refine gO ?_;exact af rfl ⟨congrArg AV.bool (show _=co (m+1) t from ((iN (show ¬(t.k=12∨t.k=13) from fun h=>h.elim k12 k13)).trans ((iN k7).trans ((iN k15).trans ((iP k10).trans (by rw[yF h3];rfl))))).symm),T⟩
  refine wD (fun k14=>?_) fun k14=>?_
  ·obtain⟨u0,u1,u2,hl,e0,e2⟩:=st_14 hS k14;have hu0:t.l[0]?=some u0:=by rw[hl];rfl
   have hu2:t.l[2]?=some u2:=by rw[hl];rfl
   obtain⟨fku0,sku0,oku0,cku0,eku0,rku0,aku0,ku0,hvu0,hsu0,hhu0,hlu0,Nu0,htu0⟩:=bv N hu0;have hku0:takeN 6 (aB (Nat.add oku0 (Nat.mul 0 6)) aku0)=some (au u0 ku0):=(htu0 6 0 (Nat.le_refl _)).trans rfl;have hnu0:=Nu0.bh;obtain⟨fku2,sku2,oku2,cku2,eku2,rku2,aku2,ku2,hvu2,hsu2,hhu2,hlu2,Nu2,htu2⟩:=bv N hu2;have hku2:takeN 6 (aB (Nat.add oku2 (Nat.mul 2 6)) aku2)=some (au u2 ku2):=(htu2 6 0 (Nat.le_refl _)).trans rfl;have hnu2:=Nu2.bh;refine wI hvu0 hlu0 ?_;refine wK hhu0 hku0 ?_;refine zC rfl (ih T.wf Nu0 e0) ?_;rintro r A2 ⟨rfl,o2⟩;replace T:=T.same o2;replace c1:=o2.k c1;replace N:=N.k o2;replace Nu0:=Nu0.k o2;replace Nu2:=Nu2.k o2;obtain⟨hhu0,hhu2⟩:=o2.k2 hhu0 hhu2;have m2:=o2.aa;refine gO ?_;cases hb:co m u0 with
   | false=>
    refine aF 59 false rfl rfl ?_;refine gO ?_;exact af rfl ⟨congrArg AV.bool (show _=co (m+1) t from ((iN (show ¬(t.k=12∨t.k=13) from fun h=>h.elim k12 k13)).trans ((iN k7).trans ((iN k15).trans ((iN k10).trans ((iP k14).trans (by rw[aW hu0,cO hu2,hb];rfl)))))).symm),T⟩
   | true=>
    refine aF 59 true rfl rfl ?_;refine wI hvu2 hlu2 ?_;refine zK hhu2 hku2 ?_
    try refine aM rfl ?_
    refine oP ?_
    try refine aM rfl ?_
    refine zC rfl (ih T.wf Nu2 e2) ?_;rintro r A3 ⟨rfl,o3⟩;replace T:=T.same o3;replace c1:=o3.k c1;have m3:=o3.aa;refine gO ?_;exact af rfl ⟨congrArg AV.bool (show _=co (m+1) t from ((iN (show ¬(t.k=12∨t.k=13) from fun h=>h.elim k12 k13)).trans ((iN k7).trans ((iN k15).trans ((iN k10).trans ((iP k14).trans (by rw[aW hu0,cO hu2,hb];rfl)))))).symm),T⟩
  refine gO ?_;exact af rfl ⟨congrArg AV.bool (show _=co (m+1) t from ((iN (show ¬(t.k=12∨t.k=13) from fun h=>h.elim k12 k13)).trans ((iN k7).trans ((iN k15).trans ((iN k10).trans (iN k14))))).symm),T⟩
theorem jN{K:FuncId}{A:AW}{S:Nat→Prop}{ts:List Nd}{v:AV}{g:FuncId}{cap:List AV}{P:Nd→Bool}(hw:Wf A)(h:aI A S (jT ts) v)(ho:∀x kv,(ES K).uo g ([]++[.agg (au x kv)]++cap)=none)(hb:R.hasB (ES K) g=true)
 (hr:∀A1 x kv,ac A A1 ag→aD (ES K) g ([]++[.agg (au x kv)]++cap) A1 fun r A2=>r=.bool (P x)∧ac A1 A2 ag) :
 aD (ES K) 72 [v,.func g [] cap] A fun r A1=>r=.bool (ts.find? P).isSome∧ac A A1 ag:=by
 refine ap rfl rfl rfl ?_;refine wC (qD (P:=P) hw h ho hb hr) ?_;rintro r A1 ⟨⟨z,rfl,hz⟩,o1⟩;refine gO ?_;refine af rfl ⟨congrArg AV.bool ?_,o1⟩;rcases hz with ⟨rfl,hz⟩|⟨i,x,rfl,_,hz⟩
 ·rw[hz];exact yF dE
 ·rw[hz];exact yT (Int.natCast_nonneg i)
theorem Ab{K:FuncId}{A:AW}{v w:AV}{xs ys:List bM}(hw:Wf A)(h1:Row A 2 v xs.length (xs.flatMap bc))(h2:Row A 2 w ys.length (ys.flatMap bc))(hl:xs.length≤9000)(sx:∀x∈xs,small x.2)(sy:∀y∈ys,small y.2):
 aD (ES K) 81 [v,w] A fun r A1=>r=.bool (decide (xs=ys))∧A1=A:=by
 refine ap rfl rfl rfl ?_;have T:ac A A ag:=ac.refl hw _;refine wJ h1.bm ?_;refine wJ h2.bm ?_;refine zG (fun hn=>?_) fun hn=>?_
 ·have hn:xs.length≠ys.length:=fun e=>hn (by rw[e]);refine gO ?_;exact af rfl ⟨congrArg AV.bool (yF fun e=>hn (by rw[e])).symm,rfl⟩
 have hn:xs.length=ys.length:=by
  omega
 refine wJ h1.bm ?_;refine aE ?_;refine yL (pv 0 v (pv 1 w (pn 12 xs.length (pn 13 0 .nil)))) ?_;refine aV (ι:=Nat) (fun i=>xs.length-i) (fun i=>(pv 0 v (pv 1 w (pn 12 xs.length (pn 13 i .nil))))) (fun i B=>B=A∧i≤xs.length∧xs.take i=ys.take i) ?_ 0 A ⟨rfl,Nat.zero_le _,rfl⟩;rintro i B ⟨rfl,hi,he⟩ ih;refine wD (fun hlt=>?_) fun hge=>?_
 ·have hlt:i<xs.length:=Int.ofNat_lt.1 hlt;have hx:xs[i]?=some xs[i]:=gE hlt;have hy:ys[i]?=some ys[i]:=gE om;have tx:xs.take (i+1)=xs.take i++[xs[i]]:=tS hlt;have ty:ys.take (i+1)=ys.take i++[ys[i]]:=tS om;generalize xs[i]=x at hx tx;generalize ys[i]=y at hy ty;obtain⟨f,u,o,cc,ex,ro,all,hv,hh,hl,cw⟩:=dT (cl:=bc) (fun _=>rfl) h1 hx;obtain⟨f',u',o',cc',ex',ro',all',hv',hh',hl',hat'⟩:=dT (cl:=bc) (fun _=>rfl) h2 hy;refine tD ?_;refine ax rfl rfl rfl rfl rfl ?_;refine zI i hv hl ?_;refine eP ?_;refine rD ?_;refine zK hh ((cw 2 0 dE).trans rfl) ?_;refine eR ?_;refine dR ?_;refine ax rfl rfl rfl rfl rfl ?_;refine zI i hv' hl' ?_;refine eP ?_;refine rD ?_;refine zK hh' ((hat' 2 0 dE).trans rfl) ?_;refine eR ?_;refine ax rfl rfl rfl rfl rfl ?_;refine EJ (a:=x) (b:=y) rfl rfl rfl (sx x (mG hx)) (sy y (mG hy)) ?_;refine eP ?_;refine aK ?_
  refine zG (fun hne=>?_) fun hne=>?_
  ·have hne:x≠y:=hne;refine gO ?_;refine af rfl ⟨congrArg AV.bool (yF fun e=>hne ?_).symm,rfl⟩;rw[e,hy] at hx;cases hx;rfl
  ·have hne:x=y:=Decidable.not_not.1 hne;refine wP ?_;refine ai ?_;refine yL (pv 0 v (pv 1 w (pn 12 xs.length (pn 13 (i+1:Nat) .nil)))) ?_;exact ih (i+1) B om ⟨rfl,hlt,by rw[tx,ty,he,hne]⟩
 ·have hge:i=xs.length:=by
   omega
  rw[hge,tL,hn,tL] at he;refine ay rfl ?_;refine gO ?_;exact af rfl ⟨congrArg AV.bool (yT he).symm,rfl⟩
def cL(m:Nd): Vs:=(params m).map fun p=>(p.s,first p)
set_option maxHeartbeats 4000000 in
theorem tZ{K:FuncId}{A:AW}{X:BX}{b:Bool}{S:Nat→Prop}{c:Str}{m:Nd}{kv:AV}(hw:Wf A)(h:PC A X b)(N:aI A S m kv)(h2:2≤m.l.length)(h0:∀p∈params m,0<p.l.length)(hc:named c=(4,c))(hn:b=false→((params m).map Nd.s).Nodup):
 aD (ES K) 20 [.ptr X.pc 0 0,.str c,.agg (au m kv)] A fun r A1=>ac A A1 ag∧∃fb vv,r=.ptr fb 0 0∧A.aa≤fb∧BS A1 ⟨X,fb,c,first m,vv,.aj,cL m,[]⟩ b∧∀g,vv.av g→A.aa≤g:=by
 refine ap rfl rfl rfl ?_;have T:ac A A ag:=ac.refl hw _;refine gO ?_;replace N:=N.mono (S':=fun g=>g<A.aa) fun g _ hg=>hg.elim fun F hF=>hw g F hF;refine bA rfl rfl rfl rfl ?_;generalize hf5:A.aa=f5;refine iV (n:=6) (cs:=au m kv) T hf5 ?_;intro A1 x5 o1 c5 T;replace N:=N.k o1;have l1:=T.wf _ _ c5;refine wL c5 ?_;refine zC rfl (eN T.wf N om) ?_;rintro r A2 ⟨rfl,o2⟩;replace T:=T.same o2;replace c5:=o2.k c5;replace N:=N.k o2;have m2:=o2.aa;refine oP ?_;refine bA rfl rfl rfl rfl ?_;generalize hf7:A2.aa=f7;refine iV (n:=6) (cs:=[.ptr X.pc 0 0,.str c,.int .i64 (first m).1,.str (first m).2,.aj,.aj]) T hf7 ?_;intro A3 x7 o3 c7 T;replace c5:=o3.k c5;replace N:=N.k o3;have l3:=T.wf _ _ c7;refine wL c5 ?_;refine zC rfl (dH T.wf N h2) ?_;rintro r A4 ⟨N2,o4⟩;replace T:=T.same o4;replace c7:=o4.k c7;refine oP ?_
 have hlv:bm r=some (params m).length:=N2.bm;have hl9:(params m).length≤9000:=N2.len;refine zJ hlv ?_;refine gO ?_;generalize hps:params m=ps at N2 hlv hl9 ⊢;refine aE ?_;refine yL (pp 7 f7 (pv 17 r (pn 18 ((ps).length) (pn 19 0 .nil)))) ?_;refine aV (ι:=Nat×AV) (fun i=>ps.length-i.1) (fun i=>(pp 7 f7 (pv 17 r (pn 18 ((ps).length) (pn 19 i.1 .nil)))))
  (fun i B=>ac A B ag∧i.1≤ps.length∧aI B (fun g=>g<A.aa) (jT ps) r∧B.heap.get f7=some (.cells 0 false 6 [.ptr X.pc 0 0,.str c,.int .i64 (first m).1,.str (first m).2,i.2,.aj])∧lE B 3 i.2 i.1 (((ps.take i.1).map fun p=>(p.s,first p)).flatMap AY)∧∀g,i.2.av g→A.aa≤g∧g≠f7) ?_ (0,.aj) A4 ⟨T,Nat.zero_le _,N2,c7,.inl ⟨rfl,rfl,rfl⟩,fun g h=>h.elim⟩
 rintro ⟨i,vv⟩ B ⟨T,hi,N2,c7,hb,hf⟩ ih;replace hi:i≤ps.length:=hi;replace c7:B.heap.get f7=some (.cells 0 false 6 [.ptr X.pc 0 0,.str c,.int .i64 (first m).1,.str (first m).2,vv,.aj]):=c7;replace hb:lE B 3 vv i (((ps.take i).map fun p=>(p.s,first p)).flatMap AY):=hb;replace hf:∀g,vv.av g→A.aa≤g∧g≠f7:=hf;refine gO ?_;refine zG (fun hlt=>?_) fun hge=>?_
 ·have hlt:i<ps.length:=Int.ofNat_lt.1 hlt;have hu:ps[i]?=some ps[i]:=List.getElem?_eq_getElem hlt;generalize hx:ps[i]=u at hu;have hum:u∈params m:=by rw[hps,←hx];exact List.getElem_mem hlt
  obtain⟨f,s,o,cc,ex,ro,all,ku,hv,hh,_,hN,cw⟩:=N2.wi (i:=i) (u:=u) hu;have hva:=hb.avs;refine gO ?_;refine zI i hv hlt ?_;refine bS (vs:=au u ku) rfl rfl rfl rfl hh ?_ ?_
  ·exact (cw 6 0 (Nat.le_refl _)).trans rfl
  refine gO ?_;refine zM (n:=6) (y:=au u ku) T.wf ?_;intro B2 o2 c9;generalize hf9:B.aa=f9 at c9;replace c7:=o2.k c7;replace hN:=hN.k o2;replace N2:=N2.k o2;replace hb:=hb.ae o2 fun _ _ h=>h;replace T:=T.same o2;refine gO ?_;refine tD ?_;refine rD ?_;refine zL c9 ?_;refine eR ?_;refine aC ?_;refine zC rfl (eN T.wf hN (h0 u hum)) ?_;rintro r2 B3 ⟨rfl,o3⟩;obtain⟨c7,c9⟩:=o3.k2 c7 c9;replace N2:=N2.k o3;replace hb:=hb.ae o3 fun _ _ h=>h;replace T:=T.same o3;refine sA ?_;refine dR ?_;refine bW rfl rfl rfl rfl ?_;refine bq rfl rfl rfl ?_;refine oP ?_;refine aC ?_;refine bE rfl rfl rfl rfl rfl (jM (xs:=AY (u.s,first u)) (n:=i) (de:=d94) rfl rfl rfl rfl T.wf hb rfl (by decide) (cU om (by decide))) ?_;intro vv' B4 G;have h7f:¬vv.av f7:=fun k=>(hf _ k).2 rfl;have c7':=G.Fi.k c7;refine sA ?_;refine dR ?_;refine aC ?_
  refine bx rfl rfl G.cap.cells rfl rfl rfl c7' rfl ?_;have op:=ac.put (x:=.cells 0 false 6 [.ptr X.pc 0 0,.str c,.int .i64 (first m).1,.str (first m).2,vv',.aj]) G.Fi.wf (G.Fi.wf _ _ c7');refine sA ?_;refine aK ?_;refine gO ?_;refine zP ?_;refine gO ?_;refine ai ?_;refine yL (pp 7 f7 (pv 17 r (pn 18 ((ps).length) (pn 19 (i+1:Nat) .nil)))) ?_;have hvf:∀g,vv'.av g→A.aa≤g∧g≠f7:=fun g hg=>(G.grow g hg).elim (hf g) fun k=>by
   have:=T.wf _ _ c7;omega
  refine ih (i+1,vv') _ (by simp only;omega) ⟨ac.fresh hw (ac.fresh hw T G.Fi fun g hg=>(hf g hg).1) op fun g hg=>by cases hg;exact x7,hlt,?_,by rw[AW.aw,if_pos rfl],?_,hvf⟩
  ·exact (N2.ae G.Fi fun g hg k=>by have:=(hf g k).1;omega).ae op fun g hg k=>by cases k;omega
  ·have:=(show lE B4 3 vv' (i+1) _ from G.cap).ae op fun g hg k=>by cases k;exact (hvf _ hg).2 rfl
   rw[tS hlt,mA,fA,hx];simpa using this
 ·have hge:i=ps.length:=by
   omega
  refine ay rfl ?_;refine gO ?_;rw[hge,tL] at hb;have hu:∀g,A.aa≤g→X.M≤g∧g≠X.pc∧g≠X.fr∧g≠X.fm∧¬X.vn.av g:=fun g hg=>h.under hw hg;have e:cL m=ps.map fun p=>(p.s,first p):=by unfold cL;rw[hps]
  have el:(cL m).length=ps.length:=by rw[e,lM]
  refine af rfl ⟨T,f7,vv,rfl,om,?_,fun g hg=>by have:=(hf g hg).1;omega⟩;have vc:lE B 3 vv (cL m).length ((cL m).flatMap AY):=by rw[el,e];exact hb
  exact⟨⟨h.quiet T,c7,vc.row,.inl ⟨.inl rfl,rfl,rfl⟩,(hu f7 x7).2.1,fun k=>(hu _ (hf _ k).1).2.1 rfl,fun k=>k.elim,hc,by show (cL m).length≤_;omega,Nat.zero_le _,fun hb=>by
   show ((cL m).map Prod.fst).Nodup;have:=hn hb;rw[hps] at this;rw[e,List.map_map];exact this⟩,vc,.inl ⟨rfl,rfl,rfl⟩,fun g hg=>hu g (by
    rcases hg with rfl|hg|hg
    ·exact x7
    ·exact (hf g hg).1
    ·exact hg.elim),fun k=>(hf _ k).2 rfl,fun k=>k.elim,fun g _ k=>k.elim⟩
def bZ(c:Nd): Str:=(ba c).s
def ei(cs:List Nd): List Str:=cs.map Nd.s
def jO(cs:List Nd): List Str:=cs.map bZ
def gV(cs:List Nd)(i:Nat)(c:Nd): Prop:=(cs.take i).find? (fun o=>decide (o.s=c.s))=none∧c.s≠bB∧c.s≠cV∧i<16
instance (cs:List Nd) (i:Nat) (c:Nd) : Decidable (gV cs i c):=by unfold gV;exact inferInstance
def gg(cs:List Nd)(s:Str): Prop:=s=[]∨s=bB∨s=cV∨s∈ei cs
instance (cs:List Nd) (s:Str) : Decidable (gg cs s):=by unfold gg;exact inferInstance
def jU(cs:List Nd): Nat→Str→Bool
 | 0,n=>(bp cs n).isSome
 | f+1,n=>match bp cs n with
  | none=>false
  | some c=>jU cs f (bZ c)
structure gW (cs:List Nd) : Prop where
 one:∀i c,cs[i]?=some c→gV cs i c
 sup:∀c∈cs,gg cs (bZ c)
 rnd:∀c∈cs,jU cs (cs.length+1) c.s=false
def Bb(s:Str): Str:=if s=[] then bB else s
def cI(cs:List Nd): Hs:=base++cs.map fun c=>(c.s,Bb (bZ c))
theorem jP{cs:List Nd}{n:Str}{c:Nd}(h:bp cs n=some c): c∈cs∧c.s=n:=⟨List.mem_of_find?_eq_some h,of_decide_eq_true (p:=c.s=n) (List.find?_some (p:=fun c:Nd=>decide (c.s=n)) h)⟩
theorem mN{cs:List Nd}{n:Str}:(bp cs n).isSome=true↔n∈ei cs:=by
 unfold bp ei;rw[List.find?_isSome,List.mem_map];exact⟨fun ⟨c,h,e⟩=>⟨c,h,of_decide_eq_true e⟩,fun ⟨c,h,e⟩=>⟨c,h,yT e⟩⟩
theorem Ac:∀{cs:List Nd} {n:Str},lk (cs.map fun c=>(c.s,Bb (bZ c))) n=(bp cs n).map fun c=>Bb (bZ c)
 | [],n=>rfl
 | c::cs,n=>by
  show (if n=c.s then some (Bb (bZ c)) else lk (cs.map _) n)=_;unfold bp;rw[List.find?_cons];by_cases h:n=c.s
  ·rw[iP h,yT h.symm];rfl
  ·rw[iN h,yF fun e=>h e.symm];exact Ac
theorem wy{l:Hs}{n:Str}(h1:n≠bB)(h2:n≠cV): lk (base++l) n=lk l n:=by
 show (if n=bB then _ else if n=cV then _ else lk l n)=_;rw[iN h1,iN h2]
theorem gW.cls{cs:List Nd}(h:gW cs){c:Nd}(hc:c∈cs): bp cs c.s=some c∧c.s≠bB∧c.s≠cV:=by
 obtain⟨i,hi,hx⟩:=List.getElem_of_mem hc;have hg:cs[i]?=some c:=by rw[gE hi,hx]
 obtain⟨a1,a2,a3,_⟩:=h.one i c hg;refine⟨?_,a2,a3⟩;have:cs=cs.take i++c::cs.drop (i+1):=by
  rw[←hx,←List.drop_eq_getElem_cons hi,List.take_append_drop]
 unfold bp;rw[this,List.find?_append,a1,List.find?_cons,yT rfl];rfl
theorem DD{cs:List Nd}{n:Str}:has (cI cs) n=true↔n=bB∨n=cV∨n∈ei cs:=by
 by_cases h1:n=bB
 ·subst h1;exact⟨fun _=>.inl rfl,fun _=>rfl⟩
 by_cases h2:n=cV
 ·subst h2;exact⟨fun _=>.inr (.inl rfl),fun _=>rfl⟩
 unfold has cI;rw[wy h1 h2,Ac,Option.isSome_map,mN];exact⟨fun h=>.inr (.inr h),fun h=>(h.resolve_left h1).resolve_left h2⟩
theorem DE{cs:List Nd}{n:Str}{c:Nd}(h1:n≠bB)(h2:n≠cV)(h:bp cs n=some c): up (cI cs) n=Bb (bZ c):=by
 unfold up cI;rw[wy h1 h2,Ac,h];rfl
theorem EQ{cs:List Nd}{s:Str}(h:gg cs s): has (cI cs) (Bb s)=true:=by
 rw[DD];unfold Bb;by_cases e:s=[]
 ·rw[iP e];exact .inl rfl
 ·rw[iN e];exact h.resolve_left e
theorem Cm{l:List (Str×Str)}:∀{hs:Hs},(∀p∈l,rI p.1∧has hs p.1=false)→(l.map Prod.fst).Nodup→bO l hs=(hs++l.map (fun p=>(p.1,Bb p.2)),0):=by
 induction l with
 | nil=>
  intro hs _ _;show (hs,0)=_;rw[List.map_nil,aN]
 | cons p l ih=>
  intro hs h1 h2;obtain⟨n,s⟩:=p;obtain⟨a,b⟩:=h1 (n,s) List.mem_cons_self;have h2:=List.nodup_cons.1 h2;show (if ¬rI n then _ else if has hs n=true then _ else bO l (hs++[(n,if s=[] then bB else s)]))=_;rw[if_neg fun h=>h a,if_neg fun h=>by rw[b] at h;cases h];rw[ih (fun q hq=>?_) h2.2,aA]
  ·rfl
  ·refine⟨(h1 q (List.mem_cons_of_mem _ hq)).1,?_⟩;have hb:=(h1 q (List.mem_cons_of_mem _ hq)).2;unfold has at hb ⊢;rw[wr];cases hx:lk hs q.1 with
   | some v=>rw[hx] at hb;cases hb
   | none=>
    show (if q.1=n then _ else none:Option Str).isSome=false;rw[if_neg fun e=>h2.1 (by show n∈_;rw[←e];exact List.mem_map_of_mem (f:=Prod.fst) hq)];rfl
theorem Ad{cs:List Nd}(h:∀i c,cs[i]?=some c→gV cs i c): (ei cs).Nodup:=by
 unfold ei;unfold List.Nodup;rw[List.pairwise_iff_getElem];intro i j hi hj hij e;rw[lM] at hi hj;have e:cs[i].s=cs[j].s:=by simpa using e
 have:=(h j cs[j] (gE hj)).1;rw[List.find?_eq_none] at this;exact this cs[i] (by rw[List.mem_take_iff_getElem];exact⟨i,om,rfl⟩) (yT e)
theorem rnd_hs{cs:List Nd}(h:∀c∈cs,gg cs (bZ c)): ∀(f:Nat) (n:Str),gg cs n→jU cs f n=false→cA (cI cs) (f+2) (Bb n)=false:=by
 have top:∀(f:Nat) (n:Str),gg cs n→bp cs n=none→cA (cI cs) (f+2) (Bb n)=false:=by
  intro f n ho hn;unfold Bb;by_cases h0:n=[]
  ·rw[iP h0];unfold cA;rw[iP rfl]
  rw[iN h0];unfold cA;by_cases h1:n=bB
  ·rw[iP h1]
  rw[iN h1];have h2:n=cV:=by
   rcases ho with h|h|h|h
   ·exact absurd h h0
   ·exact absurd h h1
   ·exact h
   ·rw[←mN,hn] at h;cases h
  subst h2;show cA (cI cs) (f+1) (up (cI cs) cV)=false;unfold cA;exact iP rfl
 intro f
 induction f with
 | zero=>
  intro n ho hr;refine top 0 n ho ?_;cases hc:bp cs n with
  | none=>rfl
  | some c=>
   have:(bp cs n).isSome=false:=hr;rw[hc] at this;cases this
 | succ f ih=>
  intro n ho hr;cases hc:bp cs n with
  | none=>exact top (f+1) n ho hc
  | some c=>
   have hr:(match bp cs n with
    | none=>false
    | some c=>jU cs f (bZ c))=false:=hr
   rw[hc] at hr;have hm:=jP hc;have hr:jU cs f (bZ c)=false:=hr;by_cases h0:n=[]
   ·unfold Bb cA;rw[iP h0,iP rfl]
   have e:Bb n=n:=iN h0;rw[e];unfold cA;by_cases h1:n=bB
   ·rw[iP h1]
   rw[iN h1];by_cases h2:n=cV
   ·subst h2;show cA (cI cs) (f+2) bB=false;unfold cA;exact iP rfl
   rw[DE h1 h2 hc];exact ih (bZ c) (h c hm.1) hr
theorem pW{cs:List Nd}(h:gW cs)(hn:∀c∈cs,rI c.s): dy (ei cs) (jO cs)=(cI cs,0):=by
 have hz:(ei cs).zip (jO cs)=cs.map fun c=>(c.s,bZ c):=by
  unfold ei jO;rw[List.zip_map']
 have hA:bO ((ei cs).zip (jO cs)) base=(cI cs,0):=by
  rw[hz,Cm]
  ·rw[List.map_map];rfl
  ·intro p hp;obtain⟨c,hc,rfl⟩:=List.mem_map.1 hp;have:=h.cls hc;refine⟨hn c hc,?_⟩;unfold has;rw[show lk base c.s=none from by
    have:=wy (l:=[]) this.2.1 this.2.2;rw[aN] at this;exact this]
   rfl
  ·rw[List.map_map];exact Ad h.one
 unfold dy;rw[hA];have hlen:(ei cs).length≤16:=by
  unfold ei;rw[lM];refine Nat.not_lt.1 fun hl=>?_;have:=(h.one 16 cs[16] (gE hl)).2.2.2;omega
 rw[iN (by unfold ei jO;rw[lM,lM];exact fun h=>h rfl),iN om,iN (fun h=>h rfl),iN,iN]
 ·rintro ⟨n,hm,hr⟩;obtain⟨c,hc,rfl⟩:=List.mem_map.1 hm;have:=rnd_hs h.sup _ c.s (.inr (.inr (.inr hm))) (h.rnd c hc);have e:Bb c.s=c.s:=iN (hn c hc).1;have el:(cI cs).length=cs.length+2:=by
   unfold cI;rw[lA,lM];show 2+_=_;omega
  rw[e] at this;rw[el,this] at hr;cases hr
 ·rintro ⟨n,hm,hr⟩;obtain⟨c,hc,rfl⟩:=List.mem_map.1 hm;have hk:=h.cls hc;refine hr ?_;show has (cI cs) (up (cI cs) c.s)=true;rw[DE hk.2.1 hk.2.2 hk.1];exact EQ (h.sup c hc)
theorem wz{cs:List Nd}(h:gW cs)(hn:∀c∈cs,rI c.s)(hs:∀c∈cs,small (bZ c)): Tree (cI cs):=
 Cf (pW h hn) fun s hs'=>by
  obtain⟨c,hc,rfl⟩:=List.mem_map.1 hs';exact hs c hc
theorem yg{E:Env}{call:FuncId→List AV→AW→Out}{N:Nat}{all:List Oper}:∀(xs ys:List Oper) (F F1:Fr) (A A1:AW),oE E call N all xs F A=.ok F1 A1→oE E call N all (xs++ys) F A=oE E call N all ys F1 A1
 | [],ys,F,F1,A,A1,h=>by
  cases h;rfl
 | x::xs,ys,F,F1,A,A1,h=>by
  rw[List.cons_append];simp only[oE] at h ⊢;cases hx:kn E call N all x F A with
  | fail n=>
   rw[hx] at h;cases h
  | ok F2 A2=>
   rw[hx] at h;exact yg xs ys F2 F1 A2 A1 h
theorem dU{E:Env}{C:bC}{all rest:List Oper}{l:Kn}{A:AW}{K:Kn→AW→Prop}(n:Nat)(l':Kn)(h1:WO E C all (rest.take n) l A fun l1 A1=>A1=A∧l'.le l1)(h2:WO E C all (rest.drop n) l' A K): WO E C all rest l A K:=⟨fun F hF=>by
 obtain⟨F1,A1,l1,hF1,⟨rfl,hl⟩,n1,ho⟩:=h1.run F hF;obtain⟨F2,A2,l2,hF2,hk,n2,hp⟩:=h2.run F1 (hF1.le hl);refine⟨F2,A2,l2,hF2,hk,n1+n2,fun m hm=>?_⟩;have:=yg (rest.take n) (rest.drop n) F F1 _ _ (ho m om);rw[List.take_append_drop] at this;rw[this];exact hp m om⟩
theorem wA{K:FuncId}{A:AW}{S:Nat→Prop}{t:Nd}{v:AV}{hi:Nat}{k1:IntKind}(h:aI A S t v)(h2:hi≤t.l.length)(h3:0<t.l.length):
 ∃r,cQ (ES K) 24 v none (some (.int k1 (hi:Int))) none A=.val r A∧aI A S (jT (t.l.take hi)) r:=by
 obtain⟨r,g1,g2⟩:=ml (K:=K) (lo:=0) (hi:=hi) (k1:=k1) (hv:=some (.int k1 (hi:Int))) h (Nat.zero_le _) h2 h3 (fun c hc=>dY om);rw[List.drop_zero,Nat.sub_zero] at g2;refine⟨r,?_,g2⟩;rw[←g1];cases h with
 | mk h4 h5 h6 h7=>
  rcases h4 with ⟨_,h4,_⟩|⟨f,u,o,c,ex,ro,all,rfl,q1,q0,q2⟩
  ·omega
  ·unfold cQ;have e0:(ES K).cf.get 24=some d24:=rfl;have e1:(ES K).cf.get 26=some d26:=rfl;have e2:d24.desc=.slice 26:=rfl;rw[e0];simp only[e2,e1,eU,q1,Nat.beq_refl,show Nat.beq 6 d26.size=true from rfl,Bool.and_self,cond_true,dY (show hi≤c by omega),dY (Nat.zero_le hi),show bound none hi 0=some 0 from rfl]
structure PH (A:AW) (M pc:Nat) (kv:AV) (cs:List Nd) (b:Bool) : Prop where
 cell:∃fe,A.heap.get pc=some (.cells 0 false 3 [kv,.bJ,eV b fe])
 tree:aI A (fun g=>g<M) (jT cs) kv
 le:M≤pc
theorem PH.quiet{A A1:AW}{M pc:Nat}{kv:AV}{cs:List Nd}{b:Bool}(h:PH A M pc kv cs b)(o:ac A A1 ag): PH A1 M pc kv cs b:=by
 obtain⟨fe,hc⟩:=h.cell;exact⟨⟨fe,o.ae _ _ hc fun h=>h⟩,h.tree.ae o fun _ _ h=>h,h.le⟩
theorem eQ{K:FuncId}{A:AW}{M pc:Nat}{kv:AV}{cs:List Nd}{b x:Bool}{a:Int}(hw:Wf A)(h:PH A M pc kv cs b):
 aD (ES K) 51 [.ptr pc 0 0,.bool x,.int .i64 a] A fun r A1=>r=.bool (x || b)∧PH A1 M pc kv cs (x || b)∧ac A A1 (one pc):=by
 obtain⟨fe,hc⟩:=h.cell;refine ap rfl rfl rfl ?_;refine gO ?_;cases x with
 | false=>
  refine gO ?_;refine da rfl ?_;cases b with
  | false=>
   refine gO ?_;refine bL (v:=.bool false) rfl rfl rfl rfl ?_;refine gO ?_;exact af rfl ⟨rfl,h,ac.refl hw _⟩
  | true=>
   refine gO ?_;refine bL (v:=.bool true) rfl rfl rfl rfl ?_;refine gO ?_;exact af rfl ⟨rfl,h,ac.refl hw _⟩
 | true=>
  cases b with
  | true=>
   refine gO ?_;refine bL (v:=.bool false) rfl rfl rfl rfl ?_;refine gO ?_;refine da rfl ?_;refine gO ?_;refine bL (v:=.bool true) rfl rfl rfl rfl ?_;refine gO ?_;exact af rfl ⟨rfl,h,ac.refl hw _⟩
  | false=>
   refine gO ?_;refine bL (v:=.bool true) rfl rfl rfl rfl ?_;refine gO ?_;refine lf rfl ?_;refine gO ?_;refine bA rfl rfl rfl rfl ?_;refine bG (fun A1=>ac A A1 ag) (ac.add hw _) ?_;intro A1 o1;have hc1:=o1.k hc;refine gO ?_;refine zS hc1 ?_;have op:=ac.put (x:=.cells 0 false 3 [kv,.bJ,eV true A.aa]) o1.wf (o1.wf _ _ hc1);have h1:=h.quiet o1;refine bG (fun A2=>PH A2 M pc kv cs true∧ac A A2 (one pc)∧A2.heap.get pc=some (.cells 0 false 3 [kv,.bJ,eV true A.aa])) ⟨⟨⟨A.aa,by rw[AW.aw,if_pos rfl];rfl⟩,h1.tree.ae op fun g hg e=>by cases e;have:=h.le;omega,h.le⟩,(o1.mono fun _ h=>h.elim).same op,by rw[AW.aw,if_pos rfl];rfl⟩ ?_;rintro A2 ⟨t2,o2,hc2⟩;refine gO ?_;refine bL (v:=.bool true) rfl rfl rfl rfl ?_;refine gO ?_;exact af rfl ⟨rfl,t2,o2⟩
theorem ER{K:FuncId}{A1:AW}{c:Nd}{f:Nat}{x:Nd}{kv kc:AV}(hw:Wf A1)(hf:A1.heap.get f=some (.cells 0 false 6 (au c kc))):
 aD (ES K) 73 ([]++[.agg (au x kv)]++[.ptr f 0 0]) A1 fun r A2=>r=.bool (decide (x.s=c.s))∧ac A1 A2 ag:=by
 refine ap rfl rfl rfl ?_;refine gO ?_;refine zB (n:=6) (y:=au x kv) hw ?_;intro A2 o2 c2;generalize A1.aa=f2 at c2;replace hf:=o2.k hf;refine gO ?_;exact af rfl ⟨rfl,o2⟩
theorem ET{K:FuncId}{A1:AW}{c:Nd}{f:Nat}{x:Nd}{kv kc:AV}(hw:Wf A1)(hf:A1.heap.get f=some (.cells 0 false 6 (au c kc))):
 aD (ES K) 79 ([]++[.agg (au x kv)]++[.ptr f 0 0]) A1 fun r A2=>r=.bool (decide (x.s=c.s))∧ac A1 A2 ag:=by
 refine ap rfl rfl rfl ?_;refine gO ?_;refine zB (n:=6) (y:=au x kv) hw ?_;intro A2 o2 c2;generalize A1.aa=f2 at c2;replace hf:=o2.k hf;refine gO ?_;exact af rfl ⟨rfl,o2⟩
theorem EU{K:FuncId}{A1:AW}{c:Nd}{f:Nat}{x:Nd}{kv kc:AV}(hw:Wf A1)(hf:A1.heap.get f=some (.cells 0 false 6 (au c kc))):
 aD (ES K) 80 ([]++[.agg (au x kv)]++[.ptr f 0 0]) A1 fun r A2=>r=.bool (decide (x.s=c.s))∧ac A1 A2 ag:=by
 refine ap rfl rfl rfl ?_;refine gO ?_;refine zB (n:=6) (y:=au x kv) hw ?_;intro A2 o2 c2;generalize A1.aa=f2 at c2;replace hf:=o2.k hf;refine gO ?_;exact af rfl ⟨rfl,o2⟩
theorem DF{k:Str}:∀(cs:List Nd) (j:Nat),(bp cs k=none→ix (ei cs) k j = -1)∧∀c,bp cs k=some c→∃i,ix (ei cs) k j=((i+j:Nat) : Int)∧cs[i]?=some c
 | [],j=>⟨fun _=>rfl,fun c h=>by cases h⟩
 | x::cs,j=>by
  have e:ix (ei (x::cs)) k j=if k=x.s then (j:Int) else ix (ei cs) k (j+1):=rfl
  have ec:bp (x::cs) k=if x.s=k then some x else bp cs k:=by
   unfold bp;rw[List.find?_cons];by_cases h:x.s=k
   ·rw[decide_eq_true h,if_pos h]
   ·rw[decide_eq_false h,if_neg h]
  rw[e,ec];by_cases h:k=x.s
  ·rw[if_pos h,if_pos h.symm];refine⟨fun h=>(by cases h),fun c hc=>⟨0,by rw[Nat.zero_add],?_⟩⟩;cases hc;rfl
  ·rw[if_neg h,if_neg fun e=>h e.symm];obtain⟨h1,h2⟩:=DF (k:=k) cs (j+1);refine⟨h1,fun c hc=>?_⟩;obtain⟨i,hi,hx⟩:=h2 c hc;exact⟨i+1,by rw[hi,show i+(j+1)=i+1+j from by omega],hx⟩
theorem yh{K:FuncId}{A:AW}{v0 v1:AV}{cs:List Nd}{n:Str}(h0:Row A 1 v0 (ei cs).length (ip (ei cs)))(h1:Row A 1 v1 (jO cs).length (ip (jO cs)))(hl:cs.length≤9000):
 aD (ES K) 75 [v0,v1,.str n] A fun r A1=>r=.bool (jU cs (cs.length+1) n)∧A1=A:=by
 have l0:(ei cs).length=cs.length:=by unfold ei;rw[List.length_map]
 refine ap rfl rfl rfl ?_;refine gO ?_;refine lZ ?_;refine yL (pv 0 v0 (pv 1 v1 (.put 2 (.str n) (pn 7 0 .nil)))) ?_;refine aV (ι:=Nat×Str) (fun i=>cs.length+1-i.1) (fun i=>pv 0 v0 (pv 1 v1 (.put 2 (.str i.2) (pn 7 i.1 .nil)))) (fun i A2=>A2=A∧i.1≤cs.length+1∧jU cs (cs.length+1) n=jU cs (cs.length+1-i.1) i.2) ?_ (0,n) A ⟨rfl,Nat.zero_le _,rfl⟩;rintro ⟨i,q⟩ A2 ⟨rfl,hi,hr⟩ ih;have hr:jU cs (cs.length+1) n=jU cs (cs.length+1-i) q:=hr;obtain⟨x0,x1⟩:=DF (k:=q) cs 0;refine gO ?_;refine zC rfl (tF h0 (by omega)) ?_;rintro r A3 ⟨rfl,rfl⟩;refine gO ?_;refine zG (fun hn=>?_) fun hn=>?_
 ·have hn:ix (ei cs) q 0<0:=hn;have e:bp cs q=none:=by
   cases hc:bp cs q with
   | none=>rfl
   | some c=>
    obtain⟨j,hj,_⟩:=x1 c hc;rw[hj] at hn;omega
  have e2:jU cs (cs.length+1-i) q=false:=by
   cases cs.length+1-i with
   | zero=>show (bp cs q).isSome=false;rw[e];rfl
   | succ m=>show (match bp cs q with|none=>false|some c=>jU cs m (bZ c))=false;rw[e]
  refine gO ?_;exact af rfl ⟨by rw[hr,e2];rfl,rfl⟩
 have hn:¬ix (ei cs) q 0<0:=hn;obtain⟨c,hc⟩:∃c,bp cs q=some c:=by
  cases hc:bp cs q with
  | none=>
   rw[x0 hc] at hn;exact absurd (by decide) hn
  | some c=>exact⟨c,rfl⟩
 obtain⟨j,hj,hx⟩:=x1 c hc;rw[Nat.add_zero] at hj;rw[hj];refine gO ?_;refine zJ h0.bm ?_;refine gO ?_;rw[l0];refine zG (fun hs=>?_) fun hs=>?_
 ·have e:cs.length+1-i=0:=by omega
  refine gO ?_;refine af rfl ⟨?_,rfl⟩;rw[hr,e];show AV.bool true=.bool (bp cs q).isSome;rw[hc];rfl
 have hsup:(jO cs)[j]?=some (bZ c):=by
  unfold jO;rw[List.getElem?_map,hx];rfl
 obtain⟨f,t,o,cc,ex,ro,all,hv,hh,hlt,cw⟩:=cZ h1 hsup;refine gO ?_;refine zI j hv hlt ?_;refine oP ?_;refine zE hh cw ?_;refine gO ?_;refine zP ?_;refine gO ?_;refine oZ rfl (ld (jd ?_));refine yL (pv 0 v0 (pv 1 v1 (.put 2 (.str (bZ c)) (pn 7 (i+1:Nat) .nil)))) ?_;refine ih (i+1,bZ c) _ (by simp only;omega) ⟨rfl,by simp only;omega,?_⟩;rw[hr,show cs.length+1-i=(cs.length+1-(i+1))+1 from by omega];show (match bp cs q with|none=>false|some c=>jU cs (cs.length+1-(i+1)) (bZ c))=_;rw[hc]
end Go.Proofs.YtafamggbkobcfaaGreat.Ae
