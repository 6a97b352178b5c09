/- A part of the proof of the statement CheckTypes. -/
import Derived.Test.YtafamggbkobcfaaGreatAiSyR12
namespace Go.Proofs.YtafamggbkobcfaaGreat.Ae
open Go.AE
set_option linter.unusedVariables false
set_option maxRecDepth 100000
set_option maxHeartbeats 4000000 in
theorem ui{K:FuncId}{S:Nat→Prop}:∀{m:Nat} {A:AW} {t:Nd} {kv:AV},Wf A→aI A S t kv→St m t→aD (ES K) 26 [.agg (au t kv)] A fun r A1=>r=.bool (co m t)∧ac A A1 ag
 | 0,_,_,_,_,_,h=>by cases h
 | m+1,A,t,kv,hw,N,hS=>by
  have ih:∀{A:AW} {t:Nd} {kv:AV},Wf A→aI A S t kv→St m t→aD (ES K) 26 [.agg (au t kv)] A fun r A1=>r=.bool (co m t)∧ac A A1 ag:=fun h1 h2 h3=>ui h1 h2 h3;refine ap rfl rfl rfl ?_;have T:ac A A ag:=ac.refl hw _;refine gO ?_;refine bA rfl rfl rfl rfl ?_;generalize hf1:A.aa=f1;refine iV (n:=6) (cs:=au t kv) T hf1 ?_;intro A1 x1 o1 c1 T;have m1:=o1.aa;have l1:=T.wf _ _ c1;have hlv:=N.bm;have hl9:=N.len;replace N:=N.k T;refine wJ hlv ?_;refine zG (fun k12=>?_) fun k12=>?_
  ·refine gO ?_;refine cD rfl (fun _=>?_) fun h=>absurd k12 h;refine gO ?_;exact af rfl ⟨congrArg AV.bool (show _=co (m+1) t from (iP (.inl k12)).symm),T⟩
  refine wD (fun k13=>?_) fun k13=>?_
  ·refine gO ?_;exact af rfl ⟨congrArg AV.bool (show _=co (m+1) t from (iP (.inr k13)).symm),T⟩
  refine wD (fun k7=>?_) fun k7=>?_
  ·refine gO ?_;by_cases h0:(0:Int)<(t.l.length:Int)
   ·obtain⟨u,hu⟩:∃u,t.l[t.l.length-1]?=some u:=⟨_,gE om⟩;obtain⟨fku,sku,oku,cku,eku,rku,aku,ku,hvu,hsu,hhu,hlu,Nu,htu⟩:=bv N hu;have hku:takeN 6 (aB (Nat.add oku (Nat.mul (t.l.length-1) 6)) aku)=some (au u ku):=(htu 6 0 (Nat.le_refl _)).trans rfl;have hnu:=Nu.bh;refine wT 16 h0 ?_;refine gO ?_
    try refine aM rfl ?_
    refine fd rfl rfl rfl om om ?_;refine gO ?_
    try refine aM rfl ?_
    refine bg (t.l.length-1) rfl (congrArg some hvu) rfl rfl (show (t.l.length:Int)-1=((t.l.length-1:Nat) : Int) by omega) hlu ?_;refine wK hhu hku ?_
    try refine aM rfl ?_
    refine zC rfl (ih T.wf Nu (st_7 hS k7 u (mG hu))) ?_;rintro r A2 ⟨rfl,o2⟩;replace T:=T.same o2;replace c1:=o2.k c1;have m2:=o2.aa;refine gO ?_;exact af rfl ⟨congrArg AV.bool (show _=co (m+1) t from ((iN (show ¬(t.k=12∨t.k=13) from fun h=>h.elim k12 k13)).trans ((iP k7).trans (vp hu))).symm),T⟩
   ·refine wF 16 h0 ?_;refine gO ?_;exact af rfl ⟨congrArg AV.bool (show _=co (m+1) t from ((iN (show ¬(t.k=12∨t.k=13) from fun h=>h.elim k12 k13)).trans ((iP k7).trans (by rw[List.eq_nil_of_length_eq_zero (show t.l.length=0 by omega)];rfl))).symm),T⟩
  refine wD (fun k15=>?_) fun k15=>?_
  ·obtain⟨u0,hu0,e0⟩:=st_15 hS k15;obtain⟨fku0,sku0,oku0,cku0,eku0,rku0,aku0,ku0,hvu0,hsu0,hhu0,hlu0,Nu0,htu0⟩:=bv N hu0;have hku0:takeN 6 (aB (Nat.add oku0 (Nat.mul 0 6)) aku0)=some (au u0 ku0):=(htu0 6 0 (Nat.le_refl _)).trans rfl;have hnu0:=Nu0.bh;refine wI hvu0 hlu0 ?_;refine wK hhu0 hku0 ?_;refine zC rfl (ih T.wf Nu0 e0) ?_;rintro r A2 ⟨rfl,o2⟩;replace T:=T.same o2;replace c1:=o2.k c1;have m2:=o2.aa;refine gO ?_;exact af rfl ⟨congrArg AV.bool (show _=co (m+1) t from ((iN (show ¬(t.k=12∨t.k=13) from fun h=>h.elim k12 k13)).trans ((iN k7).trans ((iP k15).trans (congrArg (co m) (aW hu0))))).symm),T⟩
  refine wD (fun k10=>?_) fun k10=>?_
  ·refine gO ?_;by_cases h3:t.l.length=3
   ·obtain⟨u0,hu0,e0,hr⟩:=st_10 hS k10;obtain⟨u1,hu1⟩:∃u,t.l[1]?=some u:=⟨_,gE om⟩;obtain⟨u2,hu2⟩:∃u,t.l[2]?=some u:=⟨_,gE om⟩;have e1:St m u1:=hr u1 (mG (i:=0) (by rw[List.getElem?_drop];exact hu1));have e2:St m u2:=hr u2 (mG (i:=1) (by rw[List.getElem?_drop];exact hu2));obtain⟨fku1,sku1,oku1,cku1,eku1,rku1,aku1,ku1,hvu1,hsu1,hhu1,hlu1,Nu1,htu1⟩:=bv N hu1;have hku1:takeN 6 (aB (Nat.add oku1 (Nat.mul 1 6)) aku1)=some (au u1 ku1):=(htu1 6 0 (Nat.le_refl _)).trans rfl;have hnu1:=Nu1.bh;obtain⟨fku2,sku2,oku2,cku2,eku2,rku2,aku2,ku2,hvu2,hsu2,hhu2,hlu2,Nu2,htu2⟩:=bv N hu2;have hku2:takeN 6 (aB (Nat.add oku2 (Nat.mul 2 6)) aku2)=some (au u2 ku2):=(htu2 6 0 (Nat.le_refl _)).trans rfl;have hnu2:=Nu2.bh;refine wT 36 (congrArg Int.ofNat h3) ?_;refine wI hvu1 hlu1 ?_;refine wK hhu1 hku1 ?_
    try refine aM rfl ?_
    refine zC rfl (ih T.wf Nu1 e1) ?_;rintro r A2 ⟨rfl,o2⟩;replace T:=T.same o2;replace c1:=o2.k c1;replace N:=N.k o2;replace Nu1:=Nu1.k o2;replace Nu2:=Nu2.k o2;obtain⟨hhu1,hhu2⟩:=o2.k2 hhu1 hhu2;have m2:=o2.aa;refine gO ?_;cases hb:co m u1 with
    | false=>
     refine aF 43 false rfl rfl ?_;refine gO ?_;exact af rfl ⟨congrArg AV.bool (show _=co (m+1) t from ((iN (show ¬(t.k=12∨t.k=13) from fun h=>h.elim k12 k13)).trans ((iN k7).trans ((iN k15).trans ((iP k10).trans (by rw[cO hu1,cO hu2,hb,yT h3];rfl))))).symm),T⟩
    | true=>
     refine aF 43 true rfl rfl ?_;refine wI hvu2 hlu2 ?_;refine wK hhu2 hku2 ?_
     try refine aM rfl ?_
     refine zC rfl (ih T.wf Nu2 e2) ?_;rintro r A3 ⟨rfl,o3⟩;replace T:=T.same o3;replace c1:=o3.k c1;have m3:=o3.aa;refine gO ?_;exact af rfl ⟨congrArg AV.bool (show _=co (m+1) t from ((iN (show ¬(t.k=12∨t.k=13) from fun h=>h.elim k12 k13)).trans ((iN k7).trans ((iN k15).trans ((iP k10).trans (by rw[cO hu1,cO hu2,hb,yT h3];rfl))))).symm),T⟩
   ·refine aF 36 false rfl (yF fun e=>h3 (Int.ofNat.inj e)) ?_;refine gO ?_
    try refine aF 43 false rfl rfl ?_
    refine gO ?_;exact af rfl ⟨congrArg AV.bool (show _=co (m+1) t from ((iN (show ¬(t.k=12∨t.k=13) from fun h=>h.elim k12 k13)).trans ((iN k7).trans ((iN k15).trans ((iP k10).trans (by rw[yF h3];rfl))))).symm),T⟩
  refine wD (fun k14=>?_) fun k14=>?_
  ·obtain⟨u0,u1,u2,hl,e0,e2⟩:=st_14 hS k14;have hu0:t.l[0]?=some u0:=by rw[hl];rfl
   have hu2:t.l[2]?=some u2:=by rw[hl];rfl
   obtain⟨fku0,sku0,oku0,cku0,eku0,rku0,aku0,ku0,hvu0,hsu0,hhu0,hlu0,Nu0,htu0⟩:=bv N hu0;have hku0:takeN 6 (aB (Nat.add oku0 (Nat.mul 0 6)) aku0)=some (au u0 ku0):=(htu0 6 0 (Nat.le_refl _)).trans rfl;have hnu0:=Nu0.bh;obtain⟨fku2,sku2,oku2,cku2,eku2,rku2,aku2,ku2,hvu2,hsu2,hhu2,hlu2,Nu2,htu2⟩:=bv N hu2;have hku2:takeN 6 (aB (Nat.add oku2 (Nat.mul 2 6)) aku2)=some (au u2 ku2):=(htu2 6 0 (Nat.le_refl _)).trans rfl;have hnu2:=Nu2.bh;refine wI hvu0 hlu0 ?_;refine wK hhu0 hku0 ?_;refine zC rfl (ih T.wf Nu0 e0) ?_;rintro r A2 ⟨rfl,o2⟩;replace T:=T.same o2;replace c1:=o2.k c1;replace N:=N.k o2;replace Nu0:=Nu0.k o2;replace Nu2:=Nu2.k o2;obtain⟨hhu0,hhu2⟩:=o2.k2 hhu0 hhu2;have m2:=o2.aa;refine gO ?_;cases hb:co m u0 with
   | false=>
    refine aF 57 false rfl rfl ?_;refine gO ?_;exact af rfl ⟨congrArg AV.bool (show _=co (m+1) t from ((iN (show ¬(t.k=12∨t.k=13) from fun h=>h.elim k12 k13)).trans ((iN k7).trans ((iN k15).trans ((iN k10).trans ((iP k14).trans (by rw[aW hu0,cO hu2,hb];rfl)))))).symm),T⟩
   | true=>
    refine aF 57 true rfl rfl ?_;refine wI hvu2 hlu2 ?_;refine zK hhu2 hku2 ?_
    try refine aM rfl ?_
    refine oP ?_
    try refine aM rfl ?_
    refine zC rfl (ih T.wf Nu2 e2) ?_;rintro r A3 ⟨rfl,o3⟩;replace T:=T.same o3;replace c1:=o3.k c1;have m3:=o3.aa;refine gO ?_;exact af rfl ⟨congrArg AV.bool (show _=co (m+1) t from ((iN (show ¬(t.k=12∨t.k=13) from fun h=>h.elim k12 k13)).trans ((iN k7).trans ((iN k15).trans ((iN k10).trans ((iP k14).trans (by rw[aW hu0,cO hu2,hb];rfl)))))).symm),T⟩
  refine gO ?_;exact af rfl ⟨congrArg AV.bool (show _=co (m+1) t from ((iN (show ¬(t.k=12∨t.k=13) from fun h=>h.elim k12 k13)).trans ((iN k7).trans ((iN k15).trans ((iN k10).trans (iN k14))))).symm),T⟩
def Fh(y:bM): Str:=if y.1=1 then [105,110,116] else if y.1=2 then [99,112,120] else if y.1=3 then [105,110,116,115] else if y.1=0 then [118,111,105,100] else y.2
theorem uj(s:Str): Fh (named s)=s:=by
 unfold named;by_cases h1:s=[105,110,116]
 ·rw[iP h1,h1];rfl
 rw[iN h1];by_cases h2:s=[99,112,120]
 ·rw[iP h2,h2];rfl
 rw[iN h2];by_cases h3:s=[105,110,116,115]
 ·rw[iP h3,h3];rfl
 rw[iN h3];by_cases h4:s=[118,111,105,100]
 ·rw[iP h4,h4];rfl
 rw[iN h4];rfl
theorem vy{s s':Str}(h:named s=named s'): s=s':=by
 have:=congrArg Fh h;rw[uj,uj] at this;exact this
set_option maxHeartbeats 4000000 in
theorem qX{K:FuncId}{A:AW}{S:Nat→Prop}{a b:Nd}{ka kb:AV}(hw:Wf A)(Na:aI A S a ka)(Nb:aI A S b kb)(ha:2≤a.l.length∧∀p∈params a,0<p.l.length)(hb:2≤b.l.length∧∀p∈params b,0<p.l.length):
 aD (ES K) 60 [.agg (au a ka),.agg (au b kb)] A fun r A1=>r=.bool (decide ((params a).map first=(params b).map first∧first a=first b))∧ac A A1 ag:=by
 refine ap rfl rfl rfl ?_;have T:ac A A ag:=ac.refl hw _;refine gO ?_;have hstb:=Nb.bh;refine bA rfl rfl rfl rfl ?_;generalize hf2:A.aa=f2;refine iV (n:=6) (cs:=au a ka) T hf2 ?_;intro A1 x2 o1 c2 T;replace Na:=Na.k o1;replace Nb:=Nb.k o1;refine bA rfl rfl rfl rfl ?_;generalize hf3:A1.aa=f3;refine iV (n:=6) (cs:=au b kb) T hf3 ?_;intro A2 x3 o2 c3 T;replace c2:=o2.k c2;replace Na:=Na.k o2;replace Nb:=Nb.k o2;refine tD ?_;refine rD ?_;refine zL c2 ?_;refine eR ?_;refine rD ?_;refine zL c3 ?_;refine eR ?_;refine aC ?_;refine zC rfl (fQ T.wf Na ha.1) ?_;rintro r A3 ⟨Npa,o3⟩;replace T:=T.same o3;obtain⟨c2,c3⟩:=o3.k2 c2 c3;replace Na:=Na.k o3;replace Nb:=Nb.k o3;generalize r=r9 at Npa ⊢;refine sA ?_;refine aC ?_;refine zC rfl (fQ T.wf Nb hb.1) ?_;rintro r A4 ⟨Npb,o4⟩;replace T:=T.same o4;obtain⟨c2,c3⟩:=o4.k2 c2 c3;replace Na:=Na.k o4
 replace Nb:=Nb.k o4;replace Npa:=Npa.k o4;generalize r=r11 at Npb ⊢;refine sA ?_;refine aC ?_;refine sA ?_;refine aC ?_;refine sA ?_;refine aK ?_;have hla:bm r9=some (params a).length:=Npa.bm;have hlb:bm r11=some (params b).length:=Npb.bm;have hl9:(params a).length≤9000:=Npa.len;obtain⟨wa,hwa⟩:∃w,a.l[0]?=some w:=⟨_,gE om⟩;obtain⟨wb,hwb⟩:∃w,b.l[0]?=some w:=⟨_,gE om⟩;have efa:first a=named wa.s:=by unfold first;rw[aW hwa]
 have efb:first b=named wb.s:=by unfold first;rw[aW hwb]
 obtain⟨fka,ska,oka,cka,eka,rka,aka,kwa,hvka,hska,hhka,hlka,Nka,hatka⟩:=bv Na hwa;have htxa:=aR ((hatka 1 2 dE).trans rfl);obtain⟨fkb,skb,okb,ckb,ekb,rkb,akb,kwb,hvkb,hskb,hhkb,hlkb,Nkb,hatkb⟩:=bv Nb hwb;have htxb:=aR ((hatkb 1 2 dE).trans rfl);refine tD ?_;refine rD ?_;refine zJ hla ?_;refine eR ?_;refine rD ?_;refine zJ hlb ?_;refine eR ?_;refine dR ?_;by_cases hln:(params a).length=(params b).length
 ·refine aL 17 false rfl (yF fun h=>h (by rw[hln])) ?_;refine dR ?_;refine ax rfl rfl rfl rfl rfl ?_
  try refine aM rfl ?_
  refine zI 0 hvka hlka ?_;refine eP ?_;refine rD ?_;refine aZ rfl rfl rfl rfl hhka (v:=.str wa.s) htxa ?_;refine eR ?_;refine dR ?_;refine ax rfl rfl rfl rfl rfl ?_
  try refine aM rfl ?_
  refine zI 0 hvkb hlkb ?_;refine eP ?_;refine rD ?_;refine aZ rfl rfl rfl rfl hhkb (v:=.str wb.s) htxb ?_;refine eR ?_;refine eD ?_;refine zG (fun ht=>?_) fun ht=>?_
  ·have ht:wa.s≠wb.s:=ht;refine gO ?_;exact af rfl ⟨congrArg AV.bool (yF (fun h=>ht (vy (by rw[←efa,←efb];exact h.2)))).symm,T⟩
  have ht:wa.s=wb.s:=Decidable.not_not.1 ht;refine gO ?_;refine aE ?_;refine yL (pv 5 r9 (pv 6 r11 (pn 7 0 .nil))) ?_;refine aV (ι:=Nat) (fun i=>(params a).length-i) (fun i=>(pv 5 r9 (pv 6 r11 (pn 7 i .nil)))) (fun i B=>B=A4∧i≤(params a).length∧∀j,j<i→((params a).map first)[j]?=((params b).map first)[j]?) ?_ 0 _ ⟨rfl,Nat.zero_le _,fun j hj=>absurd hj (Nat.not_lt_zero _)⟩;rintro i B ⟨eB,hi,hp⟩ ih;obtain rfl:A4=B:=eB.symm;refine wJ hla ?_;refine zG (fun hlt=>?_) fun hge=>?_
  ·have hlt:i<(params a).length:=Int.ofNat_lt.1 hlt;have hua:(params a)[i]?=some ((params a)[i]'om):=gE om;have huma:(params a)[i]'om∈params a:=List.getElem_mem _;generalize (params a)[i]'om=ua at hua huma;obtain⟨fua,tua,oua,ccua,exua,roua,allua,kua,hvua,hsua,hhua,hlua,Nua,hatua⟩:=bv Npa hua;have hkua:=aR ((hatua 1 5 dE).trans rfl);obtain⟨va,hv0a⟩:∃w,ua.l[0]?=some w:=⟨_,gE (ha.2 ua huma)⟩;obtain⟨fva,sva,ova,cva,eva,rva,ava,kva,hvva,hsva,hhva,hlva,Nva,hatva⟩:=bv Nua hv0a;have htva:=aR ((hatva 1 2 dE).trans rfl);have efa':first ua=named va.s:=by unfold first;rw[aW hv0a]
   have hub:(params b)[i]?=some ((params b)[i]'om):=gE om;have humb:(params b)[i]'om∈params b:=List.getElem_mem _;generalize (params b)[i]'om=ub at hub humb;obtain⟨fub,tub,oub,ccub,exub,roub,allub,kub,hvub,hsub,hhub,hlub,Nub,hatub⟩:=bv Npb hub;have hkub:=aR ((hatub 1 5 dE).trans rfl);obtain⟨vb,hv0b⟩:∃w,ub.l[0]?=some w:=⟨_,gE (hb.2 ub humb)⟩;obtain⟨fvb,svb,ovb,cvb,evb,rvb,avb,kvb,hvvb,hsvb,hhvb,hlvb,Nvb,hatvb⟩:=bv Nub hv0b;have htvb:=aR ((hatvb 1 2 dE).trans rfl);have efb':first ub=named vb.s:=by unfold first;rw[aW hv0b]
   refine tD ?_;refine ax rfl rfl rfl rfl rfl ?_;refine zI i hvua hlua ?_;refine eP ?_;refine rD ?_;refine aZ rfl rfl rfl rfl hhua (v:=kua) hkua ?_;refine eR ?_;refine ax rfl rfl rfl rfl rfl ?_;refine zI 0 hvva hlva ?_;refine eP ?_;refine rD ?_;refine aZ rfl rfl rfl rfl hhva (v:=.str va.s) htva ?_;refine eR ?_;refine dR ?_;refine ax rfl rfl rfl rfl rfl ?_;refine zI i hvub hlub ?_;refine eP ?_;refine rD ?_;refine aZ rfl rfl rfl rfl hhub (v:=kub) hkub ?_;refine eR ?_;refine ax rfl rfl rfl rfl rfl ?_;refine zI 0 hvvb hlvb ?_;refine eP ?_;refine rD ?_;refine aZ rfl rfl rfl rfl hhvb (v:=.str vb.s) htvb ?_;refine eR ?_;refine eD ?_;refine zG (fun hd=>?_) fun hd=>?_
   ·have hd:va.s≠vb.s:=hd;have el:((params a).map first)[i]?=some (named va.s):=by rw[List.getElem?_map,hua];exact congrArg some efa'
    have er:((params b).map first)[i]?=some (named vb.s):=by rw[List.getElem?_map,hub];exact congrArg some efb'
    refine gO ?_;exact af rfl ⟨congrArg AV.bool (yF (fun h=>hd (vy (by
     rw[h.1,er] at el;exact (Option.some.inj el).symm)))).symm,T⟩
   ·have hd:va.s=vb.s:=Decidable.not_not.1 hd;have el:((params a).map first)[i]?=some (named va.s):=by rw[List.getElem?_map,hua];exact congrArg some efa'
    have er:((params b).map first)[i]?=some (named vb.s):=by rw[List.getElem?_map,hub];exact congrArg some efb'
    refine wP ?_;refine ai ?_;refine yL (pv 5 r9 (pv 6 r11 (pn 7 (i+1:Nat) .nil))) ?_;refine ih (i+1) _ om ⟨rfl,hlt,fun j hj=>?_⟩;by_cases e:j=i
    ·subst e;rw[el,er,hd]
    ·exact hp j om
  have hge:i=(params a).length:=by
   omega
  subst hge;refine ay rfl ?_;refine gO ?_;refine af rfl ⟨congrArg AV.bool (yT ⟨List.ext_getElem? fun j=>?_,by rw[efa,efb,ht]⟩).symm,T⟩;by_cases hj:j<(params a).length
  ·exact hp j hj
  ·rw[List.getElem?_eq_none (by rw[lM];omega),List.getElem?_eq_none (by rw[lM];omega)]
 ·refine aL 17 true rfl (yT fun h=>hln (Int.ofNat.inj h)) ?_;refine dO ?_;refine eD ?_;refine rU ?_;exact af rfl ⟨congrArg AV.bool (yF (fun h=>hln (by have:=congrArg List.length h.1;rw[lM,lM] at this;exact this))).symm,T⟩
theorem Ar:∀(l:List Str) (f:Nat→Str),(∀k,k≤l.length→f k∈l)→∃i j,i<j∧j≤l.length∧f i=f j
 | [],f,h=>absurd (h 0 (Nat.le_refl _)) List.not_mem_nil
 | a::l,f,h=>by
  refine Classical.byContradiction fun no=>?_;have inj:∀i j,i<j→j≤l.length+1→f i≠f j:=fun i j hij hj e=>no ⟨i,j,hij,hj,e⟩;by_cases hk:∃k,k≤l.length+1∧f k=a
  ·obtain⟨k,hk,rfl⟩:=hk;have hin:∀j,j≤l.length+1→j≠k→f j∈l:=fun j hj hne=>by
    rcases List.mem_cons.1 (h j hj) with e|e
    ·rcases Nat.lt_or_gt_of_ne hne with hlt|hlt
     ·exact absurd e (inj j k hlt hk)
     ·exact absurd e.symm (inj k j hlt hj)
    ·exact e
   obtain⟨i,j,hij,hj,e⟩:=Ar l (fun j=>if j<k then f j else f (j+1)) fun j hj=>by
    show (if j<k then f j else f (j+1))∈l;by_cases hjk:j<k
    ·rw[iP hjk];exact hin j om om
    ·rw[iN hjk];exact hin (j+1) om om
   have e:(if i<k then f i else f (i+1))=if j<k then f j else f (j+1):=e
   by_cases hi:i<k
   ·rw[iP hi] at e;by_cases hj':j<k
    ·rw[iP hj'] at e;exact inj i j hij om e
    ·rw[iN hj'] at e;exact inj i (j+1) om om e
   ·rw[iN hi,iN om] at e;exact inj (i+1) (j+1) om om e
  ·have hin:∀j,j≤l.length→f j∈l:=fun j hj=>by
    rcases List.mem_cons.1 (h j (Nat.le_succ_of_le hj)) with e|e
    ·exact absurd ⟨j,Nat.le_succ_of_le hj,e⟩ hk
    ·exact e
   obtain⟨i,j,hij,hj,e⟩:=Ar l f hin;exact inj i j hij om e
def up1(cs:List Nd)(s:Str): Str:=match bp cs s with
 | none=>s
 | some c=>bZ c
def yz(cs:List Nd): Nat→Str→Str
 | 0,s=>s
 | k+1,s=>yz cs k (up1 cs s)
theorem uk(cs:List Nd): ∀(k:Nat) (s:Str),yz cs (k+1) s=up1 cs (yz cs k s)
 | 0,s=>rfl
 | k+1,s=>by
  show yz cs (k+1) (up1 cs s)=_;rw[uk cs k (up1 cs s)];rfl
theorem wR{cs:List Nd}:∀(f:Nat) (s:Str),jU cs f s=true↔∀k,k≤f→(bp cs (yz cs k s)).isSome=true
 | 0,s=>⟨fun h k hk=>by
  obtain rfl:k=0:=om;exact h,fun h=>h 0 (Nat.le_refl _)⟩
 | f+1,s=>by
  show (match bp cs s with|none=>false|some c=>jU cs f (bZ c))=true↔_;cases hc:bp cs s with
  | none=>
   refine⟨fun h=>(by cases h),fun h=>?_⟩;have:=h 0 (Nat.zero_le _);rw[show yz cs 0 s=s from rfl,hc] at this;cases this
  | some c=>
   have e:up1 cs s=bZ c:=by unfold up1;rw[hc]
   show jU cs f (bZ c)=true↔_;rw[wR f (bZ c)];constructor
   ·intro h k hk;cases k with
    | zero=>rw[show yz cs 0 s=s from rfl,hc];rfl
    | succ k=>
     have:=h k om;rw[←e] at this;exact this
   ·intro h k hk;have:=h (k+1) om;rw[show yz cs (k+1) s=yz cs k (up1 cs s) from rfl,e] at this;exact this
theorem DZ{cs:List Nd}{f:Nat}{s:Str}(h:jU cs (f+1) s=true): jU cs f s=true:=by
 rw[wR] at h ⊢;exact fun k hk=>h k om
theorem Ea{cs:List Nd}{s:Str}(h:jU cs cs.length s=true): jU cs (cs.length+1) s=true:=by
 rw[wR] at h ⊢;have hl:(ei cs).length=cs.length:=lM _;obtain⟨i,j,hij,hj,e⟩:=Ar (ei cs) (fun k=>yz cs k s) fun k hk=>mN.1 (h k om);rw[hl] at hj;have e:yz cs i s=yz cs j s:=e;have shift:∀m,yz cs (i+m) s=yz cs (j+m) s:=fun m=>by
  induction m with
  | zero=>exact e
  | succ m ih=>
   rw[show i+(m+1)=(i+m)+1 from rfl,show j+(m+1)=(j+m)+1 from rfl,uk,uk,ih]
 have last:yz cs (cs.length+1) s=yz cs (i+(cs.length+1-j)) s:=by
  rw[shift,show j+(cs.length+1-j)=cs.length+1 from by omega]
 intro k hk;by_cases hk':k≤cs.length
 ·exact h k hk'
 ·obtain rfl:k=cs.length+1:=om;rw[last];exact h _ om
theorem yv{cs:List Nd}(h:∀(i:Nat) (c:Nd),cs[i]?=some c→gV cs i c){c:Nd}(hc:c∈cs): bp cs c.s=some c:=by
 obtain⟨i,hi,hx⟩:=List.getElem_of_mem hc;have hg:cs[i]?=some c:=by rw[gE hi,hx]
 obtain⟨a1,a2,a3,_⟩:=h i c hg;have:cs=cs.take i++c::cs.drop (i+1):=by
  rw[←hx,←List.drop_eq_getElem_cons hi,List.take_append_drop]
 unfold bp;rw[this,List.find?_append,a1,List.find?_cons,yT rfl];rfl
theorem Bm{cs:List Nd}{c:Nd}(h:bp cs c.s=some c)(h0:0<cs.length): jU cs cs.length c.s=jU cs (cs.length-1) (bZ c):=by
 obtain⟨m,hm⟩:∃m,cs.length=m+1:=⟨cs.length-1,om⟩;rw[hm];show (match bp cs c.s with|none=>false|some c=>jU cs m (bZ c))=_;rw[h];rfl
theorem gn{cs:List Nd}:gW cs↔(∀(i:Nat) (c:Nd),cs[i]?=some c→gV cs i c)∧(∀(i:Nat) (c:Nd),cs[i]?=some c→gg cs (bZ c))∧∀(i:Nat) (c:Nd),cs[i]?=some c→jU cs (cs.length-1) (bZ c)=false:=by
 constructor
 ·intro h;refine⟨h.one,fun i c hc=>h.sup c (mG hc),fun i c hc=>?_⟩;have hm:=mG hc;have h0:0<cs.length:=Nat.lt_of_le_of_lt (Nat.zero_le _) (List.getElem?_eq_some_iff.1 hc).1;rw[←Bm (yv h.one hm) h0];cases hr:jU cs cs.length c.s with
  | false=>rfl
  | true=>
   have:=h.rnd c hm;rw[Ea hr] at this;cases this
 ·rintro ⟨h1,h2,h3⟩;refine⟨h1,fun c hc=>?_,fun c hc=>?_⟩
  ·obtain⟨i,hi,hx⟩:=List.getElem_of_mem hc;exact h2 i c (by rw[gE hi,hx])
  ·obtain⟨i,hi,hx⟩:=List.getElem_of_mem hc;have:=h3 i c (by rw[gE hi,hx]);rw[←Bm (yv h1 hc) om] at this;cases hr:jU cs (cs.length+1) c.s with
   | false=>rfl
   | true=>
    rw[DZ hr] at this;cases this
end Go.Proofs.YtafamggbkobcfaaGreat.Ae
