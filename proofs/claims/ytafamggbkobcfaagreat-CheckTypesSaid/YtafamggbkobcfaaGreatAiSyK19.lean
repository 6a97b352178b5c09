/- A part of the proof of the statement CheckTypes. -/
import Derived.Test.YtafamggbkobcfaaGreatAiSyK18
namespace Go.Proofs.YtafamggbkobcfaaGreat.Ae
open Go.AE
set_option linter.unusedVariables false
set_option maxRecDepth 100000
theorem rP{α:Type}{p:α→Bool}{l:List α}{u:α}{b0 b1 b2:Bool}(hz:b1=false↔b0=false∧l.all p=true)(hb:b1=true→b2=true)(h:b1=false→(b2=false↔p u=true)):
 b2=false↔b0=false∧(l.all p && [u].all p)=true:=by
 cases b1 with
 | true=>
  rw[hb rfl];refine⟨fun h=>(by cases h),fun h=>?_⟩;have:=hz.2 ⟨h.1,(Bool.and_eq_true_iff.1 h.2).1⟩;cases this
 | false=>
  obtain⟨h0,h1⟩:=hz.1 rfl;rw[h rfl];refine⟨fun h=>⟨h0,?_⟩,fun h=>?_⟩
  ·rw[h1];show (true && (p u && true))=true;rw[h];rfl
  ·have:=(Bool.and_eq_true_iff.1 h.2).2;have e:(p u && true)=true:=this;rw[Bool.and_true] at e;exact e
theorem zZ{z:Option bM}{y:bM}{b b0 b1:Bool}{vs:Vs}{l us:List Nd}{p:Nd→Bool}(hv:match z with
 | none=>b=true
 | some w=>b=false∧y=w) (hb:(decide (y.1≠1) || b)=b0) (hus:l.drop 1=us) (hz:b1=false↔b0=false∧us.all p=true) :
 match (match (generalizing:=false) z with
  | none=>none
  | some y=>if y.1=1∧(l.drop 1).all p=true then some vs else none:Option Vs) with
  | none=>b1=true
  | some ws=>b1=false∧ws=vs:=by
 subst hus;have nt:¬b1=false→b1=true:=fun h=>by
  cases b1
  ·exact absurd rfl h
  ·rfl
 cases z with
 | none=>
  have hv:b=true:=hv;refine nt fun h=>?_;have:=(hz.1 h).1;rw[←hb,hv,Bool.or_true] at this;cases this
 | some w=>
  obtain⟨rfl,rfl⟩:=hv;show match (if y.1=1∧(l.drop 1).all p=true then some vs else none:Option Vs) with
   | none=>_
   | some _=>_
  rw[Bool.or_false] at hb;by_cases h:y.1=1∧(l.drop 1).all p=true
  ·rw[iP h];exact⟨hz.2 ⟨by rw[←hb];exact yF fun h'=>h' h.1,h.2⟩,rfl⟩
  ·rw[iN h];refine nt fun h'=>h ?_;obtain⟨g1,g2⟩:=hz.1 h';rw[←hb] at g1;exact⟨Decidable.not_not.1 (of_decide_eq_false g1),g2⟩
theorem dA{E:Ev}{vs:Vs}{t:Nd}{p:bM→Bool}{y:bM}{b f:Bool}(hz:match E.ty vs (ba t) with
 | none=>b=true
 | some w=>b=false∧y=w) (hf:f=(!(p y) || b)) : match qR E vs t p with
 | none=>f=true
 | some ws=>f=false∧ws=vs:=by
 unfold qR;subst hf;cases h:E.ty vs (ba t) with
 | none=>
  rw[h] at hz;have hz:b=true:=hz;show _=true;rw[hz,Bool.or_true]
 | some w=>
  rw[h] at hz;obtain⟨rfl,rfl⟩:=hz;show match (if p y=true then some vs else none:Option Vs) with
   | none=>_
   | some _=>_
  by_cases hp:p y=true
  ·rw[iP hp,hp];exact⟨rfl,rfl⟩
  ·rw[iN hp];have:p y=false:=by
    cases hq:p y
    ·rfl
    ·exact absurd hq hp
   rw[this];rfl
section
variable{m:Nat}{t:Nd}
theorem st_7(h:St (m+1) t)(k:t.k=7): ∀u∈t.l,St m u:=by
 cases h<;>first|assumption|(exfalso;revert k;decide)|(exfalso;simp only[Nd.k] at k;omega)
theorem st_8(h:St (m+1) t)(k:t.k=8): 0<t.l.length∧∀u,t.l[1]?=some u→Ex u:=by
 cases h<;>first|(exfalso;revert k;decide)|(exfalso;simp only[Nd.k] at k;omega)|exact⟨Nat.succ_pos _,fun u hu=>by cases hu;assumption⟩|exact⟨Nat.succ_pos _,fun u hu=>by cases hu⟩
theorem st_9(h:St (m+1) t)(k:t.k=9): ∃u0 u1,t.l=[u0,u1]∧Ex u0∧Ex u1:=by
 cases h<;>first|(exfalso;revert k;decide)|(exfalso;simp only[Nd.k] at k;omega)|exact⟨_,_,rfl,by assumption,by assumption⟩
theorem wx(h:St (m+1) t)(k:t.k=10∨t.k=11): ∃u0,t.l[0]?=some u0∧Ex u0∧∀u∈t.l.drop 1,St m u:=by
 cases h<;>first|(exfalso;simp only[Nd.k] at k;omega)|exact⟨_,rfl,by assumption,fun u hu=>by cases List.mem_singleton.1 hu;assumption⟩|exact⟨_,rfl,by assumption,fun u hu=>(List.mem_cons.1 hu).elim (fun e=>by rw[e];assumption) fun hu=>by rw[List.mem_singleton.1 hu];assumption⟩
theorem st_12(h:St (m+1) t)(k:t.k=12)(h0:¬t.l.length=0): ∃u0,t.l[0]?=some u0∧Ex u0:=by
 cases h<;>first|(exfalso;revert k;decide)|(exfalso;simp only[Nd.k] at k;omega)|exact absurd rfl h0|exact⟨_,rfl,by assumption⟩
theorem gU(h:St (m+1) t)(k:t.k=13∨t.k=16∨t.k=17∨t.k=18∨t.k=20∨t.k=21∨t.k=22): ∃u0,t.l[0]?=some u0∧Ex u0:=by
 cases h<;>first|exact⟨_,rfl,by assumption⟩|(exfalso;simp only[Nd.k] at k;omega)
theorem st_14(h:St (m+1) t)(k:t.k=14): ∃u0 u1 u2,t.l=[u0,u1,u2]∧St m u0∧St m u2:=by
 cases h<;>first|(exfalso;revert k;decide)|(exfalso;simp only[Nd.k] at k;omega)|exact⟨_,_,_,rfl,by assumption,by assumption⟩
theorem st_15(h:St (m+1) t)(k:t.k=15): ∃u0,t.l[0]?=some u0∧St m u0:=by
 cases h<;>first|(exfalso;revert k;decide)|(exfalso;simp only[Nd.k] at k;omega)|exact⟨_,rfl,by assumption⟩
theorem ex_28{n:Nat}(h:Ex t)(k:t.k=28)(hs:sz t≤n): ∃w,t.l[0]?=some w∧Ex w∧sz w≤n:=by
 have hk:∀w∈t.l,sz w≤n:=fun w hw=>by
  have:=fE hw;omega
 cases h<;>first|(exfalso;simp only[Nd.k] at k;omega)|exact⟨_,rfl,by assumption,hk _ (List.mem_singleton.2 rfl)⟩
theorem ex_29{n:Nat}(h:Ex t)(k:t.k=29)(hs:sz t≤n): t.l≠[]∧∀u∈t.l,Ex u∧sz u≤n:=by
 have hk:∀w∈t.l,sz w≤n:=fun w hw=>by
  have:=fE hw;omega
 cases h<;>first|(exfalso;simp only[Nd.k] at k;omega)|exact⟨by assumption,fun u hu=>⟨by rename_i q;exact q u hu,hk u hu⟩⟩
end
theorem st_10{m:Nat}{t:Nd}(h:St (m+1) t)(k:t.k=10): ∃u0,t.l[0]?=some u0∧Ex u0∧∀u∈t.l.drop 1,St m u:=wx h (.inl k)
theorem st_11{m:Nat}{t:Nd}(h:St (m+1) t)(k:t.k=11): ∃u0,t.l[0]?=some u0∧Ex u0∧∀u∈t.l.drop 1,St m u:=wx h (.inr k)
set_option maxHeartbeats 16000000 in
theorem Aa{K:FuncId}{n m:Nat}(hS:ye K n m): ye K n (m+1):=by
 intro A Y b t kv hw h N hP hs hv;have hk:∀u∈t.l,sz u≤n:=fun u hu=>by
  have:=fE hu;omega
 refine ap rfl rfl rfl ?_;have T:ST A A Y (Y.set Y.vv Y.lv Y.vars Y.locks) b b:=ST.refl hw h;have hlp:=h.bo.lt hw;have hM:=h.bo.eO.le;refine gO ?_;refine bA rfl rfl rfl rfl ?_;generalize hf2:A.aa=f2;refine gm (n:=1) (cs:=[.ptr Y.fb 0 0]) hw h T rfl hf2 ?_;intro A1 x2 p2 o1 c2 T;have l1:=T.Fi.wf _ _ c2;refine bA rfl rfl rfl rfl ?_;generalize hf3:A1.aa=f3;refine gm (n:=6) (cs:=au t kv) hw h T rfl hf3 ?_;intro A2 x3 p3 o2 c3 T;replace c2:=o2.k c2;have l2:=T.Fi.wf _ _ c3;have hst:=N.bh;have hlv:=N.bm;replace N:=T.bl h N;have hc:=T.ps.bo.cell;obtain⟨fe,hpc⟩:=T.ps.bo.eO.cell;refine gO ?_;cases b with
 | true=>
  refine bL (v:=.bool true) rfl rfl rfl rfl ?_;refine rU ?_;exact af rfl ⟨Y.vv,Y.lv,[],true,by rw[aN];exact T,Nat.zero_le _,fun e=>by cases e⟩
 | false=>
  refine bL (v:=.bool false) rfl rfl rfl rfl ?_;refine rU ?_;refine zG (fun k7=>?_) fun k7=>?_
  ·refine gO ?_;refine dG rfl rfl rfl ?_;refine wC (kf (Y:=Y) T.Fi.wf T.ps bF rfl (DA hS T.Fi.wf T.ps N (fun u hu=>⟨st_7 hP k7 u hu,hk u hu⟩) om c3 c2 p3 p2)) ?_;rintro r A3 ⟨vv3,lv3,ws3,b3,t3,n3,z3⟩;obtain⟨c2',p2'⟩:=t3.dg T.Fi.wf rfl c2 p2;clear c2' p2';obtain⟨c3',p3'⟩:=t3.dg T.Fi.wf rfl c3 p3;clear c3' p3';replace T:ST A A3 Y (Y.set vv3 lv3 (Y.vars++ws3) Y.locks) false b3:=T.then hw rfl t3;refine gO ?_;refine bd rfl ?_;exact⟨vv3,lv3,ws3,b3,T,om,fun e=>by
    rw[show cP (Y.ev n) (m+1) Y.locks Y.vars t=_ from iP k7];exact z3 e⟩
  refine wD (fun k8=>?_) fun k8=>?_
  ·obtain⟨h0,h1⟩:=st_8 hP k8;refine wL c3 ?_;refine zC rfl (Cj (n:=n) (Y:=Y) T.Fi.wf T.ps N h0 (fun u hu=>⟨h1 u hu,hk u (mG hu)⟩) om) ?_;rintro r A3 ⟨vv3,lv3,ws3,b3,t3,n3,z3⟩;obtain⟨c2',p2'⟩:=t3.dg T.Fi.wf rfl c2 p2;clear c2' p2';obtain⟨c3',p3'⟩:=t3.dg T.Fi.wf rfl c3 p3;clear c3' p3';replace T:ST A A3 Y (Y.set vv3 lv3 (Y.vars++ws3) Y.locks) false b3:=T.then hw rfl t3;refine gO ?_;refine bd rfl ?_;exact⟨vv3,lv3,ws3,b3,T,n3,fun e=>by
    rw[show cP (Y.ev n) (m+1) Y.locks Y.vars t=_ from (iN k7).trans (iP k8)];exact z3 e⟩
  refine wD (fun k9=>?_) fun k9=>?_
  ·obtain⟨u0,u1,hl,e0,e1⟩:=st_9 hP k9;have hu0:t.l[0]?=some u0:=by rw[hl];rfl
   have hu1:t.l[1]?=some u1:=by rw[hl];rfl
   refine wL c3 ?_;refine zC rfl ((zX (n:=n) (Y:=Y) T.Fi.wf T.ps.bo N hu0 hu1 ⟨e0,hk u0 (mG hu0)⟩ ⟨e1,hk u1 (mG hu1)⟩ fun k28=>ex_28 e0 k28 (hk u0 (mG hu0))).mono fun r A1 hb=>AZ.s (k:=0) T.Fi.wf T.ps hb) ?_;rintro r A3 ⟨vv3,lv3,ws3,b3,t3,n3,z3⟩;obtain⟨c2',p2'⟩:=t3.dg T.Fi.wf rfl c2 p2;clear c2' p2';obtain⟨c3',p3'⟩:=t3.dg T.Fi.wf rfl c3 p3;clear c3' p3';replace T:ST A A3 Y (Y.set vv3 lv3 (Y.vars++ws3) Y.locks) false b3:=T.then hw rfl t3;refine gO ?_;refine bd rfl ?_;exact⟨vv3,lv3,ws3,b3,T,om,fun e=>by
    rw[show cP (Y.ev n) (m+1) Y.locks Y.vars t=_ from (iN k7).trans ((iN k8).trans (iP k9))];exact z3 e⟩
  refine gO ?_;refine sQ ?_;refine wD (fun k10=>?_) fun k10=>?_
  ·refine gO ?_;refine cD rfl (fun _=>?_) fun h=>absurd k10 h;obtain⟨u0,hu0,e0,hr⟩:=st_10 hP k10;refine gO ?_;obtain⟨fku0,sku0,oku0,cku0,eku0,rku0,aku0,ku0,hvu0,hsu0,hhu0,hlu0,Nu0,htu0⟩:=bv N hu0;have hku0:takeN 6 (aB (Nat.add oku0 (Nat.mul 0 6)) aku0)=some (au u0 ku0):=(htu0 6 0 (Nat.le_refl _)).trans rfl;obtain⟨fe,hpc⟩:=T.ps.bo.eO.cell;refine tD ?_;refine ax rfl rfl rfl rfl rfl ?_
   try refine aM rfl ?_
   refine zI 0 hvu0 hlu0 ?_;refine eP ?_;refine rD ?_;refine zK hhu0 hku0 ?_;refine eR ?_;refine dR ?_;refine bW rfl rfl rfl rfl ?_;refine aq rfl rfl rfl ?_;generalize hf4:A2.aa=f4;refine gm (n:=2) (cs:=bc (0,[])) hw h T rfl hf4 ?_;intro A3 x4 p4 o3 c4 T;obtain⟨c2,c3⟩:=o3.k2 c2 c3;replace N:=N.k o3;replace Nu0:=Nu0.k o3;refine oP ?_;refine aC ?_;refine zC rfl (bT n T.Fi.wf T.ps.bo Nu0 ⟨e0,hk u0 (mG hu0)⟩) ?_;rintro r A4 ⟨y4,b4,rfl,t4,z4⟩;replace T:=T.step hw rfl t4;obtain⟨c2,c3,c4⟩:=t4.Fi.k3 c2 c3 c4;replace N:=t4.bl N;refine sA ?_;refine aC ?_;refine zS c4 ?_;refine jk (cs:=bc y4) hw h T rfl x4 p4 c4 ?_;intro A5 o5 c4 T;obtain⟨c2,c3⟩:=o5.k2 c2 c3;replace N:=N.k o5;refine sA ?_;refine eD ?_;refine wL c3 ?_;refine zC rfl (ah (Y:=(Y.set Y.vv Y.lv Y.vars Y.locks)) T.Fi.wf T.ps.bo) ?_;rintro r A6 ⟨rfl,t6⟩;replace T:=T.step hw rfl t6
   replace c2:=t6.Fi.ae _ _ c2 fun e=>p2 (.inl e);replace c3:=t6.Fi.ae _ _ c3 fun e=>p3 (.inl e);replace N:=t6.bl N;refine gO ?_;refine bQ (Q:=fun r=>aI A6 (fun g=>g<Y.X.M) (jT (t.l.drop 1)) r) rfl rfl rfl rfl rfl (mK N (List.length_pos_iff.2 fun e=>by rw[e] at hu0;cases hu0)) ?_;intro v53 N2;generalize hus:t.l.drop 1=us at N2;have hu9:us.length≤9000:=N2.len;have hlv2:bm v53=some us.length:=N2.bm;generalize hbb:(decide (y4.1≠1) || b4)=b0 at T;clear c4 p4;refine wJ hlv2 ?_;refine aE ?_;refine yL (pp 2 f2 (pv 53 v53 (pn 54 us.length (pn 55 0 .nil)))) ?_
   refine aV (ι:=Nat) (fun i=>us.length-i) (fun i=>(pp 2 f2 (pv 53 v53 (pn 54 us.length (pn 55 i .nil))))) (fun i B=>∃vv lv b1,ST A B Y (Y.set vv lv Y.vars Y.locks) false b1∧gt B f2 1 [.ptr Y.fb 0 0]∧¬(Y.set vv lv Y.vars Y.locks).mod f2∧aI B (fun g=>g<Y.X.M) (jT us) v53∧A.aa≤B.aa∧i≤us.length∧(b1=false↔b0=false∧(us.take i).all (fun u=>(cP (Y.ev n) m Y.locks Y.vars u).isSome)=true)) ?_ 0 A6
    ⟨Y.vv,Y.lv,b0,T,c2,p2,N2,T.Fi.aa,Nat.zero_le _,fun h=>⟨h,rfl⟩,fun h=>h.1⟩
   clear T c2 c3 p2 p3 N N2;rintro i A7 ⟨vv,lv,b1,T,c2,p2,N2,mB,hi,hz⟩ ih;refine wD (fun hlt=>?_) fun hge=>?_
   ·have hlt:i<us.length:=Int.ofNat_lt.1 hlt;have hu:us[i]?=some us[i]:=gE hlt;generalize hx:us[i]=u at hu;have hum:u∈us:=by rw[←hx];exact List.getElem_mem hlt
    have hut:u∈t.l:=List.mem_of_mem_drop (by rw[hus];exact hum);obtain⟨fku,sku,oku,cku,eku,rku,aku,ku,hvu,hsu,hhu,hlu,Nu,htu⟩:=bv N2 hu;have hku:takeN 6 (aB (Nat.add oku (Nat.mul i 6)) aku)=some (au u ku):=(htu 6 0 (Nat.le_refl _)).trans rfl;refine wI hvu hlu ?_;refine wK hhu hku ?_;refine aq rfl rfl rfl ?_;refine zS (by rw[AW.add_get,iP rfl]) ?_;generalize hf6:A7.aa=f6;refine iK (n:=6) (cs:=au u ku) hw h T rfl hf6 ?_;intro A8 x6 p6 o8 c6 T;replace c2:=o8.k c2;replace N2:=N2.k o8;replace Nu:=Nu.k o8;have l8:=T.Fi.wf _ _ c6;refine gO ?_;refine dG rfl rfl rfl ?_;refine wC (kf (Y:=(Y.set vv lv Y.vars Y.locks)) T.Fi.wf T.ps bF rfl (DB (Y:=(Y.set vv lv Y.vars Y.locks)) hS T.Fi.wf T.ps Nu ⟨hr u (by rw[hus];exact hum),hk u hut⟩ (by show Y.vars.length+9001*m+2≤_;omega) c6 c2 p6 p2)) ?_;rintro r A9 ⟨vv9,lv9,ws9,b9,t9,n9,z9⟩
    obtain⟨c2',p2'⟩:=t9.dg T.Fi.wf rfl c2 p2;replace c2:=c2';replace p2:=p2';clear c2' p2';obtain⟨c6',p6'⟩:=t9.dg T.Fi.wf rfl c6 p6;replace p6:=p6';clear c6' p6';replace N2:=t9.bl T.ps N2;replace T:ST A A9 Y (Y.set vv9 lv9 (Y.vars++ws9) Y.locks) false b9:=T.then hw rfl t9;have m9:=t9.Fi.aa;obtain rfl:ws9=[]:=List.eq_nil_of_length_eq_zero om;rw[aN] at T p2;refine wP ?_;refine ai ?_;refine yL (pp 2 f2 (pv 53 v53 (pn 54 us.length (pn 55 (i+1:Nat) .nil)))) ?_;refine ih (i+1) A9 om ⟨vv9,lv9,b9,T,c2,p2,N2,om,hlt,?_⟩;rw[tS hlt,hx,List.all_append];refine rP hz t9.bad fun hb=>?_;have hq:=z9 hb;cases hr':cP (Y.ev n) m Y.locks Y.vars u with
    | none=>
     rw[show cP ((Y.set vv lv Y.vars Y.locks).ev n) m (Y.set vv lv Y.vars Y.locks).locks (Y.set vv lv Y.vars Y.locks).vars u=none from hr'] at hq;have hq:b9=true:=hq;rw[hq];exact⟨fun h=>(by cases h),fun h=>(by cases h)⟩
    | some w=>
     rw[show cP ((Y.set vv lv Y.vars Y.locks).ev n) m (Y.set vv lv Y.vars Y.locks).locks (Y.set vv lv Y.vars Y.locks).vars u=some w from hr'] at hq;exact⟨fun _=>rfl,fun _=>hq.1⟩
   have hge:i=us.length:=by
    omega
   refine ay rfl ?_;rw[hge,tL] at hz;have hv:=z4 rfl;have hv:match (Y.ev n).ty Y.vars (ba t) with
    | none=>b4=true
    | some w=>b4=false∧y4=w:=by
    rw[aW hu0];exact hv
   refine gO ?_;refine bd rfl ?_;refine⟨vv,lv,[],b1,by rw[aN];exact T,Nat.zero_le _,fun _=>?_⟩;rw[show cP (Y.ev n) (m+1) Y.locks Y.vars t=_ from (iN k7).trans ((iN k8).trans ((iN k9).trans (iP (show t.k=10∨t.k=11 from .inl k10)))),aN];exact zZ hv hbb hus hz
  refine wD (fun k11=>?_) fun k11=>?_
  ·obtain⟨u0,hu0,e0,hr⟩:=st_11 hP k11;refine gO ?_;obtain⟨fku0,sku0,oku0,cku0,eku0,rku0,aku0,ku0,hvu0,hsu0,hhu0,hlu0,Nu0,htu0⟩:=bv N hu0;have hku0:takeN 6 (aB (Nat.add oku0 (Nat.mul 0 6)) aku0)=some (au u0 ku0):=(htu0 6 0 (Nat.le_refl _)).trans rfl;obtain⟨fe,hpc⟩:=T.ps.bo.eO.cell;refine tD ?_;refine ax rfl rfl rfl rfl rfl ?_
   try refine aM rfl ?_
   refine zI 0 hvu0 hlu0 ?_;refine eP ?_;refine rD ?_;refine zK hhu0 hku0 ?_;refine eR ?_;refine dR ?_;refine bW rfl rfl rfl rfl ?_;refine aq rfl rfl rfl ?_;generalize hf4:A2.aa=f4;refine gm (n:=2) (cs:=bc (0,[])) hw h T rfl hf4 ?_;intro A3 x4 p4 o3 c4 T;obtain⟨c2,c3⟩:=o3.k2 c2 c3;replace N:=N.k o3;replace Nu0:=Nu0.k o3;refine oP ?_;refine aC ?_;refine zC rfl (bT n T.Fi.wf T.ps.bo Nu0 ⟨e0,hk u0 (mG hu0)⟩) ?_;rintro r A4 ⟨y4,b4,rfl,t4,z4⟩;replace T:=T.step hw rfl t4;obtain⟨c2,c3,c4⟩:=t4.Fi.k3 c2 c3 c4;replace N:=t4.bl N;refine sA ?_;refine aC ?_;refine zS c4 ?_;refine jk (cs:=bc y4) hw h T rfl x4 p4 c4 ?_;intro A5 o5 c4 T;obtain⟨c2,c3⟩:=o5.k2 c2 c3;replace N:=N.k o5;refine sA ?_;refine eD ?_;refine wL c3 ?_;refine zC rfl (ah (Y:=(Y.set Y.vv Y.lv Y.vars Y.locks)) T.Fi.wf T.ps.bo) ?_;rintro r A6 ⟨rfl,t6⟩;replace T:=T.step hw rfl t6
   replace c2:=t6.Fi.ae _ _ c2 fun e=>p2 (.inl e);replace c3:=t6.Fi.ae _ _ c3 fun e=>p3 (.inl e);replace N:=t6.bl N;refine gO ?_;refine bQ (Q:=fun r=>aI A6 (fun g=>g<Y.X.M) (jT (t.l.drop 1)) r) rfl rfl rfl rfl rfl (mK N (List.length_pos_iff.2 fun e=>by rw[e] at hu0;cases hu0)) ?_;intro v53 N2;generalize hus:t.l.drop 1=us at N2;have hu9:us.length≤9000:=N2.len;have hlv2:bm v53=some us.length:=N2.bm;generalize hbb:(decide (y4.1≠1) || b4)=b0 at T;clear c4 p4;refine wJ hlv2 ?_;refine aE ?_;refine yL (pp 2 f2 (pv 53 v53 (pn 54 us.length (pn 55 0 .nil)))) ?_
   refine aV (ι:=Nat) (fun i=>us.length-i) (fun i=>(pp 2 f2 (pv 53 v53 (pn 54 us.length (pn 55 i .nil))))) (fun i B=>∃vv lv b1,ST A B Y (Y.set vv lv Y.vars Y.locks) false b1∧gt B f2 1 [.ptr Y.fb 0 0]∧¬(Y.set vv lv Y.vars Y.locks).mod f2∧aI B (fun g=>g<Y.X.M) (jT us) v53∧A.aa≤B.aa∧i≤us.length∧(b1=false↔b0=false∧(us.take i).all (fun u=>(cP (Y.ev n) m Y.locks Y.vars u).isSome)=true)) ?_ 0 A6
    ⟨Y.vv,Y.lv,b0,T,c2,p2,N2,T.Fi.aa,Nat.zero_le _,fun h=>⟨h,rfl⟩,fun h=>h.1⟩
   clear T c2 c3 p2 p3 N N2;rintro i A7 ⟨vv,lv,b1,T,c2,p2,N2,mB,hi,hz⟩ ih;refine wD (fun hlt=>?_) fun hge=>?_
   ·have hlt:i<us.length:=Int.ofNat_lt.1 hlt;have hu:us[i]?=some us[i]:=gE hlt;generalize hx:us[i]=u at hu;have hum:u∈us:=by rw[←hx];exact List.getElem_mem hlt
    have hut:u∈t.l:=List.mem_of_mem_drop (by rw[hus];exact hum);obtain⟨fku,sku,oku,cku,eku,rku,aku,ku,hvu,hsu,hhu,hlu,Nu,htu⟩:=bv N2 hu;have hku:takeN 6 (aB (Nat.add oku (Nat.mul i 6)) aku)=some (au u ku):=(htu 6 0 (Nat.le_refl _)).trans rfl;refine wI hvu hlu ?_;refine wK hhu hku ?_;refine aq rfl rfl rfl ?_;refine zS (by rw[AW.add_get,iP rfl]) ?_;generalize hf6:A7.aa=f6;refine iK (n:=6) (cs:=au u ku) hw h T rfl hf6 ?_;intro A8 x6 p6 o8 c6 T;replace c2:=o8.k c2;replace N2:=N2.k o8;replace Nu:=Nu.k o8;have l8:=T.Fi.wf _ _ c6;refine gO ?_;refine dG rfl rfl rfl ?_;refine wC (kf (Y:=(Y.set vv lv Y.vars Y.locks)) T.Fi.wf T.ps bF rfl (DB (Y:=(Y.set vv lv Y.vars Y.locks)) hS T.Fi.wf T.ps Nu ⟨hr u (by rw[hus];exact hum),hk u hut⟩ (by show Y.vars.length+9001*m+2≤_;omega) c6 c2 p6 p2)) ?_;rintro r A9 ⟨vv9,lv9,ws9,b9,t9,n9,z9⟩
    obtain⟨c2',p2'⟩:=t9.dg T.Fi.wf rfl c2 p2;replace c2:=c2';replace p2:=p2';clear c2' p2';obtain⟨c6',p6'⟩:=t9.dg T.Fi.wf rfl c6 p6;replace p6:=p6';clear c6' p6';replace N2:=t9.bl T.ps N2;replace T:ST A A9 Y (Y.set vv9 lv9 (Y.vars++ws9) Y.locks) false b9:=T.then hw rfl t9;have m9:=t9.Fi.aa;obtain rfl:ws9=[]:=List.eq_nil_of_length_eq_zero om;rw[aN] at T p2;refine wP ?_;refine ai ?_;refine yL (pp 2 f2 (pv 53 v53 (pn 54 us.length (pn 55 (i+1:Nat) .nil)))) ?_;refine ih (i+1) A9 om ⟨vv9,lv9,b9,T,c2,p2,N2,om,hlt,?_⟩;rw[tS hlt,hx,List.all_append];refine rP hz t9.bad fun hb=>?_;have hq:=z9 hb;cases hr':cP (Y.ev n) m Y.locks Y.vars u with
    | none=>
     rw[show cP ((Y.set vv lv Y.vars Y.locks).ev n) m (Y.set vv lv Y.vars Y.locks).locks (Y.set vv lv Y.vars Y.locks).vars u=none from hr'] at hq;have hq:b9=true:=hq;rw[hq];exact⟨fun h=>(by cases h),fun h=>(by cases h)⟩
    | some w=>
     rw[show cP ((Y.set vv lv Y.vars Y.locks).ev n) m (Y.set vv lv Y.vars Y.locks).locks (Y.set vv lv Y.vars Y.locks).vars u=some w from hr'] at hq;exact⟨fun _=>rfl,fun _=>hq.1⟩
   have hge:i=us.length:=by
    omega
   refine ay rfl ?_;rw[hge,tL] at hz;have hv:=z4 rfl;have hv:match (Y.ev n).ty Y.vars (ba t) with
    | none=>b4=true
    | some w=>b4=false∧y4=w:=by
    rw[aW hu0];exact hv
   refine gO ?_;refine bd rfl ?_;refine⟨vv,lv,[],b1,by rw[aN];exact T,Nat.zero_le _,fun _=>?_⟩;rw[show cP (Y.ev n) (m+1) Y.locks Y.vars t=_ from (iN k7).trans ((iN k8).trans ((iN k9).trans (iP (show t.k=10∨t.k=11 from .inr k11)))),aN];exact zZ hv hbb hus hz
  refine wD (fun k12=>?_) fun k12=>?_
  ·refine wJ hlv ?_;refine zG (fun hl0=>?_) fun hl0=>?_
   ·have hl0:t.l.length=0:=Int.ofNat.inj hl0;have hc:=T.ps.bo.cell;obtain⟨fe,hpc⟩:=T.ps.bo.eO.cell;refine tD ?_;refine rD ?_;refine zL c3 ?_;refine eR ?_;refine aC ?_;refine zC rfl (ah (Y:=(Y.set Y.vv Y.lv Y.vars Y.locks)) T.Fi.wf T.ps.bo) ?_;rintro r A3 ⟨rfl,t3⟩;replace T:=T.step hw rfl t3;refine sA ?_;refine eD ?_;refine af rfl ?_;exact⟨Y.vv,Y.lv,[],_,by rw[aN];exact T,Nat.zero_le _,fun _=>by
     rw[show cP (Y.ev n) (m+1) Y.locks Y.vars t=_ from (iN k7).trans ((iN k8).trans ((iN k9).trans ((iN (show ¬(t.k=10∨t.k=11) from fun h=>h.elim k10 k11)).trans ((iP k12).trans (iP hl0))))),aN];show match (if Y.ret.1=0 then some Y.vars else none:Option Vs) with
      | none=>(decide (Y.ret.1≠0) || false)=true
      | some vs=>(decide (Y.ret.1≠0) || false)=false∧vs=Y.vars
     by_cases hr:Y.ret.1=0
     ·rw[iP hr,yF fun h=>h hr];exact⟨rfl,rfl⟩
     ·rw[iN hr,yT hr];rfl⟩
   have hl0:¬t.l.length=0:=fun e=>hl0 (congrArg Int.ofNat e);obtain⟨u0,hu0,e0⟩:=st_12 hP k12 hl0;refine gO ?_;obtain⟨fku0,sku0,oku0,cku0,eku0,rku0,aku0,ku0,hvu0,hsu0,hhu0,hlu0,Nu0,htu0⟩:=bv N hu0;have hku0:takeN 6 (aB (Nat.add oku0 (Nat.mul 0 6)) aku0)=some (au u0 ku0):=(htu0 6 0 (Nat.le_refl _)).trans rfl;obtain⟨fe,hpc⟩:=T.ps.bo.eO.cell;refine tD ?_;refine ax rfl rfl rfl rfl rfl ?_
   try refine aM rfl ?_
   refine zI 0 hvu0 hlu0 ?_;refine eP ?_;refine rD ?_;refine zK hhu0 hku0 ?_;refine eR ?_;refine dR ?_;refine bW rfl rfl rfl rfl ?_;refine aq rfl rfl rfl ?_;generalize hf7:A2.aa=f7;refine gm (n:=2) (cs:=bc (0,[])) hw h T rfl hf7 ?_;intro A3 x7 p7 o3 c7 T;obtain⟨c2,c3⟩:=o3.k2 c2 c3;replace Nu0:=Nu0.k o3;refine oP ?_;refine aC ?_;refine zC rfl (bT n T.Fi.wf T.ps.bo Nu0 ⟨e0,hk u0 (mG hu0)⟩) ?_;rintro r A4 ⟨y4,b4,rfl,t4,z4⟩;replace T:=T.step hw rfl t4;obtain⟨c2,c3,c7⟩:=t4.Fi.k3 c2 c3 c7;refine sA ?_;refine aC ?_;refine zS c7 ?_;refine jk (cs:=bc y4) hw h T rfl x7 p7 c7 ?_;intro A5 o5 c7 T;obtain⟨c2,c3⟩:=o5.k2 c2 c3;refine sA ?_;refine aK ?_;have hc:=T.ps.bo.cell;obtain⟨fe,hpc⟩:=T.ps.bo.eO.cell;refine tD ?_;by_cases hr0:Y.ret.1=0
   ·refine aL 91 true rfl (yT hr0) ?_;refine dO ?_;refine rD ?_;refine zL c3 ?_;refine eR ?_;refine aC ?_;refine sA ?_;refine dO ?_;refine aC ?_;refine zC rfl (ah (Y:=(Y.set Y.vv Y.lv Y.vars Y.locks)) T.Fi.wf T.ps.bo) ?_;rintro r A6 ⟨rfl,t6⟩;replace T:=T.step hw rfl t6;refine sA ?_;refine eD ?_;refine bd rfl ?_;exact⟨Y.vv,Y.lv,[],_,by rw[aN];exact T,Nat.zero_le _,fun _=>by
     rw[show cP (Y.ev n) (m+1) Y.locks Y.vars t=_ from (iN k7).trans ((iN k8).trans ((iN k9).trans ((iN (show ¬(t.k=10∨t.k=11) from fun h=>h.elim k10 k11)).trans ((iP k12).trans (iN hl0))))),aN];have hz:=z4 rfl;have hz:match (Y.ev n).ty Y.vars (ba t) with
      | none=>b4=true
      | some w=>b4=false∧y4=w:=by
      rw[aW hu0];exact hz
     refine dA hz ?_;exact congrArg (fun x=>x || b4) (show true=!(decide (Y.ret.1≠0∧bI Y.X.hs y4 Y.ret)) by rw[yF fun h=>h.1 hr0];rfl)⟩
   ·refine aL 91 false rfl (yF hr0) ?_;refine rD ?_;refine zL c7 ?_;refine eR ?_;refine rD ?_;refine bS (vs:=bc Y.ret) rfl rfl rfl rfl hc rfl ?_;refine eR ?_;refine rD ?_;refine zL c3 ?_;refine eR ?_;refine aC ?_;refine cY rfl rfl bF rfl (iu T.Fi.wf T.ps.bo) ?_;rintro r A6 ⟨rfl,o6⟩;replace T:=T.quiet hw o6;obtain⟨c2,c3⟩:=o6.k2 c2 c3;obtain⟨fe,hpc⟩:=T.ps.bo.eO.cell;refine sA ?_;refine aC ?_;refine zC rfl (ah (Y:=(Y.set Y.vv Y.lv Y.vars Y.locks)) T.Fi.wf T.ps.bo) ?_;rintro r A7 ⟨rfl,t7⟩;replace T:=T.step hw rfl t7;refine sA ?_;refine eD ?_;refine bd rfl ?_;exact⟨Y.vv,Y.lv,[],_,by rw[aN];exact T,Nat.zero_le _,fun _=>by
     rw[show cP (Y.ev n) (m+1) Y.locks Y.vars t=_ from (iN k7).trans ((iN k8).trans ((iN k9).trans ((iN (show ¬(t.k=10∨t.k=11) from fun h=>h.elim k10 k11)).trans ((iP k12).trans (iN hl0))))),aN];have hz:=z4 rfl;have hz:match (Y.ev n).ty Y.vars (ba t) with
      | none=>b4=true
      | some w=>b4=false∧y4=w:=by
      rw[aW hu0];exact hz
     refine dA hz ?_;exact congrArg (fun x=>x || b4) (show (!decide (bI Y.X.hs y4 Y.ret))=!(decide (Y.ret.1≠0∧bI Y.X.hs y4 Y.ret)) from congrArg not (decide_eq_decide.2 ⟨fun h=>⟨hr0,h⟩,fun h=>h.2⟩))⟩
  refine wD (fun k13=>?_) fun k13=>?_
  ·refine gO ?_;refine cD rfl (fun _=>?_) fun h=>absurd k13 h;obtain⟨u0,hu0,e0⟩:=gU hP om;refine gO ?_;obtain⟨fku0,sku0,oku0,cku0,eku0,rku0,aku0,ku0,hvu0,hsu0,hhu0,hlu0,Nu0,htu0⟩:=bv N hu0;have hku0:takeN 6 (aB (Nat.add oku0 (Nat.mul 0 6)) aku0)=some (au u0 ku0):=(htu0 6 0 (Nat.le_refl _)).trans rfl;obtain⟨fe,hpc⟩:=T.ps.bo.eO.cell;refine tD ?_;refine ax rfl rfl rfl rfl rfl ?_
   try refine aM rfl ?_
   refine zI 0 hvu0 hlu0 ?_;refine eP ?_;refine rD ?_;refine zK hhu0 hku0 ?_;refine eR ?_;refine dR ?_;refine bW rfl rfl rfl rfl ?_;refine aq rfl rfl rfl ?_;generalize hf8:A2.aa=f8;refine gm (n:=2) (cs:=bc (0,[])) hw h T rfl hf8 ?_;intro A3 x8 p8 o3 c8 T;obtain⟨c2,c3⟩:=o3.k2 c2 c3;replace Nu0:=Nu0.k o3;refine oP ?_;refine aC ?_;refine zC rfl (bT n T.Fi.wf T.ps.bo Nu0 ⟨e0,hk u0 (mG hu0)⟩) ?_;rintro r A4 ⟨y4,b4,rfl,t4,z4⟩;replace T:=T.step hw rfl t4;obtain⟨c2,c3,c8⟩:=t4.Fi.k3 c2 c3 c8;refine sA ?_;refine aC ?_;refine zS c8 ?_;refine jk (cs:=bc y4) hw h T rfl x8 p8 c8 ?_;intro A5 o5 c8 T;obtain⟨c2,c3⟩:=o5.k2 c2 c3;refine sA ?_;refine aK ?_;obtain⟨fe,hpc⟩:=T.ps.bo.eO.cell;refine tD ?_;refine rD ?_;refine zL c8 ?_;refine eR ?_;refine rD ?_;refine zL c3 ?_;refine eR ?_;refine aC ?_;refine zC rfl (gT T.Fi.wf) ?_;rintro r A6 ⟨rfl,o6⟩
   replace T:=T.quiet hw o6;obtain⟨c2,c3⟩:=o6.k2 c2 c3;obtain⟨fe,hpc⟩:=T.ps.bo.eO.cell;refine sA ?_;refine aC ?_;refine zC rfl (ah (Y:=(Y.set Y.vv Y.lv Y.vars Y.locks)) T.Fi.wf T.ps.bo) ?_;rintro r A7 ⟨rfl,t7⟩;replace T:=T.step hw rfl t7;refine sA ?_;refine eD ?_;refine bd rfl ?_;exact⟨Y.vv,Y.lv,[],_,by rw[aN];exact T,Nat.zero_le _,fun _=>by
    rw[show cP (Y.ev n) (m+1) Y.locks Y.vars t=_ from (iN k7).trans ((iN k8).trans ((iN k9).trans ((iN (show ¬(t.k=10∨t.k=11) from fun h=>h.elim k10 k11)).trans ((iN k12).trans (iP (show t.k=13∨t.k=16∨t.k=17∨t.k=18 from .inl k13)))))),aN];have hz:=z4 rfl;have hz:match (Y.ev n).ty Y.vars (ba t) with
     | none=>b4=true
     | some w=>b4=false∧y4=w:=by
     rw[aW hu0];exact hz
    refine dA hz ?_;rfl⟩
  refine wD (fun k16=>?_) fun k16=>?_
  ·refine gO ?_;refine cD rfl (fun _=>?_) fun h=>absurd k16 h;obtain⟨u0,hu0,e0⟩:=gU hP om;refine gO ?_;obtain⟨fku0,sku0,oku0,cku0,eku0,rku0,aku0,ku0,hvu0,hsu0,hhu0,hlu0,Nu0,htu0⟩:=bv N hu0;have hku0:takeN 6 (aB (Nat.add oku0 (Nat.mul 0 6)) aku0)=some (au u0 ku0):=(htu0 6 0 (Nat.le_refl _)).trans rfl;obtain⟨fe,hpc⟩:=T.ps.bo.eO.cell;refine tD ?_;refine ax rfl rfl rfl rfl rfl ?_
   try refine aM rfl ?_
   refine zI 0 hvu0 hlu0 ?_;refine eP ?_;refine rD ?_;refine zK hhu0 hku0 ?_;refine eR ?_;refine dR ?_;refine bW rfl rfl rfl rfl ?_;refine aq rfl rfl rfl ?_;generalize hf8:A2.aa=f8;refine gm (n:=2) (cs:=bc (0,[])) hw h T rfl hf8 ?_;intro A3 x8 p8 o3 c8 T;obtain⟨c2,c3⟩:=o3.k2 c2 c3;replace Nu0:=Nu0.k o3;refine oP ?_;refine aC ?_;refine zC rfl (bT n T.Fi.wf T.ps.bo Nu0 ⟨e0,hk u0 (mG hu0)⟩) ?_;rintro r A4 ⟨y4,b4,rfl,t4,z4⟩;replace T:=T.step hw rfl t4;obtain⟨c2,c3,c8⟩:=t4.Fi.k3 c2 c3 c8;refine sA ?_;refine aC ?_;refine zS c8 ?_;refine jk (cs:=bc y4) hw h T rfl x8 p8 c8 ?_;intro A5 o5 c8 T;obtain⟨c2,c3⟩:=o5.k2 c2 c3;refine sA ?_;refine aK ?_;obtain⟨fe,hpc⟩:=T.ps.bo.eO.cell;refine tD ?_;refine rD ?_;refine zL c8 ?_;refine eR ?_;refine rD ?_;refine zL c3 ?_;refine eR ?_;refine aC ?_;refine zC rfl (gT T.Fi.wf) ?_;rintro r A6 ⟨rfl,o6⟩
   replace T:=T.quiet hw o6;obtain⟨c2,c3⟩:=o6.k2 c2 c3;obtain⟨fe,hpc⟩:=T.ps.bo.eO.cell;refine sA ?_;refine aC ?_;refine zC rfl (ah (Y:=(Y.set Y.vv Y.lv Y.vars Y.locks)) T.Fi.wf T.ps.bo) ?_;rintro r A7 ⟨rfl,t7⟩;replace T:=T.step hw rfl t7;refine sA ?_;refine eD ?_;refine bd rfl ?_;exact⟨Y.vv,Y.lv,[],_,by rw[aN];exact T,Nat.zero_le _,fun _=>by
    rw[show cP (Y.ev n) (m+1) Y.locks Y.vars t=_ from (iN k7).trans ((iN k8).trans ((iN k9).trans ((iN (show ¬(t.k=10∨t.k=11) from fun h=>h.elim k10 k11)).trans ((iN k12).trans (iP (show t.k=13∨t.k=16∨t.k=17∨t.k=18 from .inr (.inl k16))))))),aN];have hz:=z4 rfl;have hz:match (Y.ev n).ty Y.vars (ba t) with
     | none=>b4=true
     | some w=>b4=false∧y4=w:=by
     rw[aW hu0];exact hz
    refine dA hz ?_;rfl⟩
  refine wD (fun k17=>?_) fun k17=>?_
  ·refine gO ?_;refine cD rfl (fun _=>?_) fun h=>absurd k17 h;obtain⟨u0,hu0,e0⟩:=gU hP om;refine gO ?_;obtain⟨fku0,sku0,oku0,cku0,eku0,rku0,aku0,ku0,hvu0,hsu0,hhu0,hlu0,Nu0,htu0⟩:=bv N hu0;have hku0:takeN 6 (aB (Nat.add oku0 (Nat.mul 0 6)) aku0)=some (au u0 ku0):=(htu0 6 0 (Nat.le_refl _)).trans rfl;obtain⟨fe,hpc⟩:=T.ps.bo.eO.cell;refine tD ?_;refine ax rfl rfl rfl rfl rfl ?_
   try refine aM rfl ?_
   refine zI 0 hvu0 hlu0 ?_;refine eP ?_;refine rD ?_;refine zK hhu0 hku0 ?_;refine eR ?_;refine dR ?_;refine bW rfl rfl rfl rfl ?_;refine aq rfl rfl rfl ?_;generalize hf8:A2.aa=f8;refine gm (n:=2) (cs:=bc (0,[])) hw h T rfl hf8 ?_;intro A3 x8 p8 o3 c8 T;obtain⟨c2,c3⟩:=o3.k2 c2 c3;replace Nu0:=Nu0.k o3;refine oP ?_;refine aC ?_;refine zC rfl (bT n T.Fi.wf T.ps.bo Nu0 ⟨e0,hk u0 (mG hu0)⟩) ?_;rintro r A4 ⟨y4,b4,rfl,t4,z4⟩;replace T:=T.step hw rfl t4;obtain⟨c2,c3,c8⟩:=t4.Fi.k3 c2 c3 c8;refine sA ?_;refine aC ?_;refine zS c8 ?_;refine jk (cs:=bc y4) hw h T rfl x8 p8 c8 ?_;intro A5 o5 c8 T;obtain⟨c2,c3⟩:=o5.k2 c2 c3;refine sA ?_;refine aK ?_;obtain⟨fe,hpc⟩:=T.ps.bo.eO.cell;refine tD ?_;refine rD ?_;refine zL c8 ?_;refine eR ?_;refine rD ?_;refine zL c3 ?_;refine eR ?_;refine aC ?_;refine zC rfl (gT T.Fi.wf) ?_;rintro r A6 ⟨rfl,o6⟩
   replace T:=T.quiet hw o6;obtain⟨c2,c3⟩:=o6.k2 c2 c3;obtain⟨fe,hpc⟩:=T.ps.bo.eO.cell;refine sA ?_;refine aC ?_;refine zC rfl (ah (Y:=(Y.set Y.vv Y.lv Y.vars Y.locks)) T.Fi.wf T.ps.bo) ?_;rintro r A7 ⟨rfl,t7⟩;replace T:=T.step hw rfl t7;refine sA ?_;refine eD ?_;refine bd rfl ?_;exact⟨Y.vv,Y.lv,[],_,by rw[aN];exact T,Nat.zero_le _,fun _=>by
    rw[show cP (Y.ev n) (m+1) Y.locks Y.vars t=_ from (iN k7).trans ((iN k8).trans ((iN k9).trans ((iN (show ¬(t.k=10∨t.k=11) from fun h=>h.elim k10 k11)).trans ((iN k12).trans (iP (show t.k=13∨t.k=16∨t.k=17∨t.k=18 from .inr (.inr (.inl k17)))))))),aN];have hz:=z4 rfl;have hz:match (Y.ev n).ty Y.vars (ba t) with
     | none=>b4=true
     | some w=>b4=false∧y4=w:=by
     rw[aW hu0];exact hz
    refine dA hz ?_;rfl⟩
  refine wD (fun k18=>?_) fun k18=>?_
  ·obtain⟨u0,hu0,e0⟩:=gU hP om;refine gO ?_;obtain⟨fku0,sku0,oku0,cku0,eku0,rku0,aku0,ku0,hvu0,hsu0,hhu0,hlu0,Nu0,htu0⟩:=bv N hu0;have hku0:takeN 6 (aB (Nat.add oku0 (Nat.mul 0 6)) aku0)=some (au u0 ku0):=(htu0 6 0 (Nat.le_refl _)).trans rfl;have hnu0:=Nu0.bh;have hc:=T.ps.bo.cell;obtain⟨fe,hpc⟩:=T.ps.bo.eO.cell;refine tD ?_;refine ax rfl rfl rfl rfl rfl ?_
   try refine aM rfl ?_
   refine zI 0 hvu0 hlu0 ?_;refine eP ?_;refine rD ?_;refine zK hhu0 hku0 ?_;refine eR ?_;refine dR ?_;refine bW rfl rfl rfl rfl ?_;refine aq rfl rfl rfl ?_;generalize hf8:A2.aa=f8;refine gm (n:=2) (cs:=bc (0,[])) hw h T rfl hf8 ?_;intro A3 x8 p8 o3 c8 T;obtain⟨c2,c3⟩:=o3.k2 c2 c3;replace N:=N.k o3;replace Nu0:=Nu0.k o3;have m3:=o3.aa;have l3:=T.Fi.wf _ _ c8;refine oP ?_;refine aC ?_;refine zC rfl (bT n T.Fi.wf T.ps.bo Nu0 ⟨e0,hk u0 (mG hu0)⟩) ?_;rintro r A4 ⟨y4,b4,rfl,t4,z4⟩;replace T:=T.step hw rfl t4;obtain⟨c2,c3,c8⟩:=t4.Fi.k3 c2 c3 c8;replace N:=t4.bl N;replace Nu0:=t4.bl Nu0;have m4:=t4.Fi.aa;refine sA ?_;refine aC ?_;refine zS c8 ?_;refine jk (cs:=bc y4) hw h T rfl x8 p8 c8 ?_;intro A5 o5 c8 T;obtain⟨c2,c3⟩:=o5.k2 c2 c3;replace N:=N.k o5;have m5:=o5.aa;refine sA ?_;refine aK ?_
   have hsy:dC (.agg (bc y4)) (.agg (bc y4))=true:=rN;have hc:=T.ps.bo.cell;obtain⟨fe,hpc⟩:=T.ps.bo.eO.cell;refine tD ?_;refine rD ?_;refine zL c8 ?_;refine eR ?_;refine rD ?_;refine zL c3 ?_;refine eR ?_;refine aC ?_;refine zC rfl (gT T.Fi.wf) ?_;rintro r A6 ⟨rfl,o6⟩;replace T:=T.quiet hw o6;obtain⟨c2,c3,c8⟩:=o6.k3 c2 c3 c8;replace N:=N.k o6;have m6:=o6.aa;have hc:=T.ps.bo.cell;obtain⟨fe,hpc⟩:=T.ps.bo.eO.cell;refine sA ?_;refine aC ?_;refine zC rfl (ah (Y:=(Y.set Y.vv Y.lv Y.vars Y.locks)) T.Fi.wf T.ps.bo) ?_;rintro r A7 ⟨rfl,t7⟩;replace T:=T.step hw rfl t7;replace c2:=t7.Fi.ae _ _ c2 fun e=>p2 (.inl e);replace c3:=t7.Fi.ae _ _ c3 fun e=>p3 (.inl e);replace c8:=t7.Fi.ae _ _ c8 fun e=>p8 (.inl e);replace N:=t7.bl N;have m7:=t7.Fi.aa;refine sA ?_;refine eD ?_;refine bd rfl ?_
   exact⟨Y.vv,Y.lv,[],_,by rw[aN];exact T,Nat.zero_le _,fun _=>by
    rw[show cP (Y.ev n) (m+1) Y.locks Y.vars t=_ from (iN k7).trans ((iN k8).trans ((iN k9).trans ((iN (show ¬(t.k=10∨t.k=11) from fun h=>h.elim k10 k11)).trans ((iN k12).trans (iP (show t.k=13∨t.k=16∨t.k=17∨t.k=18 from .inr (.inr (.inr k18)))))))),aN];have hz:=z4 rfl;have hz:match (Y.ev n).ty Y.vars (ba t) with
     | none=>b4=true
     | some w=>b4=false∧y4=w:=by
     rw[aW hu0];exact hz
    refine dA hz ?_;rfl⟩
  refine wD (fun k14=>?_) fun k14=>?_
  ·obtain⟨u0,u1,u2,hl,e0,e2⟩:=st_14 hP k14;have hu0:t.l[0]?=some u0:=by rw[hl];rfl
   have hu1:t.l[1]?=some u1:=by rw[hl];rfl
   have hu2:t.l[2]?=some u2:=by rw[hl];rfl
   refine wL c3 ?_;refine zC rfl (Ck hS (Y:=Y) T.Fi.wf T.ps N hu0 hu1 hu2 ⟨e0,hk u0 (mG hu0)⟩ ⟨e2,hk u2 (mG hu2)⟩ om) ?_;rintro r A3 ⟨vv3,lv3,ws3,b3,t3,n3,z3⟩;obtain⟨c2',p2'⟩:=t3.dg T.Fi.wf rfl c2 p2;clear c2' p2';obtain⟨c3',p3'⟩:=t3.dg T.Fi.wf rfl c3 p3;clear c3' p3';replace T:ST A A3 Y (Y.set vv3 lv3 (Y.vars++ws3) Y.locks) false b3:=T.then hw rfl t3;refine gO ?_;refine bd rfl ?_;exact⟨vv3,lv3,ws3,b3,T,n3,fun e=>by
    rw[show cP (Y.ev n) (m+1) Y.locks Y.vars t=_ from (iN k7).trans ((iN k8).trans ((iN k9).trans ((iN (show ¬(t.k=10∨t.k=11) from fun h=>h.elim k10 k11)).trans ((iN k12).trans ((iN (show ¬(t.k=13∨t.k=16∨t.k=17∨t.k=18) from fun h=>om)).trans (iP k14))))))];exact z3 e⟩
  refine wD (fun k15=>?_) fun k15=>?_
  ·obtain⟨u0,hu0,e0⟩:=st_15 hP k15;refine wL c3 ?_;refine zC rfl (zY hS (Y:=Y) T.Fi.wf T.ps N hu0 ⟨e0,hk u0 (mG hu0)⟩ om) ?_;rintro r A3 ⟨vv3,lv3,ws3,b3,t3,n3,z3⟩;obtain⟨c2',p2'⟩:=t3.dg T.Fi.wf rfl c2 p2;clear c2' p2';obtain⟨c3',p3'⟩:=t3.dg T.Fi.wf rfl c3 p3;clear c3' p3';replace T:ST A A3 Y (Y.set vv3 lv3 (Y.vars++ws3) Y.locks) false b3:=T.then hw rfl t3;refine gO ?_;refine bd rfl ?_;exact⟨vv3,lv3,ws3,b3,T,n3,fun e=>by
    rw[show cP (Y.ev n) (m+1) Y.locks Y.vars t=_ from (iN k7).trans ((iN k8).trans ((iN k9).trans ((iN (show ¬(t.k=10∨t.k=11) from fun h=>h.elim k10 k11)).trans ((iN k12).trans ((iN (show ¬(t.k=13∨t.k=16∨t.k=17∨t.k=18) from fun h=>om)).trans ((iN k14).trans (iP k15)))))))];exact z3 e⟩
  refine wD (fun k20=>?_) fun k20=>?_
  ·refine gO ?_;refine cD rfl (fun _=>?_) fun h=>absurd k20 h;obtain⟨u0,hu0,e0⟩:=gU hP om;refine gO ?_;obtain⟨fku0,sku0,oku0,cku0,eku0,rku0,aku0,ku0,hvu0,hsu0,hhu0,hlu0,Nu0,htu0⟩:=bv N hu0;have hku0:takeN 6 (aB (Nat.add oku0 (Nat.mul 0 6)) aku0)=some (au u0 ku0):=(htu0 6 0 (Nat.le_refl _)).trans rfl;obtain⟨fe,hpc⟩:=T.ps.bo.eO.cell;refine tD ?_;refine ax rfl rfl rfl rfl rfl ?_
   try refine aM rfl ?_
   refine zI 0 hvu0 hlu0 ?_;refine eP ?_;refine rD ?_;refine zK hhu0 hku0 ?_;refine eR ?_;refine dR ?_;refine bW rfl rfl rfl rfl ?_;refine aq rfl rfl rfl ?_;generalize hf9:A2.aa=f9;refine gm (n:=2) (cs:=bc (0,[])) hw h T rfl hf9 ?_;intro A3 x9 p9 o3 c9 T;obtain⟨c2,c3⟩:=o3.k2 c2 c3;replace Nu0:=Nu0.k o3;refine oP ?_;refine aC ?_;refine zC rfl (bT n T.Fi.wf T.ps.bo Nu0 ⟨e0,hk u0 (mG hu0)⟩) ?_;rintro r A4 ⟨y4,b4,rfl,t4,z4⟩;replace T:=T.step hw rfl t4;obtain⟨c2,c3,c9⟩:=t4.Fi.k3 c2 c3 c9;refine sA ?_;refine aC ?_;refine zS c9 ?_;refine jk (cs:=bc y4) hw h T rfl x9 p9 c9 ?_;intro A5 o5 c9 T;obtain⟨c2,c3⟩:=o5.k2 c2 c3;refine sA ?_;refine eD ?_;by_cases h1:y4.1=1
   ·refine aF 143 false rfl (yF fun h=>h h1) ?_;refine wL c3 ?_;refine zC rfl (ah (Y:=(Y.set Y.vv Y.lv Y.vars Y.locks)) T.Fi.wf T.ps.bo) ?_;rintro r A6 ⟨rfl,t6⟩;replace T:=T.step hw rfl t6;refine gO ?_;refine bd rfl ?_;exact⟨Y.vv,Y.lv,[],_,by rw[aN];exact T,Nat.zero_le _,fun _=>by
     rw[show cP (Y.ev n) (m+1) Y.locks Y.vars t=_ from (iN k7).trans ((iN k8).trans ((iN k9).trans ((iN (show ¬(t.k=10∨t.k=11) from fun h=>h.elim k10 k11)).trans ((iN k12).trans ((iN (show ¬(t.k=13∨t.k=16∨t.k=17∨t.k=18) from fun h=>om)).trans ((iN k14).trans ((iN k15).trans (iP (show t.k=20∨t.k=21 from .inl k20))))))))),aN];have hz:=z4 rfl;have hz:match (Y.ev n).ty Y.vars (ba t) with
      | none=>b4=true
      | some w=>b4=false∧y4=w:=by
      rw[aW hu0];exact hz
     refine dA hz ?_;exact congrArg (fun x=>x || b4) (show false=!(decide (y4.1=1∨(t.k=21∧y4.1=2))) from by rw[yT (.inl h1)];rfl)⟩
   ·refine wT 143 h1 ?_;refine gO ?_;refine wT 147 k20 ?_;refine wL c3 ?_;refine zC rfl (ah (Y:=(Y.set Y.vv Y.lv Y.vars Y.locks)) T.Fi.wf T.ps.bo) ?_;rintro r A6 ⟨rfl,t6⟩;replace T:=T.step hw rfl t6;refine gO ?_;refine bd rfl ?_;exact⟨Y.vv,Y.lv,[],_,by rw[aN];exact T,Nat.zero_le _,fun _=>by
     rw[show cP (Y.ev n) (m+1) Y.locks Y.vars t=_ from (iN k7).trans ((iN k8).trans ((iN k9).trans ((iN (show ¬(t.k=10∨t.k=11) from fun h=>h.elim k10 k11)).trans ((iN k12).trans ((iN (show ¬(t.k=13∨t.k=16∨t.k=17∨t.k=18) from fun h=>om)).trans ((iN k14).trans ((iN k15).trans (iP (show t.k=20∨t.k=21 from .inl k20))))))))),aN];have hz:=z4 rfl;have hz:match (Y.ev n).ty Y.vars (ba t) with
      | none=>b4=true
      | some w=>b4=false∧y4=w:=by
      rw[aW hu0];exact hz
     refine dA hz ?_;exact congrArg (fun x=>x || b4) (show true=!(decide (y4.1=1∨(t.k=21∧y4.1=2))) from by rw[yF fun h=>h.elim h1 fun h=>by omega];rfl)⟩
  refine wD (fun k21=>?_) fun k21=>?_
  ·obtain⟨u0,hu0,e0⟩:=gU hP om;refine gO ?_;obtain⟨fku0,sku0,oku0,cku0,eku0,rku0,aku0,ku0,hvu0,hsu0,hhu0,hlu0,Nu0,htu0⟩:=bv N hu0;have hku0:takeN 6 (aB (Nat.add oku0 (Nat.mul 0 6)) aku0)=some (au u0 ku0):=(htu0 6 0 (Nat.le_refl _)).trans rfl;obtain⟨fe,hpc⟩:=T.ps.bo.eO.cell;refine tD ?_;refine ax rfl rfl rfl rfl rfl ?_
   try refine aM rfl ?_
   refine zI 0 hvu0 hlu0 ?_;refine eP ?_;refine rD ?_;refine zK hhu0 hku0 ?_;refine eR ?_;refine dR ?_;refine bW rfl rfl rfl rfl ?_;refine aq rfl rfl rfl ?_;generalize hf9:A2.aa=f9;refine gm (n:=2) (cs:=bc (0,[])) hw h T rfl hf9 ?_;intro A3 x9 p9 o3 c9 T;obtain⟨c2,c3⟩:=o3.k2 c2 c3;replace Nu0:=Nu0.k o3;refine oP ?_;refine aC ?_;refine zC rfl (bT n T.Fi.wf T.ps.bo Nu0 ⟨e0,hk u0 (mG hu0)⟩) ?_;rintro r A4 ⟨y4,b4,rfl,t4,z4⟩;replace T:=T.step hw rfl t4;obtain⟨c2,c3,c9⟩:=t4.Fi.k3 c2 c3 c9;refine sA ?_;refine aC ?_;refine zS c9 ?_;refine jk (cs:=bc y4) hw h T rfl x9 p9 c9 ?_;intro A5 o5 c9 T;obtain⟨c2,c3⟩:=o5.k2 c2 c3;refine sA ?_;refine eD ?_;by_cases h1:y4.1=1
   ·refine aF 143 false rfl (yF fun h=>h h1) ?_;refine wL c3 ?_;refine zC rfl (ah (Y:=(Y.set Y.vv Y.lv Y.vars Y.locks)) T.Fi.wf T.ps.bo) ?_;rintro r A6 ⟨rfl,t6⟩;replace T:=T.step hw rfl t6;refine gO ?_;refine bd rfl ?_;exact⟨Y.vv,Y.lv,[],_,by rw[aN];exact T,Nat.zero_le _,fun _=>by
     rw[show cP (Y.ev n) (m+1) Y.locks Y.vars t=_ from (iN k7).trans ((iN k8).trans ((iN k9).trans ((iN (show ¬(t.k=10∨t.k=11) from fun h=>h.elim k10 k11)).trans ((iN k12).trans ((iN (show ¬(t.k=13∨t.k=16∨t.k=17∨t.k=18) from fun h=>om)).trans ((iN k14).trans ((iN k15).trans (iP (show t.k=20∨t.k=21 from .inr k21))))))))),aN];have hz:=z4 rfl;have hz:match (Y.ev n).ty Y.vars (ba t) with
      | none=>b4=true
      | some w=>b4=false∧y4=w:=by
      rw[aW hu0];exact hz
     refine dA hz ?_;exact congrArg (fun x=>x || b4) (show false=!(decide (y4.1=1∨(t.k=21∧y4.1=2))) from by rw[yT (.inl h1)];rfl)⟩
   ·refine wT 143 h1 ?_;refine gO ?_;refine wF 147 (show ¬t.k=20 by omega) ?_;refine wL c3 ?_;refine zC rfl (ah (Y:=(Y.set Y.vv Y.lv Y.vars Y.locks)) T.Fi.wf T.ps.bo) ?_;rintro r A6 ⟨rfl,t6⟩;replace T:=T.step hw rfl t6;refine gO ?_;refine bd rfl ?_;exact⟨Y.vv,Y.lv,[],_,by rw[aN];exact T,Nat.zero_le _,fun _=>by
     rw[show cP (Y.ev n) (m+1) Y.locks Y.vars t=_ from (iN k7).trans ((iN k8).trans ((iN k9).trans ((iN (show ¬(t.k=10∨t.k=11) from fun h=>h.elim k10 k11)).trans ((iN k12).trans ((iN (show ¬(t.k=13∨t.k=16∨t.k=17∨t.k=18) from fun h=>om)).trans ((iN k14).trans ((iN k15).trans (iP (show t.k=20∨t.k=21 from .inr k21))))))))),aN];have hz:=z4 rfl;have hz:match (Y.ev n).ty Y.vars (ba t) with
      | none=>b4=true
      | some w=>b4=false∧y4=w:=by
      rw[aW hu0];exact hz
     refine dA hz ?_;exact congrArg (fun x=>x || b4) (show decide (y4.1≠2)=!(decide (y4.1=1∨(t.k=21∧y4.1=2))) from by by_cases h2:y4.1=2<;>simp [h1,h2,k21])⟩
  refine wD (fun k22=>?_) fun k22=>?_
  ·obtain⟨u0,hu0,e0⟩:=gU hP om;obtain⟨fku0,sku0,oku0,cku0,eku0,rku0,aku0,ku0,hvu0,hsu0,hhu0,hlu0,Nu0,htu0⟩:=bv N hu0;have hku0:takeN 6 (aB (Nat.add oku0 (Nat.mul 0 6)) aku0)=some (au u0 ku0):=(htu0 6 0 (Nat.le_refl _)).trans rfl;refine wI hvu0 hlu0 ?_;refine wK hhu0 hku0 ?_;refine aq rfl rfl rfl ?_;refine zS (by rw[AW.add_get,iP rfl]) ?_;generalize hf10:A2.aa=f10;refine iK (n:=6) (cs:=au u0 ku0) hw h T rfl hf10 ?_;intro A3 x10 p10 o3 c10 T;obtain⟨c2,c3⟩:=o3.k2 c2 c3;replace Nu0:=Nu0.k o3;refine gO ?_;have hk0:=hk u0 (mG hu0);refine zG (fun k29=>?_) fun k29=>?_
   ·refine wL c10 ?_;refine zC rfl (tV (bT n) T.Fi.wf T.ps.bo Nu0 (ex_29 e0 k29 hk0)) ?_;rintro r A4 ⟨y4,b4,rfl,t4,z4⟩;replace T:=T.step hw rfl t4;refine gO ?_;refine af rfl ?_;exact⟨Y.vv,Y.lv,[],_,by rw[aN];exact T,Nat.zero_le _,fun _=>by
     rw[show cP (Y.ev n) (m+1) Y.locks Y.vars t=_ from (iN k7).trans ((iN k8).trans ((iN k9).trans ((iN (show ¬(t.k=10∨t.k=11) from fun h=>h.elim k10 k11)).trans ((iN k12).trans ((iN (show ¬(t.k=13∨t.k=16∨t.k=17∨t.k=18) from fun h=>om)).trans ((iN k14).trans ((iN k15).trans ((iN (show ¬(t.k=20∨t.k=21) from fun h=>h.elim k20 k21)).trans ((iP k22).trans (iP (by rw[aW hu0];exact k29))))))))))),aN];have hz:=z4 rfl;rw[aW hu0];cases hr:cK Y.cx (cW Y.cx n) u0 with
     | none=>
      simp only[hr] at hz;simp only[show cK ((Y.ev n).cx Y.vars) (cW ((Y.ev n).cx Y.vars) (Y.ev n).n) u0=none from hr];exact hz
     | some w=>
      simp only[hr] at hz;simp only[show cK ((Y.ev n).cx Y.vars) (cW ((Y.ev n).cx Y.vars) (Y.ev n).n) u0=some w from hr];exact⟨hz.1,trivial⟩⟩
   refine wL c10 ?_;refine zC rfl (bT n T.Fi.wf T.ps.bo Nu0 ⟨e0,hk0⟩) ?_;rintro r A4 ⟨y4,b4,rfl,t4,z4⟩;replace T:=T.step hw rfl t4;obtain⟨c2,c3,c10⟩:=t4.Fi.k3 c2 c3 c10;refine wL c3 ?_;refine zC rfl (ah (Y:=(Y.set Y.vv Y.lv Y.vars Y.locks)) T.Fi.wf T.ps.bo) ?_;rintro r A5 ⟨rfl,t5⟩;replace T:=T.step hw rfl t5;refine gO ?_;refine bd rfl ?_;exact⟨Y.vv,Y.lv,[],_,by rw[aN];exact T,Nat.zero_le _,fun _=>by
    rw[show cP (Y.ev n) (m+1) Y.locks Y.vars t=_ from (iN k7).trans ((iN k8).trans ((iN k9).trans ((iN (show ¬(t.k=10∨t.k=11) from fun h=>h.elim k10 k11)).trans ((iN k12).trans ((iN (show ¬(t.k=13∨t.k=16∨t.k=17∨t.k=18) from fun h=>om)).trans ((iN k14).trans ((iN k15).trans ((iN (show ¬(t.k=20∨t.k=21) from fun h=>h.elim k20 k21)).trans ((iP k22).trans (iN (by rw[aW hu0];exact k29))))))))))),aN];have hz:=z4 rfl;have hz:match (Y.ev n).ty Y.vars (ba t) with
     | none=>b4=true
     | some w=>b4=false∧y4=w:=by
     rw[aW hu0];exact hz
    show match (match (Y.ev n).ty Y.vars (ba t) with
     | none=>none
     | some _=>if (ba t).k=33 then some Y.vars else none:Option Vs) with
     | none=>(decide (u0.k≠33) || b4)=true
     | some vs=>(decide (u0.k≠33) || b4)=false∧vs=Y.vars
    cases hr:(Y.ev n).ty Y.vars (ba t) with
    | none=>
     rw[hr] at hz;have hz:b4=true:=hz;show _=true;rw[hz,Bool.or_true]
    | some w=>
     rw[hr] at hz;obtain⟨hz,rfl⟩:=hz;show match (if (ba t).k=33 then some Y.vars else none:Option Vs) with
      | none=>_
      | some _=>_
     rw[aW hu0,hz];by_cases h33:u0.k=33
     ·rw[iP h33,yF fun h=>h h33];exact⟨rfl,rfl⟩
     ·rw[iN h33,yT h33];rfl⟩
  refine gO ?_;refine gO ?_;refine bd rfl ?_;exact⟨Y.vv,Y.lv,[],_,by rw[aN];exact T,Nat.zero_le _,fun _=>by
   rw[show cP (Y.ev n) (m+1) Y.locks Y.vars t=_ from (iN k7).trans ((iN k8).trans ((iN k9).trans ((iN (show ¬(t.k=10∨t.k=11) from fun h=>h.elim k10 k11)).trans ((iN k12).trans ((iN (show ¬(t.k=13∨t.k=16∨t.k=17∨t.k=18) from fun h=>om)).trans ((iN k14).trans ((iN k15).trans ((iN (show ¬(t.k=20∨t.k=21) from fun h=>h.elim k20 k21)).trans (iN k22))))))))),aN];exact⟨rfl,rfl⟩⟩
theorem tY{K:FuncId}{n:Nat}:∀m,ye K n m
 | 0=>fun _ _ _ h=>by cases h
 | m+1=>Aa (tY m)
end Go.Proofs.YtafamggbkobcfaaGreat.Ae
