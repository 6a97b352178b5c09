/- A part of the proof of the statement CheckTypes. -/
import Derived.Test.YtafamggbkobcfaaGreatAiSyK25
import Derived.Test.YtafamggbkobcfaaGreatAiSyT17
namespace Go.Proofs.YtafamggbkobcfaaGreat.Ae
open Go.AE
set_option linter.unusedVariables false
set_option maxRecDepth 100000
theorem DG:∀(l:List Str) (x k:Str) (i:Nat),ix (l++[x]) k i=if k∈l then ix l k i else if k=x then ((i+l.length:Nat) : Int) else -1
 | [],x,k,i=>by
  rw[iN (List.not_mem_nil)];rfl
 | y::l,x,k,i=>by
  show (if k=y then (i:Int) else ix (l++[x]) k (i+1))=if k∈y::l then (if k=y then (i:Int) else ix l k (i+1)) else _
  by_cases h:k=y
  ·rw[iP h,iP h,iP (h▸List.mem_cons_self ..)]
  ·rw[iN h,iN h,DG l x k (i+1)];by_cases hm:k∈l
   ·rw[iP hm,iP (List.mem_cons_of_mem _ hm)]
   ·rw[iN hm,iN (fun e=>(List.mem_cons.1 e).elim h hm),lC,show i+1+l.length=i+(l.length+1) from by omega]
def Uq(hs:Hs): Prop:=∀(i:Nat) (p:Str×Str),hs[i]?=some p→ix (hs.map Prod.fst) p.1 0=(i:Int)
theorem EV:Uq base:=fun i p h=>by
 match i,h with
 | 0,h=>cases h;rfl
 | 1,h=>cases h;rfl
 | i+2,h=>cases h
theorem uq_app{hs:Hs}(h:Uq hs){n s:Str}(hn:has hs n=false): Uq (hs++[(n,s)]):=fun i p hp=>by
 rw[mA];show ix (hs.map Prod.fst++[n]) p.1 0=_;rw[DG];by_cases hi:i<hs.length
 ·rw[List.getElem?_append_left hi] at hp;rw[iP (List.mem_map.2 ⟨p,mG hp,rfl⟩)];exact h i p hp
 ·rw[List.getElem?_append_right om] at hp;have hl:=(List.getElem?_eq_some_iff.1 hp).1;rw[lS] at hl;have e:i=hs.length:=om;subst e;rw[Nat.sub_self] at hp;cases hp;have hno:¬n∈hs.map Prod.fst:=fun hm=>by
   have:=(fW hs n).1 ((zq _ n 0).2 hm);rw[hn] at this;cases this
  rw[iN hno,iP rfl,lM,Nat.zero_add]
theorem Bc{hs:Hs}(h:Uq hs){i:Nat}{k s:Str}(hp:hs[i]?=some (k,s)): has hs k=true∧lk hs k=some s:=by
 have hx:ix (hs.map Prod.fst) k 0=(i:Int):=h i _ hp;have hh:has hs k=true:=(fW hs k).1 (by rw[hx];omega);refine⟨hh,?_⟩;obtain⟨v,hv⟩:∃v,lk hs k=some v:=by
  unfold has at hh;exact Option.isSome_iff_exists.1 hh
 obtain⟨j,h1,h2⟩:=uW hs k v 0 hv;rw[hx] at h1;have e:i=j:=om;subst e;rw[hp] at h2;cases h2;exact hv
theorem hd_app{hs:Hs}(h:Hd hs)(p:Str×Str): Hd (hs++[p]):=by
 obtain⟨l,rfl⟩:=h;exact⟨l++[p],rfl⟩
structure Whole (ns:List Str) (hs:Hs) : Prop where
 uq:Uq hs
 names:hs.map Prod.fst=bB::cV::ns
 sup:hs[1]?=some (cV,bB)
theorem Whole.obj{ns:List Str}{hs:Hs}(h:Whole ns hs): has hs bB=true:=(fW hs bB).1 (by
 rw[h.names];show 0≤(if bB=bB then ((0:Nat) : Int) else _);rw[iP rfl];exact Int.le_refl _)
theorem Whole.at{ns:List Str}{hs:Hs}(h:Whole ns hs){i:Nat}{p:Str×Str}(hp:hs[i]?=some p)(hi:1≤i): (i=1∧p=(cV,bB))∨p.1∈ns:=by
 match i,hi,hp with
 | 1,_,hp=>
  rw[h.sup] at hp;cases hp;exact .inl ⟨rfl,rfl⟩
 | i+2,_,hp=>
  have:(hs.map Prod.fst)[i+2]?=some p.1:=by rw[List.getElem?_map,hp];rfl
  rw[h.names] at this;exact .inr (mG (show ns[i]?=some p.1 from this))
theorem Whole.of{ns:List Str}{hs:Hs}(h:Whole ns hs){n:Str}(hn:n∈ns): ∃i s,1≤i∧hs[i]?=some (n,s):=by
 obtain⟨i,hi⟩:=List.getElem?_of_mem hn;have:(hs.map Prod.fst)[i+2]?=some n:=by rw[h.names];exact hi
 rw[List.getElem?_map] at this;obtain⟨p,hp,e⟩:=Option.map_eq_some_iff.1 this;subst e;exact⟨i+2,p.2,om,hp⟩
theorem Bd{hs:Hs}{k s:Str}(h:lk hs k=some s): up hs k=s:=by unfold up;rw[h];rfl
theorem Whole.lost{ns:List Str}{hs:Hs}(h:Whole ns hs){i:Nat}{k s:Str}(hp:hs[i]?=some (k,s))(hi:1≤i)(hx:¬has hs s=true): ∃n∈ns,¬has hs (up hs n)=true:=by
 rcases h.at hp hi with ⟨_,e⟩|e
 ·cases e;exact absurd h.obj hx
 ·exact⟨k,e,by rw[Bd (Bc h.uq hp).2];exact hx⟩
theorem Whole.found{ns:List Str}{hs:Hs}(h:Whole ns hs)(ha:∀(i:Nat) (p:Str×Str),1≤i→hs[i]?=some p→has hs p.2=true): ¬∃n∈ns,¬has hs (up hs n)=true:=fun ⟨n,hn,hx⟩=>by
 obtain⟨i,s,hi,hp⟩:=h.of hn;refine hx ?_;rw[Bd (Bc h.uq hp).2];exact ha i _ hi hp
theorem Whole.ring{ns:List Str}{hs:Hs}(h:Whole ns hs){i:Nat}{p:Str×Str}(hp:hs[i]?=some p)(hi:1≤i)(hx:cA hs (hs.length+1) p.1=true): ∃n∈ns,cA hs (hs.length+1) n=true:=by
 rcases h.at hp hi with ⟨_,e⟩|e
 ·rw[e] at hx;have hu:up hs cV=bB:=Bd (Bc h.uq h.sup).2;unfold cA at hx;rw[iN dE,hu] at hx;cases hl:hs.length with
  | zero=>
   have:=(List.getElem?_eq_some_iff.1 h.sup).1;omega
  | succ m=>
   rw[hl] at hx;unfold cA at hx;rw[iP rfl] at hx;cases hx
 ·exact⟨_,e,hx⟩
theorem Whole.noring{ns:List Str}{hs:Hs}(h:Whole ns hs)(ha:∀(i:Nat) (p:Str×Str),1≤i→hs[i]?=some p→cA hs (hs.length+1) p.1=false): ¬∃n∈ns,cA hs (hs.length+1) n=true:=fun ⟨n,hn,hx⟩=>by
 obtain⟨i,s,hi,hp⟩:=h.of hn;have:=ha i _ hi hp;rw[this] at hx;cases hx
theorem Cp{A:AW}{es:Nat}{v:AV}{n:Nat}{cs:List AV}(h:zo A es v n cs): dC v v=true:=by
 have key:∀(f t:Nat) (ex:Bool),dC (.slice f t 0 n n ex) (.slice f t 0 n n ex)=true:=fun f t ex=>by
  show (Nat.beq f f && Nat.beq t t && Nat.beq 0 0 && Nat.beq n n && Nat.beq n n && (ex == ex))=true;simp only[Nat.beq_refl,beq_self_eq_true,Bool.and_self]
 rcases h with (⟨rfl,_⟩|⟨f,t,rfl,_⟩)|⟨f,t,rfl,_⟩
 ·rfl
 ·exact key f t false
 ·exact key f t true
theorem pX{A:AW}{es:Nat}{v:AV}{n:Nat}{cs:List AV}(hw:Wf A)(h:zo A es v n cs): pd A v.av:=fun g hg=>by
 obtain⟨t,ht⟩:=fj h hg;exact hw _ _ ht
theorem yl{A:AW}{f:Nat}{x:AV}(h:A.heap.get f=some (.cells 0 false 1 [x])): kl A 1 (.slice f 0 0 1 1 true)=some (1,[x]):=by
 simp only[kl,bU,h];rfl
theorem Be{E:Env}{A:AW}{t e:TypeId}{d de:bH}{z:List AV}{v x:AV}{n:Nat}{cs xs:List AV}(ht:E.cf.get t=some d)(hs:d.desc=.slice e)(he:E.cf.get e=some de)(hz:de.zero=some z)
 (hw:Wf A) (hb:zo A de.size v n cs) (hx:kl A de.size x=some (1,xs)) (hl:xs.length=1*de.size) (h1:1≤de.size) (hr:eL (n+1) de.bytes=true) :
 ∃v' A1,dP E t v x A=.val v' A1∧xM A A1 de.size v v' (n+1) (cs++xs):=by
 rcases hb with hb|⟨f,u,rfl,g1,g2⟩
 ·exact io ht hs he hz hw hb hx hl h1 hr
 ·have o2:ac A (A.add (.cells 0 false de.size (cs++xs))) ag:=ac.add hw _;have e1:Nat.ble 1 de.size=true:=Nat.ble_eq_true_of_le h1;have e2:Nat.ble (Nat.add n 1) n=false:=by
   rw[cT];exact yF (by show ¬n+1≤n;omega)
  have e3:takeN (Nat.mul n de.size) (aB 0 cs)=some cs:=by
   rw[show aB 0 cs=cs from rfl,br _ _ (by rw[g2];exact Nat.le_refl _),show Nat.mul n de.size=n*de.size from rfl,←g2,tL]
  have hr':eL (Nat.add n 1) de.bytes=true:=hr;refine⟨.slice A.aa 0 0 (Nat.add n 1) (Nat.add n 1) false,A.add (.cells 0 false de.size (cs++xs)),?_,.inr ⟨_,0,rfl,by rw[AW.add_get,iP rfl],by rw[lA,g2,hl,Nat.add_mul],Nat.succ_pos _⟩,o2.mono fun g h=>h.elim,fun g hg=>.inr ?_⟩
  ·unfold dP;simp only[ht,hs,he,hz,hx,show Nat.beq 1 0=false from rfl,cond_false,e1,cond_true,gr,g1,Nat.beq_refl,Bool.and_self,e2,hr',e3];rfl
  ·cases hg;exact Nat.le_refl _
structure NR (A A1:AW) (fr:Nat) (vn vs:AV) (hs:Hs) : Prop where
 ri:Ri A1 fr vn vs hs
 Fi:ac A A1 ag
 n1:A.aa≤fr
 n2:∀g,vn.av g→A.aa≤g
 n3:∀g,vs.av g→A.aa≤g
 dj:lh vn.av vs.av
theorem Ri.nn{A:AW}{fr:Nat}{vn vs:AV}{hs:Hs}(h:Ri A fr vn vs hs): ¬vn.av fr:=fun e=>by
 obtain⟨t,ht⟩:=fj h.n e;rw[h.cell] at ht;cases ht
theorem Ri.ns{A:AW}{fr:Nat}{vn vs:AV}{hs:Hs}(h:Ri A fr vn vs hs): ¬vs.av fr:=fun e=>by
 obtain⟨t,ht⟩:=fj h.s e;rw[h.cell] at ht;cases ht
theorem NR.ae{A A1 A2:AW}{fr:Nat}{vn vs:AV}{hs:Hs}(h:NR A A1 fr vn vs hs)(o:ac A1 A2 ag): NR A A2 fr vn vs hs:=
 ⟨h.ri.ae o,h.Fi.same o,h.n1,h.n2,h.n3,h.dj⟩
theorem NR.push{A A1 A2 A3:AW}{fr:Nat}{vn vs vn' vs':AV}{hs:Hs}{n s:Str}(hw:Wf A)(h:NR A A1 fr vn vs hs)(g1:xM A1 A2 1 vn vn' (hs.length+1) (ip (hs.map Prod.fst)++[.str n]))
 (g2:xM A2 A3 1 vs vs' (hs.length+1) (ip (hs.map Prod.snd)++[.str s])) :
 A3.heap.get fr=some (.cells 0 false 2 [vn,vs])∧∀A4,ac A3 A4 (one fr)→A4.heap.get fr=some (.cells 0 false 2 [vn',vs'])→NR A A4 fr vn' vs' (hs++[(n,s)]):=by
 have c2:=g1.Fi.ae _ _ h.ri.cell h.ri.nn;have c3:=g2.Fi.ae _ _ c2 h.ri.ns;have us:=pX h.Fi.wf h.ri.s;have o2:ac A A2 ag:=ac.fresh hw h.Fi g1.Fi h.n2;have o3:ac A A3 ag:=ac.fresh hw o2 g2.Fi h.n3;have d1:lh vn'.av vs.av:=fun g hg hg'=>by
  rcases g1.grow g hg with e|e
  ·exact h.dj g e hg'
  ·have:=us g hg';omega
 have b1:eH A3 1 vn' (hs.length+1) (ip (hs.map Prod.fst)++[.str n]):=g1.buf.ae g2.Fi d1;have un2:pd A2 vn'.av:=pX o2.wf (.inl g1.buf);have d2:lh vn'.av vs'.av:=fun g hg hg'=>by
  rcases g2.grow g hg' with e|e
  ·exact d1 g hg e
  ·have:=un2 g hg;omega
 have nf:∀{v:AV} {cs:List AV} {k:Nat},eH A3 1 v k cs→lh v.av (one fr):=fun {v cs k} b g hg e=>by
  cases e;obtain⟨t,ht⟩:=fj (.inl b) hg;rw[c3] at ht;cases ht
 refine⟨c3,fun A4 op c4=>⟨⟨c4,?_,?_⟩,ac.fresh hw o3 op fun g hg=>by cases hg;exact h.n1,h.n1,fun g hg=>?_,fun g hg=>?_,d2⟩⟩
 ·rw[mA,dZ,lA,lS];exact .inl (b1.ae op (nf b1))
 ·rw[mA,dZ,lA,lS];exact .inl (g2.buf.ae op (nf g2.buf))
 ·rcases g1.grow g hg with e|e
  ·exact h.n2 g e
  ·exact Nat.le_trans h.Fi.aa e
 ·rcases g2.grow g hg with e|e
  ·exact h.n3 g e
  ·exact Nat.le_trans o2.aa e
theorem stillS{K:FuncId}{C:bC}{l:Kn}{A:AW}{d:Option Tmp}{t:Tmp}{pos:String}{ty:TypeId}{after:Array Edge}{g:Option (Nat×Bool)}{f:Nat}{vn vs:AV}{n:Nat}{cs:List AV}(hl:l.find t=some (.ptr f 0 1))(hf:A.heap.get f=some (.cells 0 false 2 [vn,vs]))(hv:zo A 1 vs n cs):
 (∀F,Kf C l F→dr (ES K) F ⟨d,.load 90 (.tmp t),ty,pos,after,g⟩ A=.val vs A)∧dC vs vs=true:=by
 refine⟨fun F hF=>?_,Cp hv⟩;show ao (fR (ES K) 90 (ev F (.tmp t)) A)=_;rw[hF.ev (x:=.tmp t) (v:=.ptr f 0 1) hl,xO (dt:=d90) rfl rfl hf rfl];rfl
theorem kM{A1:AW}{ns ss:List Str}{r:AV}{e:Int}(h:dy ns ss=([],e))(he:e≠0)(hr:r=.tuple [.bJ,.int .i64 e]):
 ((dy ns ss).2≠0∧r=.tuple [.bJ,.int .i64 (dy ns ss).2])∨((dy ns ss).2=0∧∃fr vn vs,r=.tuple [.ptr fr 0 0,.int .i64 0]∧Ri A1 fr vn vs (dy ns ss).1∧Hd (dy ns ss).1):=by
 rw[h];exact .inl ⟨he,hr⟩
set_option maxHeartbeats 4000000 in
theorem DI{K:FuncId}{A:AW}{v0 v1:AV}{ns ss:List Str}(hw:Wf A)(hr0:Row A 1 v0 ns.length (ip ns))(hr1:Row A 1 v1 ss.length (ip ss))(hln:∀n∈ns,n.length<9223372036854775807):
 aD (ES K) 57 [v0,v1] A fun r A1=>ac A A1 ag∧
  (((dy ns ss).2≠0∧r=.tuple [.bJ,.int .i64 (dy ns ss).2])∨((dy ns ss).2=0∧∃fr vn vs,r=.tuple [.ptr fr 0 0,.int .i64 0]∧Ri A1 fr vn vs (dy ns ss).1∧Hd (dy ns ss).1)):=by
 refine ap rfl rfl rfl ?_;refine wJ hr0.bm ?_;refine wJ hr1.bm ?_;refine zG (fun h1=>?_) fun h1=>?_
 ·have h1:ns.length≠ss.length:=fun e=>h1 (by rw[e]);have e:dy ns ss=([],50):=by unfold dy;rw[iP h1]
  refine gO ?_;exact af rfl ⟨ac.refl hw _,kM e dE rfl⟩
 have h1:ns.length=ss.length:=by
  omega
 refine wJ hr0.bm ?_;refine zG (fun h2=>?_) fun h2=>?_
 ·have h2:16<ns.length:=by
   omega
  have e:dy ns ss=([],32):=by unfold dy;rw[iN (fun h=>h h1),iP h2]
  refine gO ?_;exact af rfl ⟨ac.refl hw _,kM e dE rfl⟩
 have h2:¬16<ns.length:=by
  omega
 have hN:dy ns ss=if (bO (ns.zip ss) base).2≠0 then ([],(bO (ns.zip ss) base).2) else if ∃n∈ns,¬has (bO (ns.zip ss) base).1 (up (bO (ns.zip ss) base).1 n)=true then ([],70)
  else if ∃n∈ns,cA (bO (ns.zip ss) base).1 ((bO (ns.zip ss) base).1.length+1) n=true then ([],71) else ((bO (ns.zip ss) base).1,0):=by
  unfold dy;rw[iN (fun h=>h h1),iN h2]
 refine wG ?_;refine ik ?_;refine bq rfl rfl rfl ?_;refine bG (fun A1=>ac A A1 ag∧A1.heap.get A.aa=some (.cells 0 false 1 [.str bB,.str cV])) ⟨ac.add hw _,by rw[AW.add_get,iP rfl];rfl⟩ ?_;rintro A1 ⟨o1,hn1⟩;generalize hfn:A.aa=fn at hn1;have n1:A.aa≤fn:=om;have ln1:=o1.wf _ _ hn1;refine bq rfl rfl rfl ?_;refine bG (fun A2=>ac A1 A2 ag∧A2.heap.get A1.aa=some (.cells 0 false 1 [.str [],.str bB])) ⟨ac.add o1.wf _,by rw[AW.add_get,iP rfl];rfl⟩ ?_;rintro A2 ⟨o2,hs2⟩;have n2:=o1.aa;have hne:fn≠A1.aa:=om;generalize A1.aa=fs at hs2 n2 hne;have hn2:=o2.k hn1;have o12:=o1.same o2;refine gO ?_;refine bA rfl rfl rfl rfl ?_
 refine bG (fun A5=>NR A A5 A2.aa (.slice fn 0 0 2 2 true) (.slice fs 0 0 2 2 true) base) ⟨⟨by rw[AW.add_get,iP rfl];rfl,.inr ⟨fn,0,rfl,(ac.add o12.wf ag).ae _ _ hn2 fun h=>h,rfl⟩,.inr ⟨fs,0,rfl,(ac.add o12.wf ag).ae _ _ hs2 fun h=>h,rfl⟩⟩,o12.same (ac.add o12.wf _),o12.aa,fun g hg=>by cases hg;exact n1,fun g hg=>by cases hg;exact n2,fun g hg hg'=>by cases hg;exact hne hg'⟩ ?_;rintro A5 ni;generalize A2.aa=fr at ni;refine gO ?_;refine aE ?_;refine yL (pv 0 v0 (pv 1 v1 (pp 6 fr (pn 7 0 .nil)))) ?_;refine aV (ι:=Nat×Hs×AV×AV) (fun i=>ns.length-i.1) (fun i=>pv 0 v0 (pv 1 v1 (pp 6 fr (pn 7 i.1 .nil))))
  (fun i A1=>NR A A1 fr i.2.2.1 i.2.2.2 i.2.1∧i.1≤ns.length∧i.2.1.length=i.1+2∧bO ((ns.zip ss).drop i.1) i.2.1=bO (ns.zip ss) base∧Uq i.2.1∧Hd i.2.1∧i.2.1.map Prod.fst=bB::cV::ns.take i.1∧i.2.1[1]?=some (cV,bB)) ?_ (0,base,.slice fn 0 0 2 2 true,.slice fs 0 0 2 2 true) A5 ⟨ni,Nat.zero_le _,rfl,rfl,EV,⟨_,rfl⟩,rfl,rfl⟩
 rintro ⟨i,hs,vn,vs⟩ A1 ⟨ni,hi,hl,hadd,huq,hhd,hnm,hsp⟩ ih;have ni:NR A A1 fr vn vs hs:=ni;have hl:hs.length=i+2:=hl;have hadd:bO ((ns.zip ss).drop i) hs=bO (ns.zip ss) base:=hadd;have huq:Uq hs:=huq;have hhd:Hd hs:=hhd;have hnm:hs.map Prod.fst=bB::cV::ns.take i:=hnm;have hsp:hs[1]?=some (cV,bB):=hsp;have hr0':=hr0.k ni.Fi;have hr1':=hr1.k ni.Fi;refine wJ hr0'.bm ?_;refine zG (fun hlt=>?_) fun hge=>?_
 ·have hlt:i<ns.length:=Int.ofNat_lt.1 hlt;have hlt1:i<ss.length:=om;obtain⟨n,hn⟩:∃n,ns[i]?=some n:=⟨ns[i],gE hlt⟩;obtain⟨s,hs1⟩:∃s,ss[i]?=some s:=⟨ss[i],gE hlt1⟩;have hz:(ns.zip ss)[i]?=some (n,s):=List.getElem?_zip_eq_some.2 ⟨hn,hs1⟩;have hzl:=(List.getElem?_eq_some_iff.1 hz).1;have hd:(ns.zip ss).drop i=(n,s)::(ns.zip ss).drop (i+1):=by
   rw[gE hzl,Option.some.injEq] at hz;rw[←hz];exact List.drop_eq_getElem_cons hzl
  rw[hd] at hadd;have hadd:(if ¬rI n then ([],50) else if has hs n=true then ([],53) else bO ((ns.zip ss).drop (i+1)) (hs++[(n,if s=[] then bB else s)]))=bO (ns.zip ss) base:=hadd;obtain⟨f,t,o,c,ex,ro,all,e0,hh,_,cw⟩:=cZ hr0' hn;obtain⟨f1,t1,o1',c1,ex1,ro1,all1,e1,hh1,_,hat1⟩:=cZ hr1' hs1;refine wI e0 hlt ?_;refine wE hh cw ?_;refine zC rfl (zu (hln n (mG hn))) ?_;rintro r A2 ⟨rfl,e2⟩;obtain rfl:A1=A2:=e2.symm;refine gO ?_;refine fh rfl (fun hb=>?_) fun hb=>?_
  ·have hb:¬rI n:=fun h=>by rw[yT h] at hb;cases hb
   rw[iP hb] at hadd;have e:dy ns ss=([],50):=by rw[hN,←hadd,iP dE]
   refine gO ?_;exact af rfl ⟨ni.Fi,kM e dE rfl⟩
  have hb:rI n:=Decidable.byContradiction fun h=>by rw[yF h] at hb;cases hb
  rw[iN (fun h=>h hb)] at hadd;refine wI e0 hlt ?_;refine wE hh cw ?_;refine zC rfl (gS ni.ri om) ?_;rintro r A2 ⟨rfl,e2⟩;obtain rfl:A1=A2:=e2.symm;refine wD (fun hb2=>?_) fun hb2=>?_
  ·rw[iP ((fW hs n).1 hb2)] at hadd;have e:dy ns ss=([],53):=by rw[hN,←hadd,iP dE]
   refine gO ?_;exact af rfl ⟨ni.Fi,kM e dE rfl⟩
  have hb2:¬has hs n=true:=fun h=>hb2 ((fW hs n).2 h);rw[iN hb2] at hadd;have hno:has hs n=false:=by
   cases hx:has hs n
   ·rfl
   ·exact absurd hx hb2
  generalize hw':(if s=[] then bB else s)=w at hadd;refine wI e1 hlt1 ?_;refine wE hh1 hat1 ?_;refine ce (fun l1 A2=>(pv 0 v0 (pv 1 v1 (pp 6 fr (pn 7 i (pv 8 (.str w) .nil))))).le l1∧A2=A1) (fun k' hk=>?_) ?_
  ·refine zG (fun h0=>?_) fun h0=>?_
   ·have h0:s=[]:=h0;rw[iP h0] at hw';refine gO ?_;exact hk _ _ ⟨⟨rfl,rfl,rfl,rfl,by rw[←hw'];rfl,trivial⟩,rfl⟩
   ·have h0:¬s=[]:=h0;rw[iN h0] at hw';refine gO ?_;exact hk _ _ ⟨⟨rfl,rfl,rfl,rfl,by rw[←hw'];rfl,trivial⟩,rfl⟩
  rintro l1 A2 ⟨hl1,e2⟩;obtain rfl:A1=A2:=e2.symm;refine bY _ ?_ hl1;have hc:=ni.ri.cell;refine wG ?_;refine tD ?_;refine ax rfl rfl rfl rfl rfl ?_;refine zI i e0 hlt ?_;refine eP ?_;refine rD ?_;refine zE hh cw ?_;refine eR ?_;refine bW rfl rfl rfl rfl ?_;refine bq rfl rfl rfl ?_;refine bG (fun A2=>ac A1 A2 ag∧A2.heap.get A1.aa=some (.cells 0 false 1 [.str n])) ⟨ac.add ni.Fi.wf _,by rw[AW.add_get,iP rfl];rfl⟩ ?_;rintro A2 ⟨o2,hm2⟩;generalize A1.aa=f10 at hm2;have ni2:=ni.ae o2;have hc2:=ni2.ri.cell;refine oP ?_;refine dR ?_;refine bW rfl rfl rfl rfl ?_;refine bq rfl rfl rfl ?_;refine bG (fun A3=>ac A2 A3 ag∧A3.heap.get A2.aa=some (.cells 0 false 1 [.str w])) ⟨ac.add ni2.Fi.wf _,by rw[AW.add_get,iP rfl];rfl⟩ ?_;rintro A3 ⟨o3,hm3⟩;generalize hf17:A2.aa=f17 at hm3;have hm2:=o3.k hm2;have ni3:=ni2.ae o3;refine oP ?_
  refine aC ?_;refine bE rfl rfl rfl rfl rfl (Be (n:=hs.length) (de:=d9) rfl rfl rfl rfl ni3.Fi.wf ni3.ri.n (yl hm2) rfl dE (cU om dE)) ?_;intro vn' A4 g1;have c4:=g1.Fi.ae _ _ ni3.ri.cell ni3.ri.nn;have v4:zo A4 1 vs hs.length (ip (hs.map Prod.snd)):=gQ ni3.ri.s g1.Fi fun g hg hg'=>ni3.dj g hg' hg;have m4:=g1.Fi.ae _ _ hm3 fun e=>by
   have:=pX ni2.Fi.wf ni2.ri.n _ e;omega
  refine oP ?_;refine⟨⟨.inr (stillS rfl c4 v4),.inl (by show bit 2044 9=true;rfl),.inl (by show bit 2044 5=true;rfl),trivial⟩,?_⟩;have w4:Wf A4:=g1.Fi.wf;refine aC ?_;refine bE rfl rfl rfl rfl rfl (Be (n:=hs.length) (de:=d9) rfl rfl rfl rfl w4 v4 (yl m4) rfl dE (cU om dE)) ?_;intro vs' A5 g2;obtain⟨c5,hpush⟩:=ni3.push hw g1 g2;have w5:Wf A5:=g2.Fi.wf;refine oP ?_;refine⟨⟨.inl (by show bit 262140 15=true;rfl),.inl (by show bit 262140 9=true;rfl),.inl (by show bit 262140 5=true;rfl),trivial⟩,?_⟩;refine aC ?_;refine bx rfl rfl g1.buf.cells rfl rfl rfl c5 rfl ?_;refine bG (fun A6=>ac A5 A6 (one fr)∧A6.heap.get fr=some (.cells 0 false 2 [vn',vs])) ⟨ac.put w5 (w5 _ _ c5),by rw[AW.aw,if_pos rfl]⟩ ?_;rintro A6 ⟨o6,c6⟩;have w6:=o6.wf;refine oP ?_
  refine⟨⟨.inl (by show bit 2097149 15=true;rfl),.inl (by show bit 2097149 9=true;rfl),.inl (by show bit 2097149 5=true;rfl),trivial⟩,?_⟩;refine aC ?_;refine bx rfl rfl g2.buf.cells rfl rfl rfl c6 rfl ?_;refine bG (fun A7=>ac A6 A7 (one fr)∧A7.heap.get fr=some (.cells 0 false 2 [vn',vs'])) ⟨ac.put w6 (w6 _ _ c6),by rw[AW.aw,if_pos rfl]⟩ ?_;rintro A7 ⟨o7,c7⟩;have ni7:=hpush A7 (o6.same o7) c7;refine oP ?_;refine⟨⟨.inl (by show bit 16777215 15=true;rfl),.inl (by show bit 16777215 9=true;rfl),.inl (by show bit 16777215 5=true;rfl),trivial⟩,aK ?_⟩;refine wP ?_;refine ai ?_;refine yL (pv 0 v0 (pv 1 v1 (pp 6 fr (pn 7 (i+1:Nat) .nil)))) ?_;refine ih (i+1,hs++[(n,w)],vn',vs') A7 (by simp only;omega) ⟨ni7,hlt,by simp only[lA,lS];omega,hadd,uq_app huq hno,hd_app hhd _,?_,?_⟩
  ·show (hs++[(n,w)]).map Prod.fst=bB::cV::ns.take (i+1);rw[mA,hnm,List.take_add_one,hn];rfl
  ·show (hs++[(n,w)])[1]?=_;rw[List.getElem?_append_left om];exact hsp
 have hge:i=ns.length:=by
  omega
 have hdz:(ns.zip ss).drop i=[]:=List.drop_eq_nil_of_le (by rw[List.length_zip];omega);rw[hdz] at hadd;have hadd:bO (ns.zip ss) base=(hs,0):=hadd.symm;rw[hadd] at hN;have hN:dy ns ss=if ∃n∈ns,¬has hs (up hs n)=true then ([],70) else if ∃n∈ns,cA hs (hs.length+1) n=true then ([],71) else (hs,0):=hN.trans (if_neg fun h=>h rfl)
 have hW:Whole ns hs:=⟨huq,by rw[hnm,hge,tL],hsp⟩;have hri:=ni.ri;have hc:=hri.cell;have h100:hs.length≤100:=om;refine ay rfl ?_;refine gO ?_;refine aE ?_;refine yL (pp 6 fr (pn 9 (1:Nat) .nil)) ?_;refine aV (ι:=Nat) (fun j=>hs.length-j) (fun j=>pp 6 fr (pn 9 j .nil)) (fun j A2=>A2=A1∧1≤j∧j≤hs.length∧∀(m:Nat) (p:Str×Str),1≤m→m<j→hs[m]?=some p→has hs p.2=true) ?_ 1 A1 ⟨rfl,Nat.le_refl _,om,fun m p h h'=>om⟩;rintro j A2 ⟨e2,hj1,hj,hp⟩ ih2;obtain rfl:A1=A2:=e2.symm;refine wJ (mg hri.n) ?_;refine zG (fun hlt=>?_) fun hge2=>?_
 ·have hlt:j<hs.length:=Int.ofNat_lt.1 hlt;obtain⟨⟨k,s⟩,hks⟩:∃p,hs[j]?=some p:=⟨hs[j],gE hlt⟩;have hS:(hs.map Prod.snd)[j]?=some s:=by rw[List.getElem?_map,hks];rfl
  obtain⟨fb,tb,ob,cb,exb,rob,allb,eb,hhb,hlb,hatb⟩:=cZ hri.rs hS;refine wI eb hlb ?_;refine zE hhb hatb ?_;refine zC rfl (gS hri h100) ?_;rintro r A2 ⟨rfl,e2⟩;obtain rfl:A1=A2:=e2.symm;refine wD (fun hx=>?_) fun hx=>?_
  ·have hx:¬has hs s=true:=fun h=>by
    have h:=(fW hs s).2 h;omega
   have e:dy ns ss=([],70):=hN.trans (iP (hW.lost hks hj1 hx));refine gO ?_;exact af rfl ⟨ni.Fi,kM e dE rfl⟩
  ·have hx:has hs s=true:=(fW hs s).1 (by
    omega)
   refine wP ?_;refine ai ?_;refine yL (pp 6 fr (pn 9 (j+1:Nat) .nil)) ?_;refine ih2 (j+1) A1 om ⟨rfl,om,hlt,fun m p h1 h2 h3=>?_⟩;by_cases hm:m=j
   ·subst hm;rw[hks] at h3;cases h3;exact hx
   ·exact hp m p h1 om h3
 have hall:∀(m:Nat) (p:Str×Str),1≤m→hs[m]?=some p→has hs p.2=true:=fun m p h1 h2=>hp m p h1 (by
  have:=(List.getElem?_eq_some_iff.1 h2).1;omega) h2
 have hN:dy ns ss=if ∃n∈ns,cA hs (hs.length+1) n=true then ([],71) else (hs,0):=hN.trans (iN (hW.found hall))
 refine ay rfl ?_;refine gO ?_;refine aE ?_;refine yL (pp 6 fr (pn 10 (1:Nat) .nil)) ?_;refine aV (ι:=Nat) (fun j=>hs.length-j) (fun j=>pp 6 fr (pn 10 j .nil)) (fun j A2=>A2=A1∧1≤j∧j≤hs.length∧∀(m:Nat) (p:Str×Str),1≤m→m<j→hs[m]?=some p→cA hs (hs.length+1) p.1=false) ?_ 1 A1 ⟨rfl,Nat.le_refl _,om,fun m p h h'=>om⟩;rintro k A2 ⟨e2,hk1,hk,hq⟩ ih3;obtain rfl:A1=A2:=e2.symm;refine wJ (mg hri.n) ?_;refine zG (fun hlt=>?_) fun hge3=>?_
 ·have hlt:k<hs.length:=Int.ofNat_lt.1 hlt;obtain⟨⟨n0,s0⟩,hks⟩:∃p,hs[k]?=some p:=⟨hs[k],gE hlt⟩;have hn0:=(Bc huq hks).1;have hix:ix (hs.map Prod.fst) n0 0=(k:Int):=huq k _ hks;refine gO ?_;refine aE ?_;refine bY (pp 6 fr (pn 10 k (pz 11 (ix (hs.map Prod.fst) n0 0) (pn 12 0 .nil)))) ?_ ⟨rfl,rfl,by rw[hix];rfl,rfl,trivial⟩;refine aV (ι:=Nat×Str) (fun i=>hs.length+2-i.1) (fun i=>pp 6 fr (pn 10 k (pz 11 (ix (hs.map Prod.fst) i.2 0) (pn 12 i.1 .nil))))
   (fun i A2=>A2=A1∧i.1≤hs.length+1∧has hs i.2=true∧cA hs (hs.length+1-i.1) i.2=cA hs (hs.length+1) n0) ?_ (0,n0) A1 ⟨rfl,Nat.zero_le _,hn0,rfl⟩
  rintro ⟨m,q⟩ A2 ⟨e2,hm,hqh,hrq⟩ ih4;obtain rfl:A1=A2:=e2.symm;have hqh:has hs q=true:=hqh;have hrq:cA hs (hs.length+1-m) q=cA hs (hs.length+1) n0:=hrq;have hq0:=(fW hs q).2 hqh;refine gO ?_;by_cases c1:0<ix (hs.map Prod.fst) q 0
  ·refine wT 104 c1 ?_;have hqo:¬q=bB:=fun e=>by
    have:=(pS hhd q).2 e;omega
   refine wJ (mg hri.n) ?_;refine zG (fun hml=>?_) fun hml=>?_
   ·obtain⟨w,hlk⟩:∃w,lk hs q=some w:=by
     unfold has at hqh;exact Option.isSome_iff_exists.1 hqh
    obtain⟨j',hj1',hj2'⟩:=uW hs q w 0 hlk;rw[Nat.zero_add] at hj1';have hup:=Bd hlk;have hS:(hs.map Prod.snd)[j']?=some w:=by rw[List.getElem?_map,hj2'];rfl
    obtain⟨fb,tb,ob,cb,exb,rob,allb,eb,hhb,hlb,hatb⟩:=cZ hri.rs hS;have hwh:has hs w=true:=hall j' _ om hj2';have e:cA hs (hs.length+1-m) q=cA hs (hs.length+1-(m+1)) w:=by
     rw[show hs.length+1-m=(hs.length+1-(m+1))+1 from by omega]
     conv=>lhs;unfold cA
     rw[iN hqo,hup]
    refine gO ?_;refine bg j' rfl (congrArg some eb) rfl rfl hj1' hlb ?_;refine zE hhb hatb ?_;refine zC rfl (gS hri h100) ?_;rintro r A2 ⟨rfl,e2⟩;obtain rfl:A1=A2:=e2.symm;refine wP ?_;refine ai ?_;refine yL (pp 6 fr (pn 10 k (pz 11 (ix (hs.map Prod.fst) w 0) (pn 12 (m+1:Nat) .nil)))) ?_;exact ih4 (m+1,w) A1 (by simp only;omega) ⟨rfl,by simp only;omega,hwh,by rw[←hrq,e]⟩
   ·have hml:m=hs.length+1:=om;have hr:cA hs (hs.length+1) n0=true:=by
     rw[←hrq,hml,Nat.sub_self];exact yT hqo
    have e:dy ns ss=([],71):=hN.trans (iP (hW.ring hks hk1 hr));refine ay rfl ?_;refine gO ?_;refine cD rfl (fun _=>?_) fun h=>absurd (fun e=>hqo ((pS hhd q).1 e)) h;refine gO ?_;exact af rfl ⟨ni.Fi,kM e dE rfl⟩
  ·refine wF 104 c1 ?_;have hqo:q=bB:=(pS hhd q).1 om;have hr:cA hs (hs.length+1) n0=false:=by
    rw[←hrq,hqo];cases hs.length+1-m with
    | zero=>exact yF fun h=>h rfl
    | succ x=>unfold cA;rw[iP rfl]
   refine rU ?_;refine ay rfl ?_;refine gO ?_;refine cD rfl (fun h=>absurd ((pS hhd q).2 hqo) h) fun _=>?_;refine wP ?_;refine ai ?_;refine yL (pp 6 fr (pn 10 (k+1:Nat) .nil)) ?_;refine ih3 (k+1) A1 om ⟨rfl,om,hlt,fun m' p h1 h2 h3=>?_⟩;by_cases hm':m'=k
   ·subst hm';rw[hks] at h3;cases h3;exact hr
   ·exact hq m' p h1 om h3
 have hN:dy ns ss=(hs,0):=hN.trans (iN (hW.noring fun m p h1 h2=>hq m p h1 (by
  have:=(List.getElem?_eq_some_iff.1 h2).1;omega) h2))
 refine ay rfl ?_;refine gO ?_;refine af rfl ⟨ni.Fi,.inr ⟨by rw[hN],fr,vn,vs,rfl,?_,?_⟩⟩
 ·rw[hN];exact hri
 ·rw[hN];exact hhd
end Go.Proofs.YtafamggbkobcfaaGreat.Ae
