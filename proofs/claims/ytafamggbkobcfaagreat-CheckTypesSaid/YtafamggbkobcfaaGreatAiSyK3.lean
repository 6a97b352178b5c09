/- A part of the proof of the statement CheckTypes. -/
import Derived.Test.YtafamggbkobcfaaGreatAiSyT17
import Derived.Test.YtafamggbkobcfaaGreatAiSyP18
namespace Go.Proofs.YtafamggbkobcfaaGreat.Ae
open Go.AE
set_option linter.unusedVariables false
set_option maxRecDepth 100000
def cV:Str:=[70,97,117,108,116]
def base:Hs:=[(bB,[]),(cV,bB)]
def bO:List (Str×Str)→Hs→Hs×Int
 | [],hs=>(hs,0)
 | (n,s)::l,hs=>if ¬rI n then ([],50) else if has hs n=true then ([],53) else bO l (hs++[(n,if s=[] then bB else s)])
def dy(ns ss:List Str): Hs×Int:=
 if ns.length≠ss.length then ([],50) else if 16<ns.length then ([],32) else if (bO (ns.zip ss) base).2≠0 then ([],(bO (ns.zip ss) base).2)
 else if ∃n∈ns,¬has (bO (ns.zip ss) base).1 (up (bO (ns.zip ss) base).1 n)=true then ([],70)
 else if ∃n∈ns,cA (bO (ns.zip ss) base).1 ((bO (ns.zip ss) base).1.length+1) n=true then ([],71) else ((bO (ns.zip ss) base).1,0)
structure NI (A A1:AW) (fr fm:Nat) (vn:AV) (names:List Str) (hs:Hs) : Prop where
 cell:A1.heap.get fr=some (.cells 0 false 2 [vn,.map fm])
 map:A1.heap.get fm=some (.map (uU hs))
 vec:zo A1 1 vn names.length (ip names)
 Fi:ac A A1 ag
 n1:A.aa≤fr
 n2:A.aa≤fm
 n3:∀g,vn.av g→A.aa≤g
theorem NI.hi{A A1:AW}{fr fm:Nat}{vn:AV}{names:List Str}{hs:Hs}(h:NI A A1 fr fm vn names hs)(e:names=hs.map Prod.fst): Hi A1 fr fm vn hs:=
 ⟨h.cell,h.map,by have:=h.vec;rw[e,List.length_map] at this;exact this⟩
theorem NI.set{A A1:AW}{fr fm:Nat}{vn:AV}{names:List Str}{hs:Hs}(hw:Wf A)(h:NI A A1 fr fm vn names hs)(hs':Hs): NI A (A1.put fm (.map (uU hs'))) fr fm vn names hs':=by
 have op:ac A1 (A1.put fm (.map (uU hs'))) (one fm):=ac.put h.Fi.wf (h.Fi.wf _ _ h.map);refine⟨op.ae _ _ h.cell fun e=>?_,by rw[AW.aw,if_pos rfl],gQ h.vec op fun g hg e=>?_,ac.fresh hw h.Fi op fun g hg=>by cases hg;exact h.n2,h.n1,h.n2,h.n3⟩
 ·have e:fr=fm:=e;have:=h.cell;rw[e,h.map] at this;cases this
 ·cases e;obtain⟨t,ht⟩:=fj h.vec hg;rw[h.map] at ht;cases ht
theorem NI.push{A A1 A2:AW}{fr fm:Nat}{vn vn':AV}{names:List Str}{hs:Hs}{n:Str}(hw:Wf A)(h:NI A A1 fr fm vn names hs)(g:xM A1 A2 1 vn vn' (names.length+1) (ip names++[.str n])):
 A2.heap.get fr=some (.cells 0 false 2 [vn,.map fm])∧NI A (A2.put fr (.cells 0 false 2 [vn',.map fm])) fr fm vn' (names++[n]) hs:=by
 have u1:¬vn.av fr:=fun e=>by
  obtain⟨t,ht⟩:=fj h.vec e;rw[h.cell] at ht;cases ht
 have u2:¬vn.av fm:=fun e=>by
  obtain⟨t,ht⟩:=fj h.vec e;rw[h.map] at ht;cases ht
 obtain⟨c2,m2⟩:=g.Fi.k2 h.cell h.map;have o2:ac A A2 ag:=ac.fresh hw h.Fi g.Fi h.n3;have op:ac A2 (A2.put fr (.cells 0 false 2 [vn',.map fm])) (one fr):=ac.put o2.wf (o2.wf _ _ c2);refine⟨c2,by rw[AW.aw,if_pos rfl],op.ae _ _ m2 fun e=>?_,?_,ac.fresh hw o2 op fun g hg=>by cases hg;exact h.n1,h.n1,h.n2,fun k hk=>?_⟩
 ·have e:fm=fr:=e;rw[e,c2] at m2;cases m2
 ·have b:eH A2 1 vn' (names++[n]).length (ip (names++[n])):=by
   have:=g.buf;rw[List.length_append,List.length_singleton,dZ];exact this
  refine gQ (.inl b) op fun k hk e=>?_;cases e;obtain⟨t,ht⟩:=fj (.inl b) hk;rw[c2] at ht;cases ht
 ·rcases g.grow k hk with h'|h'
  ·exact h.n3 k h'
  ·exact Nat.le_trans h.Fi.aa h'
theorem wr{n:Str}:∀(hs:Hs) (p:Str×Str),lk (hs++[p]) n=match lk hs n with|some v=>some v|none=>if n=p.1 then some p.2 else none
 | [],p=>rfl
 | q::l,p=>by
  show (if n=q.1 then some q.2 else lk (l++[p]) n)=_;rw[wr l p];show _=match (if n=q.1 then some q.2 else lk l n) with|some v=>some v|none=>if n=p.1 then some p.2 else none
  by_cases h:n=q.1
  ·rw[if_pos h,if_pos h]
  ·rw[if_neg h,if_neg h]
theorem AX{n w:Str}:∀(hs:Hs) (s:Str),lk hs n=none→upd (hs++[(n,s)]) n w=hs++[(n,w)]
 | [],s,_=>by
  show (if n=n then _ else _)=_;rw[if_pos rfl];rfl
 | q::l,s,h=>by
  unfold lk at h;by_cases hq:n=q.1
  ·rw[if_pos hq] at h;cases h
  ·rw[if_neg hq] at h;show (if n=q.1 then _ else q::upd (l++[(n,s)]) n w)=_;rw[if_neg hq,AX l s h];rfl
theorem tQ{hs:Hs}{n:Str}(h:has hs n=false): lk hs n=none:=by
 unfold has at h;cases hx:lk hs n with
 | none=>rfl
 | some v=>rw[hx] at h;cases h
theorem mJ{A A1:AW}{ns ss:List Str}{r:AV}{e:Int}(h:dy ns ss=([],e))(he:e≠0)(hr:r=.tuple [.bJ,.int .i64 e]):
 ((dy ns ss).2≠0∧r=.tuple [.bJ,.int .i64 (dy ns ss).2])∨((dy ns ss).2=0∧∃fr fm vn,r=.tuple [.ptr fr 0 0,.int .i64 0]∧Hi A1 fr fm vn (dy ns ss).1):=by
 rw[h];exact .inl ⟨he,hr⟩
theorem EN{K:FuncId}{A:AW}{v0 v1:AV}{ns ss:List Str}(hw:Wf A)(hr0:Row A 1 v0 ns.length (ip ns))(hr1:Row A 1 v1 ss.length (ip ss)):
 aD (ES K) 76 [v0,v1] A fun r A1=>ac A A1 ag∧
  (((dy ns ss).2≠0∧r=.tuple [.bJ,.int .i64 (dy ns ss).2])∨((dy ns ss).2=0∧∃fr fm vn,r=.tuple [.ptr fr 0 0,.int .i64 0]∧Hi A1 fr fm vn (dy ns ss).1)):=by
 refine ap rfl rfl rfl ?_;refine gO ?_;refine zJ hr0.bm ?_;refine gO ?_;refine zJ hr1.bm ?_;refine gO ?_;refine zG (fun h1=>?_) fun h1=>?_
 ·have h1:ns.length≠ss.length:=fun e=>h1 (by rw[e]);have e:dy ns ss=([],50):=by unfold dy;rw[if_pos h1]
  refine gO ?_;exact af rfl ⟨ac.refl hw _,mJ (A:=A) e (by decide) rfl⟩
 have h1:ns.length=ss.length:=by
  omega
 refine gO ?_;refine zJ hr0.bm ?_;refine gO ?_;refine zG (fun h2=>?_) fun h2=>?_
 ·have h2:16<ns.length:=by
   omega
  have e:dy ns ss=([],32):=by unfold dy;rw[if_neg (fun h=>h h1),if_pos h2]
  refine gO ?_;exact af rfl ⟨ac.refl hw _,mJ (A:=A) e (by decide) rfl⟩
 have h2:¬16<ns.length:=by
  omega
 have hN:dy ns ss=if (bO (ns.zip ss) base).2≠0 then ([],(bO (ns.zip ss) base).2) else if ∃n∈ns,¬has (bO (ns.zip ss) base).1 (up (bO (ns.zip ss) base).1 n)=true then ([],70)
  else if ∃n∈ns,cA (bO (ns.zip ss) base).1 ((bO (ns.zip ss) base).1.length+1) n=true then ([],71) else ((bO (ns.zip ss) base).1,0):=by
  unfold dy;rw[if_neg (fun h=>h h1),if_neg h2]
 refine gO ?_;refine bG (fun A1=>ac A A1 ag∧A1.heap.get A.aa=some (.cells 0 false 1 [.str bB,.str cV])) ⟨ac.add hw _,by rw[AW.add_get,if_pos rfl];rfl⟩ ?_;rintro A1 ⟨o1,hn1⟩;generalize hfn:A.aa=fn at hn1;have n1:A.aa≤fn:=by omega
 refine zn rfl ?_;refine bG (fun A2=>ac A1 A2 ag∧A2.heap.get A1.aa=some (.map (uU []))) ⟨ac.add o1.wf _,by rw[AW.add_get,if_pos rfl];rfl⟩ ?_;rintro A2 ⟨o2,hm2⟩;have n2:=o1.aa;generalize A1.aa=fm at hm2 n2;have hn2:=o2.k hn1;have o12:=o1.same o2;have ne:fn≠fm:=fun e=>by
  rw[e,hm2] at hn2;cases hn2
 refine uV (kv:=.str bB) (xv:=.str []) rfl rfl rfl (nZ (hs:=[]) hm2 rfl) ?_;refine bG (fun A3=>ac A A3 ag∧A3.heap.get fm=some (.map (uU [(bB,[])]))∧A3.heap.get fn=some (.cells 0 false 1 [.str bB,.str cV])) ⟨ac.fresh hw o12 (ac.put o12.wf (o12.wf _ _ hm2)) fun g hg=>by cases hg;exact n2,by rw[AW.aw,if_pos rfl];rfl,by rw[AW.aw,if_neg ne];exact hn2⟩ ?_;rintro A3 ⟨o3,hm3,hn3⟩;refine uV (kv:=.str cV) (xv:=.str bB) rfl rfl rfl (nZ (hs:=[(bB,[])]) hm3 (by decide)) ?_;refine bG (fun A4=>ac A A4 ag∧A4.heap.get fm=some (.map (uU base))∧A4.heap.get fn=some (.cells 0 false 1 [.str bB,.str cV])) ⟨ac.fresh hw o3 (ac.put o3.wf (o3.wf _ _ hm3)) fun g hg=>by cases hg;exact n2,by rw[AW.aw,if_pos rfl];rfl,by rw[AW.aw,if_neg ne];exact hn3⟩ ?_;rintro A4 ⟨o4,hm4,hn4⟩;refine gO ?_;refine bA rfl rfl rfl rfl ?_
 refine bG (fun A5=>NI A A5 A4.aa fm (.slice fn 0 0 2 2 true) [bB,cV] base) ⟨by rw[AW.add_get,if_pos rfl];rfl,(ac.add o4.wf ag).ae _ _ hm4 fun h=>h,.inr ⟨fn,0,rfl,(ac.add o4.wf ag).ae _ _ hn4 fun h=>h,rfl⟩,o4.same (ac.add o4.wf _),o4.aa,n2,fun g hg=>by cases hg;exact n1⟩ ?_;rintro A5 ni;generalize A4.aa=fr at ni;refine gO ?_;refine zJ hr0.bm ?_;refine gO ?_;refine aE ?_;refine yL (pv 0 v0 (pv 1 v1 (pp 6 fr (pv 28 v0 (pn 29 ns.length (pn 30 0 .nil)))))) ?_;refine aV (ι:=Nat×Hs×AV) (fun i=>ns.length-i.1) (fun i=>pv 0 v0 (pv 1 v1 (pp 6 fr (pv 28 v0 (pn 29 ns.length (pn 30 i.1 .nil))))))
  (fun i A1=>NI A A1 fr fm i.2.2 (i.2.1.map Prod.fst) i.2.1∧i.1≤ns.length∧i.2.1.length=i.1+2∧bO ((ns.zip ss).drop i.1) i.2.1=bO (ns.zip ss) base) ?_ (0,base,.slice fn 0 0 2 2 true) A5 ⟨ni,Nat.zero_le _,rfl,rfl⟩
 rintro ⟨i,hs,vn⟩ A1 ⟨ni,hi,hl,hadd⟩ ih;have ni:NI A A1 fr fm vn (hs.map Prod.fst) hs:=ni;have hl:hs.length=i+2:=hl;have hadd:bO ((ns.zip ss).drop i) hs=bO (ns.zip ss) base:=hadd;have hr0':=hr0.k ni.Fi;refine gO ?_;refine zG (fun hlt=>?_) fun hge=>?_
 ·have hlt:i<ns.length:=Int.ofNat_lt.1 hlt;have hlt1:i<ss.length:=by omega
  obtain⟨n,hn⟩:∃n,ns[i]?=some n:=⟨ns[i],List.getElem?_eq_getElem hlt⟩;obtain⟨s,hs1⟩:∃s,ss[i]?=some s:=⟨ss[i],List.getElem?_eq_getElem hlt1⟩;have hz:(ns.zip ss)[i]?=some (n,s):=List.getElem?_zip_eq_some.2 ⟨hn,hs1⟩;have hzl:=(List.getElem?_eq_some_iff.1 hz).1;have hd:(ns.zip ss).drop i=(n,s)::(ns.zip ss).drop (i+1):=by
   rw[List.getElem?_eq_getElem hzl,Option.some.injEq] at hz;rw[←hz];exact List.drop_eq_getElem_cons hzl
  rw[hd] at hadd;have hadd:(if ¬rI n then ([],50) else if has hs n=true then ([],53) else bO ((ns.zip ss).drop (i+1)) (hs++[(n,if s=[] then bB else s)]))=bO (ns.zip ss) base:=hadd;obtain⟨f,t,o,c,ex,ro,all,e0,hh,_,cw⟩:=cZ hr0' hn;refine gO ?_;refine zI i e0 hlt ?_;refine zE hh cw ?_;refine gO ?_;refine zC rfl xR ?_;rintro r A2 ⟨rfl,e2⟩;obtain rfl:A1=A2:=e2.symm;refine gO ?_;refine fh rfl (fun hb=>?_) fun hb=>?_
  ·have hb:¬rI n:=fun h=>by rw[decide_eq_true h] at hb;cases hb
   rw[if_pos hb] at hadd;have e:dy ns ss=([],50):=by rw[hN,←hadd,if_pos (by decide)]
   refine gO ?_;exact af rfl ⟨ni.Fi,mJ (A:=A) e (by decide) rfl⟩
  have hb:rI n:=Decidable.byContradiction fun h=>by rw[decide_eq_false h] at hb;cases hb
  rw[if_neg (fun h=>h hb)] at hadd;refine gO ?_;refine zC rfl (gR (ni.hi rfl)) ?_;rintro r A2 ⟨rfl,e2⟩;obtain rfl:A1=A2:=e2.symm;refine gO ?_;refine fh rfl (fun hb2=>?_) fun hb2=>?_
  ·rw[if_pos hb2] at hadd;have e:dy ns ss=([],53):=by rw[hN,←hadd,if_pos (by decide)]
   refine gO ?_;exact af rfl ⟨ni.Fi,mJ (A:=A) e (by decide) rfl⟩
  rw[if_neg (fun h=>by rw[hb2] at h;cases h)] at hadd;have hnone:=tQ hb2;have hc:=ni.cell;refine gO ?_;refine bE rfl rfl rfl rfl rfl (zp (n:=(hs.map Prod.fst).length) (de:=d9) rfl rfl rfl rfl ni.Fi.wf ni.vec rfl (by decide) (cU (by rw[List.length_map];omega) (by decide))) ?_;intro vn' A2 g;obtain⟨hc2,ni3⟩:=ni.push hw g;refine gO ?_;refine bx rfl rfl g.buf.cells rfl rfl rfl hc2 rfl ?_;refine bG (fun A3=>NI A A3 fr fm vn' (hs.map Prod.fst++[n]) hs) ni3 ?_;intro A3 ni3;have hc3:=ni3.cell;obtain⟨f1,t1,o1',c1,ex1,ro1,all1,e1,hh1,_,hat1⟩:=cZ (hr1.ae ni3.Fi fun _ _ h=>h) hs1;refine gO ?_;refine tD ?_;refine ax rfl rfl rfl rfl rfl ?_;refine zI i e1 hlt1 ?_;refine eP ?_;refine rD ?_;refine zE hh1 hat1 ?_;refine eR ?_;refine aC ?_;refine pf rfl rfl rfl (nZ ni3.map hnone) ?_;have ni4:=ni3.set hw (hs++[(n,s)])
  refine bG (fun A4=>NI A A4 fr fm vn' (hs.map Prod.fst++[n]) (hs++[(n,s)])) ni4 ?_;intro A4 ni4;refine oP ?_;refine⟨⟨.inl (by show bit 511 8=true;rfl),.inl (by show bit 511 3=true;rfl),trivial⟩,aK ?_⟩;obtain⟨f2,t2,o2',c2,ex2,ro2,all2,e2,hh2,_,hat2⟩:=cZ (hr1.ae ni4.Fi fun _ _ h=>h) hs1;refine gO ?_;refine zI i e2 hlt1 ?_;refine zE hh2 hat2 ?_;refine gO ?_;refine zG (fun h0=>?_) fun h0=>?_
  ·have h0:s=[]:=h0;rw[if_pos h0] at hadd;have hc4:=ni4.cell;have hlk:lk (hs++[(n,s)]) n=some s:=by
    rw[wr,hnone];exact if_pos rfl
   refine gO ?_;refine pf (xv:=.str bB) rfl rfl rfl (zm ni4.map hlk) ?_;rw[AX hs s hnone];have ni5:=ni4.set hw (hs++[(n,bB)]);refine bG (fun A5=>NI A A5 fr fm vn' (hs.map Prod.fst++[n]) (hs++[(n,bB)])) ni5 ?_;intro A5 ni5;refine gO ?_;refine zP ?_;refine gO ?_;refine ai ?_;refine yL (pv 0 v0 (pv 1 v1 (pp 6 fr (pv 28 v0 (pn 29 ns.length (pn 30 (i+1:Nat) .nil)))))) ?_;refine ih (i+1,hs++[(n,bB)],vn') A5 (by simp only;omega) ⟨?_,hlt,by simp only[List.length_append,List.length_singleton];omega,hadd⟩;simp only[List.map_append];exact ni5
  ·have h0:¬s=[]:=h0;rw[if_neg h0] at hadd;refine gO ?_;refine zP ?_;refine gO ?_;refine ai ?_;refine yL (pv 0 v0 (pv 1 v1 (pp 6 fr (pv 28 v0 (pn 29 ns.length (pn 30 (i+1:Nat) .nil)))))) ?_;refine ih (i+1,hs++[(n,s)],vn') A4 (by simp only;omega) ⟨?_,hlt,by simp only[List.length_append,List.length_singleton];omega,hadd⟩;simp only[List.map_append];exact ni4
 have hdz:(ns.zip ss).drop i=[]:=List.drop_eq_nil_of_le (by rw[List.length_zip];omega);rw[hdz] at hadd;have hadd:bO (ns.zip ss) base=(hs,0):=hadd.symm;rw[hadd] at hN;have hN:dy ns ss=if ∃n∈ns,¬has hs (up hs n)=true then ([],70) else if ∃n∈ns,cA hs (hs.length+1) n=true then ([],71) else (hs,0):=hN.trans (if_neg fun h=>h rfl)
 have hi':=ni.hi rfl;refine ay rfl ?_;refine gO ?_;refine zJ hr0'.bm ?_;refine gO ?_;refine aE ?_;refine yL (pv 0 v0 (pp 6 fr (pv 73 v0 (pn 74 ns.length (pn 75 0 .nil))))) ?_;refine aV (ι:=Nat) (fun i=>ns.length-i) (fun i=>pv 0 v0 (pp 6 fr (pv 73 v0 (pn 74 ns.length (pn 75 i .nil))))) (fun i A2=>A2=A1∧i≤ns.length∧∀n∈ns.take i,has hs (up hs n)=true) ?_ 0 A1 ⟨rfl,Nat.zero_le _,fun n hn=>by simp at hn⟩;rintro j A2 ⟨e2,hj,hp⟩ ih2;obtain rfl:A1=A2:=e2.symm;refine gO ?_;refine zG (fun hlt=>?_) fun hge2=>?_
 ·have hlt:j<ns.length:=Int.ofNat_lt.1 hlt;obtain⟨n,hn⟩:∃n,ns[j]?=some n:=⟨ns[j],List.getElem?_eq_getElem hlt⟩;obtain⟨f,t,o,c,ex,ro,all,e0,hh,_,cw⟩:=cZ hr0' hn;have hc:=hi'.cell;refine gO ?_;refine zI j e0 hlt ?_;refine zE hh cw ?_;refine gO ?_;refine mI rfl rfl rfl (mH false hi'.map) ?_;refine zC rfl (gR hi') ?_;rintro r A2 ⟨rfl,e2⟩;obtain rfl:A1=A2:=e2.symm;refine gO ?_;refine fh rfl (fun hb=>?_) fun hb=>?_
  ·have hb:¬has hs (up hs n)=true:=fun h=>by
    have hb:(!has hs (up hs n))=true:=hb;rw[h] at hb;cases hb
   have e:dy ns ss=([],70):=hN.trans (if_pos ⟨n,List.mem_of_getElem? hn,hb⟩);refine gO ?_;exact af rfl ⟨ni.Fi,mJ (A:=A) e (by decide) rfl⟩
  ·have hb:has hs (up hs n)=true:=by
    have hb:(!has hs (up hs n))=false:=hb;cases hx:has hs (up hs n)
    ·rw[hx] at hb;cases hb
    ·rfl
   refine gO ?_;refine zP ?_;refine gO ?_;refine ai ?_;refine yL (pv 0 v0 (pp 6 fr (pv 73 v0 (pn 74 ns.length (pn 75 (j+1:Nat) .nil))))) ?_;refine ih2 (j+1) A1 om ⟨rfl,hlt,fun m hm=>?_⟩;rw[List.take_add_one,hn] at hm;rcases List.mem_append.1 hm with hm|hm
   ·exact hp m hm
   ·simp at hm;rw[hm];exact hb
 have hge2:j=ns.length:=by
  omega
 rw[hge2,List.take_length] at hp;have hN:dy ns ss=if ∃n∈ns,cA hs (hs.length+1) n=true then ([],71) else (hs,0):=hN.trans (if_neg fun ⟨n,h1,h2⟩=>h2 (hp n h1))
 refine ay rfl ?_;refine gO ?_;refine zJ hr0'.bm ?_;refine gO ?_;refine aE ?_;refine yL (pp 6 fr (pv 89 v0 (pn 90 ns.length (pn 91 0 .nil)))) ?_;refine aV (ι:=Nat) (fun i=>ns.length-i) (fun i=>pp 6 fr (pv 89 v0 (pn 90 ns.length (pn 91 i .nil)))) (fun i A2=>A2=A1∧i≤ns.length∧∀n∈ns.take i,¬cA hs (hs.length+1) n=true) ?_ 0 A1 ⟨rfl,Nat.zero_le _,fun n hn=>by simp at hn⟩;rintro k A2 ⟨e2,hk,hq⟩ ih3;obtain rfl:A1=A2:=e2.symm;refine gO ?_;refine zG (fun hlt=>?_) fun hge3=>?_
 ·have hlt:k<ns.length:=Int.ofNat_lt.1 hlt;obtain⟨n,hn⟩:∃n,ns[k]?=some n:=⟨ns[k],List.getElem?_eq_getElem hlt⟩;obtain⟨f,t,o,c,ex,ro,all,e0,hh,_,cw⟩:=cZ hr0' hn;refine gO ?_;refine zI k e0 hlt ?_;refine zE hh cw ?_;refine gO ?_;refine zC rfl (zt hi' (by omega)) ?_;rintro r A2 ⟨rfl,e2⟩;obtain rfl:A1=A2:=e2.symm;refine gO ?_;refine fh rfl (fun hb=>?_) fun hb=>?_
  ·have e:dy ns ss=([],71):=hN.trans (if_pos ⟨n,List.mem_of_getElem? hn,hb⟩);refine gO ?_;exact af rfl ⟨ni.Fi,mJ (A:=A) e (by decide) rfl⟩
  ·refine gO ?_;refine zP ?_;refine gO ?_;refine ai ?_;refine yL (pp 6 fr (pv 89 v0 (pn 90 ns.length (pn 91 (k+1:Nat) .nil)))) ?_;refine ih3 (k+1) A1 om ⟨rfl,hlt,fun m hm=>?_⟩;rw[List.take_add_one,hn] at hm;rcases List.mem_append.1 hm with hm|hm
   ·exact hq m hm
   ·simp at hm;rw[hm,hb];decide
 have hge3:k=ns.length:=by
  omega
 rw[hge3,List.take_length] at hq;have hN:dy ns ss=(hs,0):=hN.trans (if_neg fun ⟨n,h1,h2⟩=>hq n h1 h2);refine ay rfl ?_;refine gO ?_;refine af rfl ⟨ni.Fi,.inr ⟨by rw[hN],fr,fm,vn,rfl,?_⟩⟩;rw[hN];exact hi'
end Go.Proofs.YtafamggbkobcfaaGreat.Ae
namespace Go.Proofs.YtafamggbkobcfaaGreat.Ae
open Go.AE
set_option linter.unusedVariables false
structure Inv (ns:List Str) (hs:Hs) : Prop where
 obj:lk hs bB=some []
 fau:lk hs cV=some bB
 keys:∀k,has hs k=true→k=bB∨k=cV∨k∈ns
 sm:∀k v,lk hs k=some v→small v
 nz:has hs []=false
theorem uZ:small bB:=by intro b hb;revert b;decide
theorem Ds(ns:List Str): Inv ns base:=by
 refine⟨rfl,rfl,fun k h=>?_,fun k v h=>?_,rfl⟩
 ·unfold has base lk at h;by_cases h1:k=bB
  ·exact .inl h1
  ·rw[iN h1] at h;unfold lk at h;by_cases h2:k=cV
   ·exact .inr (.inl h2)
   ·rw[iN h2] at h;cases h
 ·unfold base lk at h;by_cases h1:k=bB
  ·rw[iP h1] at h;cases h;exact fun b hb=>absurd hb (List.not_mem_nil)
  ·rw[iN h1] at h;unfold lk at h;by_cases h2:k=cV
   ·rw[iP h2] at h;cases h;exact uZ
   ·rw[iN h2] at h;cases h
theorem tR{ns:List Str}:∀(l:List (Str×Str)) (hs hs':Hs),bO l hs=(hs',0)→(∀p∈l,p.1∈ns∧small p.2)→Inv ns hs→Inv ns hs'∧hs'.length=hs.length+l.length
 | [],hs,hs',h,_,hi=>by
  cases h;exact⟨hi,rfl⟩
 | (n,s)::l,hs,hs',h,hp,hi=>by
  have h:(if ¬rI n then ([],50) else if has hs n=true then ([],53) else bO l (hs++[(n,if s=[] then bB else s)]))=(hs',0):=h;by_cases h1:rI n
  ·rw[iN (fun h=>h h1)] at h;by_cases h2:has hs n=true
   ·rw[iP h2] at h;cases h
   ·rw[iN h2] at h;have hno:has hs n=false:=by
     cases hx:has hs n
     ·rfl
     ·exact absurd hx h2
    have hlk:=tQ hno;have hq:=hp _ (List.mem_cons_self ..);have hs2:small (if s=[] then bB else s):=by
     split
     ·exact uZ
     ·exact hq.2
    generalize hw:(if s=[] then bB else s)=w at h hs2;have e:∀k,lk (hs++[(n,w)]) k=match lk hs k with|some v=>some v|none=>if k=n then some w else none:=fun k=>wr hs (n,w)
    have hinv:Inv ns (hs++[(n,w)]):=by
     refine⟨by rw[e,hi.obj],by rw[e,hi.fau],fun k hk=>?_,fun k v hk=>?_,?_⟩
     ·cases hx:lk hs k with
      | some v=>exact hi.keys k (by unfold has;rw[hx];rfl)
      | none=>
       by_cases hkn:k=n
       ·exact .inr (.inr (hkn▸hq.1))
       ·unfold has at hk;rw[e,hx] at hk;simp [hkn] at hk
     ·rw[e] at hk;cases hx:lk hs k with
      | some u=>
       rw[hx] at hk;cases hk;exact hi.sm k v hx
      | none=>
       rw[hx] at hk;by_cases hkn:k=n
       ·simp only[iP hkn] at hk;cases hk;exact hs2
       ·simp [hkn] at hk
     ·unfold has;rw[e,tQ hi.nz];have hne:¬[]=n:=fun h=>h1.1 h.symm;simp only[iN hne];rfl
    obtain⟨a,b⟩:=tR l (hs++[(n,w)]) hs' h (fun p hp'=>hp p (List.mem_cons_of_mem _ hp')) hinv;refine⟨a,?_⟩;rw[b,lA,lS,lC];omega
  ·rw[iP h1] at h;cases h
structure Tree (hs:Hs) : Prop where
 xV:Good hs
 len:hs.length≤100
 obj:has hs bB=true
 ups:∀k,has hs k=true→¬k=bB→has hs (up hs k)=true
 nz:has hs []=false
 sm:∀k,small (up hs k)
theorem Cf{ns ss:List Str}{hs:Hs}(h:dy ns ss=(hs,0))(hsm:∀s∈ss,small s): Tree hs:=by
 unfold dy at h;by_cases h1:ns.length≠ss.length
 ·rw[iP h1] at h;cases h
 rw[iN h1] at h;by_cases h2:16<ns.length
 ·rw[iP h2] at h;cases h
 rw[iN h2] at h;rcases hA:bO (ns.zip ss) base with ⟨g,e⟩
 rw[hA] at h;simp only at h;by_cases h3:e≠0
 ·rw[iP h3] at h;cases h;exact absurd rfl h3
 rw[iN h3] at h;have h3:e=0:=Decidable.byContradiction h3;subst h3;by_cases h4:∃n∈ns,¬has g (up g n)=true
 ·rw[iP h4] at h;cases h
 rw[iN h4] at h;by_cases h5:∃n∈ns,cA g (g.length+1) n=true
 ·rw[iP h5] at h;cases h
 rw[iN h5] at h;cases h;obtain⟨hi,hl⟩:=tR (ns:=ns) _ _ _ hA (fun p hp=>by
  have:=List.of_mem_zip (show (p.1,p.2)∈ns.zip ss from hp);exact⟨this.1,hsm _ this.2⟩) (Ds ns)
 have hlen:hs.length≤100:=by
  rw[hl,List.length_zip];show 2+_≤_;omega
 have hobj:has hs bB=true:=by unfold has;rw[hi.obj];rfl
 have hup:up hs cV=bB:=by unfold up;rw[hi.fau];rfl
 refine⟨fun k hk=>?_,hlen,hobj,fun k hk hne=>?_,hi.nz,fun k=>?_⟩
 ·rcases hi.keys k hk with rfl|rfl|hm
  ·unfold cA;rw[iP rfl]
  ·unfold cA;rw[iN dE,hup];cases hs.length with
   | zero=>rfl
   | succ m=>unfold cA;rw[iP rfl]
  ·cases hx:cA hs (hs.length+1) k
   ·rfl
   ·exact absurd ⟨k,hm,hx⟩ h5
 ·rcases hi.keys k hk with rfl|rfl|hm
  ·exact absurd rfl hne
  ·rw[hup];exact hobj
  ·exact Decidable.byContradiction fun h=>h4 ⟨k,hm,h⟩
 ·unfold up;cases hx:lk hs k with
  | none=>exact fun b hb=>absurd hb (List.not_mem_nil)
  | some v=>exact hi.sm k v hx
theorem qC{hs:Hs}:∀f k,cA hs f k=false→iJ hs (f+1) k=iJ hs f k
 | 0,k,h=>by
  unfold cA at h;have hk:k=bB:=Decidable.byContradiction fun hk=>by rw[yT hk] at h;cases h
  rw[hk,jJ,jJ]
 | f+1,k,h=>by
  by_cases hk:k=bB
  ·rw[hk,jJ,jJ]
  ·unfold cA at h;rw[iN hk] at h;have:=qC f (up hs k) h
   conv=>lhs;unfold iJ
   conv=>rhs;unfold iJ
   rw[iN hk,iN hk,this]
variable{hs:Hs}
theorem EO(t:Tree hs): nj hs bB=[bB]:=by
 unfold nj;rw[iP t.obj,jJ]
theorem tT(t:Tree hs){k:Str}(h:has hs k=true)(hk:¬k=bB): nj hs k=k::nj hs (up hs k):=by
 obtain⟨g,e1,e2,e3⟩:=pR (t.xV k h) hk;have e1:hs.length=g:=om;subst e1;unfold nj;rw[iP h,iP (t.ups k h hk),e3,qC _ _ e2]
theorem Dt(t:Tree hs){P:Str→Prop}(h0:P bB)(h1:∀k,has hs k=true→¬k=bB→P (up hs k)→P k): ∀k,has hs k=true→P k:=by
 have key:∀f k,has hs k=true→cA hs f k=false→P k:=by
  intro f
  induction f with
  | zero=>
   intro k h hr;unfold cA at hr;have hk:k=bB:=Decidable.byContradiction fun hk=>by rw[yT hk] at hr;cases hr
   rw[hk];exact h0
  | succ f ih=>
   intro k h hr;by_cases hk:k=bB
   ·rw[hk];exact h0
   ·unfold cA at hr;rw[iN hk] at hr;exact h1 k h hk (ih _ (t.ups k h hk) hr)
 exact fun k h=>key _ k h (t.xV k h)
theorem Cg(t:Tree hs){b c:Str}:∀a,has hs a=true→b∈nj hs a→c∈nj hs b→c∈nj hs a:=
 Dt t (fun hb hc=>by
  rw[EO t,List.mem_singleton] at hb;rw[hb] at hc;exact hc) fun a h ha ih hb hc=>by
  rw[tT t h ha] at hb;rcases List.mem_cons.1 hb with rfl|hb
  ·exact hc
  ·rw[tT t h ha];exact List.mem_cons_of_mem _ (ih hb hc)
end Go.Proofs.YtafamggbkobcfaaGreat.Ae
namespace Go.Proofs.YtafamggbkobcfaaGreat.Ae
open Go.AE
set_option linter.unusedVariables false
variable{hs:Hs}
def Tp(hs:Hs)(x:bM): Prop:=(x.1=4∧has hs x.2=true)∨(x.2=[]∧(x.1=1∨x.1=2∨x.1=3∨x.1=5∨x.1=6))
def LE(hs:Hs)(x y:bM): Prop:=y.1=6∨(x.1=5∧(y.1=3∨y.1=4))∨(x.1=4∧y.1=4∧y.2∈nj hs x.2)∨x=y
theorem tp_has{x:bM}(hx:Tp hs x)(h4:x.1=4): has hs x.2=true:=by
 rcases hx with ⟨_,h⟩|⟨_,h⟩
 ·exact h
 ·omega
theorem le_trans(t:Tree hs){x y z:bM}(hx:Tp hs x)(h1:LE hs x y)(h2:LE hs y z): LE hs x z:=by
 rcases h2 with k|⟨k,k'⟩|⟨k,k',km⟩|rfl
 ·exact .inl k
 ·rcases h1 with h|⟨h,h'⟩|⟨h,h',hm⟩|rfl
  ·omega
  ·omega
  ·omega
  ·exact .inr (.inl ⟨k,k'⟩)
 ·rcases h1 with h|⟨h,h'⟩|⟨h,h',hm⟩|rfl
  ·omega
  ·exact .inr (.inl ⟨h,.inr k'⟩)
  ·exact .inr (.inr (.inl ⟨h,k',Cg t _ (tp_has hx h) hm km⟩))
  ·exact .inr (.inr (.inl ⟨k,k',km⟩))
 ·exact h1
end Go.Proofs.YtafamggbkobcfaaGreat.Ae
namespace Go.Proofs.YtafamggbkobcfaaGreat.Ae
open Go.AE
set_option linter.unusedVariables false
set_option maxRecDepth 100000
def named(s:Str): bM:=if s=[105,110,116] then (1,[]) else if s=[99,112,120] then (2,[]) else if s=[105,110,116,115] then (3,[]) else if s=[118,111,105,100] then (0,[]) else (4,s)
def ba(t:Nd): Nd:=t.l.headD dL
def first(t:Nd): bM:=named (ba t).s
def params(m:Nd): List Nd:=(m.l.drop 1).take (m.l.length-2)
def ke:Str:=[99,111,100,101]
def nr:Nd:=.mk 3 0 ke 0 (0,0) [.mk 6 0 [105,110,116] 0 (0,0) []]
def bp(cs:List Nd)(n:Str): Option Nd:=cs.find? fun c=>decide (c.s=n)
def own(cs:List Nd)(c n:Str)(k:Int): Option Nd:=match bp cs c with
 | none=>none
 | some d=>(d.l.drop 1).find? fun m=>decide (m.s=n∧m.k=k)
def gx(cs:List Nd)(n:Str)(k:Int): List Str→Option Nd
 | []=>none
 | a::l=>match own cs a n k with
  | some m=>some m
  | none=>if a=cV∧n=ke∧k=3 then some nr else gx cs n k l
def dM(cs:List Nd)(hs:Hs)(c n:Str)(k:Int): Option Nd:=gx cs n k (nj hs c)
def ft(t:bM): Prop:=t.1=4∨t.1=3∨t.1=5
instance (t:bM) : Decidable (ft t):=by unfold ft;exact inferInstance
def bN:List (Str×bM)→Str→Option bM
 | [],_=>none
 | v::l,n=>if v.1=n then some v.2 else bN l n
def jK(m:Nd): Prop:=0<m.l.length∧(m.k=4→2≤m.l.length∧∀p∈params m,0<p.l.length)
theorem own_ok{cs:List Nd}(h:∀c∈cs,∀m∈c.l.drop 1,jK m){c n:Str}{k:Int}{m:Nd}(e:own cs c n k=some m): jK m∧m.k=k:=by
 unfold own at e;cases hc:bp cs c with
 | none=>
  rw[hc] at e;cases e
 | some d=>
  rw[hc] at e;have e:(d.l.drop 1).find? (fun m=>decide (m.s=n∧m.k=k))=some m:=e;exact⟨h d (List.mem_of_find?_eq_some hc) m (List.mem_of_find?_eq_some e),(of_decide_eq_true (p:=m.s=n∧m.k=k) (List.find?_some (p:=fun m:Nd=>decide (m.s=n∧m.k=k)) e)).2⟩
theorem xW{cs:List Nd}(h:∀c∈cs,∀m∈c.l.drop 1,jK m){n:Str}{k:Int}{m:Nd}:∀{l:List Str},gx cs n k l=some m→jK m∧m.k=k
 | [],e=>by cases e
 | a::l,e=>by
  unfold gx at e;cases ho:own cs a n k with
  | some d=>
   rw[ho] at e;cases e;exact own_ok h ho
  | none=>
   rw[ho] at e;have e:(if a=cV∧n=ke∧k=3 then some nr else gx cs n k l)=some m:=e;split at e
   ·rename_i hx;cases e;exact⟨⟨by show 0<1;decide,fun h=>absurd h (by show ¬(3:Int)=4;decide)⟩,hx.2.2.symm⟩
   ·exact xW h e
theorem jg{cs:List Nd}{hs:Hs}(h:∀c∈cs,∀m∈c.l.drop 1,jK m){c n:Str}{k:Int}{m:Nd}(e:dM cs hs c n k=some m): jK m∧m.k=k:=xW h e
structure Cx where
 cs:List Nd
 hs:Hs
 cls:Str
 vars:List (Str×bM)
def db(rec:Nd→Option bM): List Nd→Option (List bM)
 | []=>some []
 | t::l=>match rec t with
  | none=>none
  | some y=>match db rec l with
   | none=>none
   | some ys=>some (y::ys)
def mU(ys:List bM)(i:Nat): bM:=ys.getD i (0,[])
def nu(C:Cx)(n:Str)(ys:List bM): Option bM:=
 if (mU ys 0).1≠4 then none else match dM C.cs C.hs (mU ys 0).2 n 4 with
  | none=>none
  | some m=>if (params m).length≠(ys.drop 1).length then none else if ∀i,i<(params m).length→bI C.hs (mU ys (i+1)) (first ((params m).getD i dL)) then some (first m) else none
def cK(C:Cx)(rec:Nd→Option bM)(t:Nd): Option bM:=match db rec t.l with
 | none=>none
 | some ys=>nu C t.s ys
def dn(x y:bM): Prop:=x.1=1∧y.1=1
def jh(x y:bM): Prop:=x.1=2∧y.1=2
instance (x y:bM) : Decidable (dn x y):=by unfold dn;exact inferInstance
instance (x y:bM) : Decidable (jh x y):=by unfold jh;exact inferInstance
def nw(s:Str)(x y:bM): Option bM:=
 if s=[43]∨s=[45]∨s=[42] then (if dn x y∨jh x y then some x else none)
 else if s=[61,61]∨s=[33,61] then (if dn x y∨jh x y∨(ft x∧ft y) then some (1,[]) else none)
 else (if dn x y then some (1,[]) else none)
def wt(C:Cx)(s:Str)(x:bM): Option bM:=if x.1=3∧s=[108,101,110] then some (1,[]) else if x.1≠4 then none else match dM C.cs C.hs x.2 s 3 with
 | none=>none
 | some m=>some (first m)
def fF(C:Cx)(t:Nd)(ys:List bM): Option bM:=
 if t.k=28 then wt C t.s (mU ys 0)
 else if t.k=30 then (if (mU ys 0).1=3∧(mU ys 1).1=1 then some (1,[]) else none)
 else if t.k=32 then (if (mU ys 0).1=1 then some (3,[]) else none)
 else if t.k=36∨t.k=37 then (if ((mU ys 0).1=4∨(mU ys 0).1=5)∧has C.hs t.s=true then some (if t.k=37 then (1,[]) else (4,t.s)) else none)
 else if t.k=35 then (if (mU ys 0).1=2∨((mU ys 0).1=1∧t.s=[45]) then some (mU ys 0) else none)
 else nw t.s (mU ys 0) (mU ys 1)
def eE(C:Cx)(rec:Nd→Option bM)(t:Nd): Option bM:=
 if t.k=23 then some (1,[]) else if t.k=24 then some (2,[]) else if t.k=25 then some (5,[]) else if t.k=26 then some (4,C.cls)
 else if t.k=27 then bN C.vars t.s
 else if t.k=31 then (if has C.hs t.s=true then some (4,t.s) else none)
 else if t.k=29 then cK C rec t
 else if t.k=33 then (if (ba t).k≠29 then none else match cK C rec (ba t) with
  | none=>none
  | some y=>if y.1=0∧(ba t).l.length=1 then some (1,[]) else none)
 else match db rec t.l with
  | none=>none
  | some ys=>fF C t ys
def cW(C:Cx): Nat→Nd→Option bM
 | 0,_=>none
 | n+1,t=>match eE C (cW C n) t with
  | none=>none
  | some y=>if t.k=29∧y.1=0 then none else some y
def bc(y:bM): List AV:=[.int .i64 y.1,.str y.2]
theorem aU{K:FuncId}{A:AW}{k:Int}(hw:Wf A): aD (ES K) 88 [.int .i64 k] A fun r A1=>r=.agg (bc (k,[]))∧ac A A1 ag:=by
 refine ap rfl rfl rfl ?_;refine gO ?_;refine zA (n:=2) (y:=bc (0,[])) hw ?_;intro A1 o1 c1;generalize hf1:A.aa=f1 at c1;refine wS c1 ?_;exact zR ⟨rfl,ac.fresh hw o1 (ac.put o1.wf (o1.wf _ _ c1)) nF⟩
theorem ee{K:FuncId}{A:AW}{s:Str}(hw:Wf A): aD (ES K) 87 [.str s] A fun r A1=>r=.agg (bc (named s))∧ac A A1 ag:=by
 refine ap rfl rfl rfl ?_;refine gO ?_;refine zA (n:=2) (y:=bc (0,[])) hw ?_;intro A1 o1 c1;generalize hf1:A.aa=f1 at c1;have fin:∀{B:AW} {y:bM},ac A B ag→gt B f1 2 (bc (0,[]))→ac A (B.put f1 (.cells 0 false 2 (bc y))) ag:=fun o hB=>ac.fresh hw o (ac.put o.wf (o.wf _ _ hB)) nF;refine wD (fun h1=>?_) fun h1=>?_
 ·refine wC (aU o1.wf) ?_;rintro r A2 ⟨rfl,o2⟩;replace c1:=o2.k c1;refine wS c1 ?_;exact fO rfl rfl (bk rfl rfl (by rw[AW.aw,iP rfl]) rfl) ⟨by rw[show named s=(1,[]) from iP h1];rfl,fin (y:=(1,[])) (o1.same o2) c1⟩
 refine wD (fun h2=>?_) fun h2=>?_
 ·refine wC (aU o1.wf) ?_;rintro r A2 ⟨rfl,o2⟩;replace c1:=o2.k c1;refine wS c1 ?_;exact fO rfl rfl (bk rfl rfl (by rw[AW.aw,iP rfl]) rfl) ⟨by rw[show named s=(2,[]) from (iN h1).trans (iP h2)];rfl,fin (y:=(2,[])) (o1.same o2) c1⟩
 refine wD (fun h3=>?_) fun h3=>?_
 ·refine wC (aU o1.wf) ?_;rintro r A2 ⟨rfl,o2⟩;replace c1:=o2.k c1;refine wS c1 ?_;exact fO rfl rfl (bk rfl rfl (by rw[AW.aw,iP rfl]) rfl) ⟨by rw[show named s=(3,[]) from (iN h1).trans ((iN h2).trans (iP h3))];rfl,fin (y:=(3,[])) (o1.same o2) c1⟩
 refine wD (fun h4=>?_) fun h4=>?_
 ·refine wC (aU o1.wf) ?_;rintro r A2 ⟨rfl,o2⟩;replace c1:=o2.k c1;refine wS c1 ?_;exact fO rfl rfl (bk rfl rfl (by rw[AW.aw,iP rfl]) rfl) ⟨by rw[show named s=(0,[]) from (iN h1).trans ((iN h2).trans ((iN h3).trans (iP h4)))];rfl,fin (y:=(0,[])) (o1.same o2) c1⟩
 refine wS c1 ?_;exact fO rfl rfl (bk rfl rfl (by rw[AW.aw,iP rfl]) rfl) ⟨by rw[show named s=(4,s) from (iN h1).trans ((iN h2).trans ((iN h3).trans (iN h4)))];rfl,fin (y:=(4,s)) o1 c1⟩
theorem gT{K:FuncId}{A:AW}{y:bM}(hw:Wf A): aD (ES K) 111 [.agg (bc y)] A fun r A1=>r=.bool (decide (y.1=4))∧ac A A1 ag:=by
 refine ap rfl rfl rfl ?_;refine gO ?_;refine zB (n:=2) (y:=bc y) hw ?_;intro A1 o1 c1;generalize A.aa=f1 at c1;refine gO ?_;exact af rfl ⟨rfl,o1⟩
theorem ji{K:FuncId}{A:AW}{y:bM}(hw:Wf A): aD (ES K) 126 [.agg (bc y)] A fun r A1=>r=.bool (decide (ft y))∧ac A A1 ag:=by
 refine ap rfl rfl rfl ?_;refine gO ?_;refine zB (n:=2) (y:=bc y) hw ?_;intro A1 o1 c1;generalize A.aa=f1 at c1;refine gO ?_;by_cases h1:y.1=4
 ·refine wT 6 h1 ?_;refine gO ?_;exact af rfl ⟨congrArg AV.bool (yT (.inl h1)).symm,o1⟩
 refine wF 6 h1 ?_;refine gO ?_;by_cases h2:y.1=3
 ·refine wT 11 h2 ?_;refine gO ?_;exact af rfl ⟨congrArg AV.bool (yT (.inr (.inl h2))).symm,o1⟩
 refine wF 11 h2 ?_;refine gO ?_;exact af rfl ⟨congrArg AV.bool (decide_eq_decide.2 ⟨fun h=>.inr (.inr h),fun h=>(h.resolve_left h1).resolve_left h2⟩),o1⟩
theorem eN{K:FuncId}{A:AW}{S:Nat→Prop}{t:Nd}{kv:AV}(hw:Wf A)(h:aI A S t kv)(h0:0<t.l.length): aD (ES K) 53 [.agg (au t kv)] A fun r A1=>r=.agg (bc (first t))∧ac A A1 ag:=by
 obtain⟨u,hu⟩:∃u,t.l[0]?=some u:=⟨_,gE h0⟩;have hk:ba t=u:=by
  unfold ba;rw[List.headD_eq_head?_getD,List.head?_eq_getElem?,hu];rfl
 refine ap rfl rfl rfl ?_;refine gO ?_;refine zB (n:=6) (y:=au t kv) hw ?_;intro A1 o1 c1;generalize A.aa=f1 at c1;refine zA (n:=2) (y:=bc (0,[])) o1.wf ?_;intro A2 o2 c2;have m1:=o1.aa;generalize hf2:A1.aa=f2 at c2;replace c1:=o2.k c1;replace o2:=o1.same o2;obtain⟨f,s,o,c,ex,ro,all,ku,rfl,hh,hi,_,cw⟩:=(h.ae o2 fun _ _ h=>h).wi hu;refine gO ?_;refine zI 0 rfl hi ?_;refine oP ?_;refine aZ rfl rfl rfl rfl hh (v:=.str u.s) ?_ ?_
 ·have:=cw 1 2 dE;exact aR (this.trans rfl)
 refine wC (ee o2.wf) ?_;rintro r A3 ⟨rfl,o3⟩;replace c2:=o3.k c2;refine wS c2 ?_;refine fO rfl rfl (bk rfl rfl (by rw[AW.aw,iP rfl]) rfl) ⟨by unfold first;rw[hk];rfl,?_⟩;exact ac.fresh hw (o2.same o3) (ac.put o3.wf (o3.wf _ _ c2)) nF
end Go.Proofs.YtafamggbkobcfaaGreat.Ae
