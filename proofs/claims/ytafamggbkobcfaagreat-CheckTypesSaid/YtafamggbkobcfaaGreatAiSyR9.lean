/- A part of the proof of the statement CheckTypes. -/
import Derived.Test.YtafamggbkobcfaaGreatAiSyR7
namespace Go.Proofs.YtafamggbkobcfaaGreat.Ae
open Go.AE
set_option linter.unusedVariables false
set_option maxRecDepth 100000
theorem pY{f g:Nd→Option bM}(h:∀t y,f t=some y→g t=some y): ∀{l:List Nd} {ys:List bM},db f l=some ys→db g l=some ys
 | [],ys,e=>e
 | t::l,ys,e=>by
  unfold db at e ⊢;cases hf:f t with
  | none=>
   rw[hf] at e;cases e
  | some y=>
   rw[hf] at e;rw[h t y hf];cases hl:db f l with
   | none=>
    rw[hl] at e;cases e
   | some zs=>
    rw[hl] at e;rw[pY h hl];exact e
theorem uf{C:Cx}{f g:Nd→Option bM}(h:∀t y,f t=some y→g t=some y){t:Nd}{y:bM}(e:cK C f t=some y): cK C g t=some y:=by
 unfold cK at e ⊢;cases hl:db f t.l with
 | none=>
  rw[hl] at e;cases e
 | some zs=>
  rw[hl] at e;rw[pY h hl];exact e
theorem An{C:Cx}{f g:Nd→Option bM}(h:∀t y,f t=some y→g t=some y){t:Nd}{y:bM}(e:eE C f t=some y): eE C g t=some y:=by
 unfold eE at e ⊢;by_cases h1:t.k=23
 ·rw[iP h1] at e ⊢;exact e
 rw[iN h1] at e ⊢;by_cases h2:t.k=24
 ·rw[iP h2] at e ⊢;exact e
 rw[iN h2] at e ⊢;by_cases h3:t.k=25
 ·rw[iP h3] at e ⊢;exact e
 rw[iN h3] at e ⊢;by_cases h4:t.k=26
 ·rw[iP h4] at e ⊢;exact e
 rw[iN h4] at e ⊢;by_cases h5:t.k=27
 ·rw[iP h5] at e ⊢;exact e
 rw[iN h5] at e ⊢;by_cases h6:t.k=31
 ·rw[iP h6] at e ⊢;exact e
 rw[iN h6] at e ⊢;by_cases h7:t.k=29
 ·rw[iP h7] at e ⊢;exact uf h e
 rw[iN h7] at e ⊢;by_cases h8:t.k=33
 ·rw[iP h8] at e ⊢;by_cases h9:(ba t).k≠29
  ·rw[iP h9] at e;cases e
  ·rw[iN h9] at e ⊢;cases hc:cK C f (ba t) with
   | none=>
    rw[hc] at e;cases e
   | some w=>
    rw[hc] at e;rw[uf h hc];exact e
 rw[iN h8] at e ⊢;cases hl:db f t.l with
 | none=>
  rw[hl] at e;cases e
 | some zs=>
  rw[hl] at e;rw[pY h hl];exact e
theorem yr{C:Cx}:∀{n:Nat} {t:Nd} {y:bM},cW C n t=some y→cW C (n+1) t=some y
 | 0,t,y,e=>by cases e
 | n+1,t,y,e=>by
  have e:(match eE C (cW C n) t with
   | none=>none
   | some y=>if t.k=29∧y.1=0 then none else some y)=some y:=e
  show (match eE C (cW C (n+1)) t with
   | none=>none
   | some y=>if t.k=29∧y.1=0 then none else some y)=some y
  cases hx:eE C (cW C n) t with
  | none=>
   rw[hx] at e;cases e
  | some w=>
   rw[hx] at e;rw[An (fun t y h=>yr h) hx];exact e
theorem get_ty{C:Cx}{n:Nat}{u w:Nd}{y:bM}(hk:u.k=28)(hu:u.l[0]?=some w)(h1:u.l=[w])(e:cW C n u=some y): ∃x,cW C n w=some x∧((x.1=3∧u.s=[108,101,110])∨x.1=4):=by
 cases n with
 | zero=>cases e
 | succ n=>
  rw[vx om om om om om om om om,h1] at e;unfold db at e;cases hx:cW C n w with
  | none=>
   rw[hx] at e;cases e
  | some x=>
   rw[hx] at e;have e:fF C u [x]=some y:=e;unfold fF at e;rw[iP hk] at e;have e:wt C u.s x=some y:=e;unfold wt at e;refine⟨x,yr hx,?_⟩;by_cases h3:x.1=3∧u.s=[108,101,110]
   ·exact .inl h3
   ·rw[iN h3] at e;by_cases h4:x.1=4
    ·exact .inr h4
    ·rw[iP h4] at e;cases e
abbrev DY.set(Y:DY)(vv:AV)(w:List (Str×bM×Bool))(nl:Nat): DY:=⟨Y.X,Y.cls,Y.mt,Y.mv,vv,w,nl⟩
def DY.mod(Y:DY)(g:Nat): Prop:=g=Y.X.dc∨Y.vv.av g
abbrev DY.cells(Y:DY)(b:Bool)(a:Int): List AV:=au Y.X.t Y.X.kv++(.ptr Y.X.fr 0 0::.bool b::.int .i64 a::Y.more)
def DY.ev(Y:DY)(n:Nat): Ev:=⟨Y.X.t.l,Y.X.hs,Y.cls,first Y.mt,n⟩
structure DS (A A1:AW) (Y Y1:DY) (b b1:Bool) : Prop where
 ps:DC A1 Y1 b1
 Fi:ac A A1 Y.mod
 own:ge A Y.vv.av Y1.vv.av
 bad:b=true→b1=true
section
variable{A A1 A2:AW}{Y Y1 Y2:DY}{b b0 b1 b2:Bool}
theorem DY.EW(g:Nat)(h:Y.mod g): Y.has g:=h.elim (fun h=>.inr (.inl h)) fun h=>.inr (.inr (.inr (.inr (.inr h))))
theorem DS.refl(hw:Wf A)(h:DC A Y b): DS A A Y Y b b:=⟨h,ac.refl hw _,ge.refl _ _,fun h=>h⟩
theorem DS.then(hw:Wf A)(h:DS A A1 Y Y1 b b1)(e:Y1.X=Y.X)(k:DS A1 A2 Y1 Y2 b1 b2): DS A A2 Y Y2 b b2:=
 ⟨k.ps,⟨k.Fi.wf,Nat.le_trans h.Fi.aa k.Fi.aa,fun g F hg hn=>k.Fi.ae g F (h.Fi.ae g F hg hn) fun hm=>by
  rcases hm with hm|hm
  ·exact hn (.inl (by rw[hm,e]))
  ·rcases h.own g hm with h1|h1
   ·exact hn (.inr h1)
   ·have:=hw g F hg;omega⟩,h.own.trans k.own h.Fi.aa,fun z=>k.bad (h.bad z)⟩
theorem DS.step(hw:Wf A)(h:DS A A1 Y Y1 b b1)(e:Y1.X=Y.X)(k:DT A1 A2 Y1 b1 b2): DS A A2 Y Y1 b b2:=
 h.then hw e ⟨k.ps,k.Fi.mono fun g hg=>.inl hg,ge.refl _ _,k.bad⟩
theorem DS.quiet(h:DS A A1 Y Y1 b b1)(o:ac A1 A2 ag): DS A A2 Y Y1 b b1:=⟨h.ps.quiet o,h.Fi.same (o.mono fun _ h=>h.elim),h.own,h.bad⟩
theorem DS.fresh{T:Nat→Prop}(hw:Wf A)(h0:DC A Y b0)(h:DS A A1 Y Y1 b b1)(e:Y1.X=Y.X)(o:ac A1 A2 T)(ht:∀g,T g→A.aa≤g)(hd:∀g,T g→¬Y1.mod g): DS A A2 Y Y1 b b1:=by
 refine⟨h.ps.ae o fun g hg k=>?_,⟨o.wf,Nat.le_trans h.Fi.aa o.aa,fun g F hg hn=>?_⟩,h.own,h.bad⟩
 ·have h1:=ht g k;rcases hg with hg|hg|hg|hg|hg|hg
  ·have:=h0.under hw g (.inl (by rw[←e];exact hg));omega
  ·exact hd g k (.inl hg)
  ·have:=h0.under hw g (.inr (.inr (.inl (by rw[←e];exact hg))));omega
  ·have:=h0.under hw g (.inr (.inr (.inr (.inl (by rw[←e];exact hg)))));omega
  ·have:=h0.under hw g (.inr (.inr (.inr (.inr (.inl (by rw[←e];exact hg))))));omega
  ·exact hd g k (.inr hg)
 ·exact o.ae _ _ (h.Fi.ae _ _ hg hn) fun k=>by
   have:=ht g k;have:=hw g F hg;omega
theorem DS.dg{F:eI}{f:Nat}(t:DS A A1 Y Y1 b b1)(hw:Wf A)(e:Y1.X=Y.X)(c:A.heap.get f=some F)(p:¬Y.mod f): A1.heap.get f=some F∧¬Y1.mod f:=
 ⟨t.Fi.ae _ _ c p,fun hm=>by
  rcases hm with hm|hm
  ·exact p (.inl (by rw[hm,e]))
  ·rcases t.own f hm with h|h
   ·exact p (.inr h)
   ·have:=hw _ _ c;omega⟩
theorem DS.bl(T:DS A A1 Y Y1 b b1)(h:DC A Y b2){t:Nd}{kv:AV}(N:aI A (fun g=>g<Y.X.M) t kv): aI A1 (fun g=>g<Y.X.M) t kv:=N.ae T.Fi fun g hg e=>by
 rcases e with e|e
 ·have:=h.le;omega
 ·have:=(h.out g e).1;omega
variable{E:Env}{C:bC}{all rest:List Oper}{l:Kn}{K:Kn→AW→Prop}{n f:Nat}{cs cs0:List AV}
theorem DS.new(hw:Wf A)(h:DC A Y b0)(T:DS A A1 Y Y1 b b1)(hf:A1.aa=f): A.aa≤f∧¬Y1.mod f:=by
 subst hf;refine⟨T.Fi.aa,fun hm=>?_⟩;have:=T.ps.under T.Fi.wf _ (DY.EW _ hm);omega
theorem Ao(hw:Wf A)(h:DC A Y b0)(T:DS A A1 Y Y1 b b1)(hf:A1.aa=f)(g:∀A2,A.aa≤f→¬Y1.mod f→ac A1 A2 ag→A2.heap.get f=some (.cells 0 false n cs)→DS A A2 Y Y1 b b1→WO E C all rest l A2 K): WO E C all rest l (A1.add (.cells 0 false n cs)) K:=by
 obtain⟨h1,h2⟩:=T.new hw h hf;subst hf;have o:ac A1 (A1.add (.cells 0 false n cs)) ag:=ac.add T.Fi.wf _;exact g _ h1 h2 o (by rw[AW.add_get,iP rfl]) (T.quiet o)
theorem kN(hw:Wf A)(h:DC A Y b0)(T:DS A A1 Y Y1 b b1)(hf:A1.aa=f)(g:∀A2,A.aa≤f→¬Y1.mod f→ac A1 A2 ag→A2.heap.get f=some (.cells 0 false n cs)→DS A A2 Y Y1 b b1→WO E C all rest l A2 K): WO E C all rest l ((A1.add (.cells 0 false n cs0)).put f (.cells 0 false n cs)) K:=by
 obtain⟨h1,h2⟩:=T.new hw h hf;subst hf;have o:ac A1 _ ag:=made (es:=n) (cs:=cs0) (cs':=cs) T.Fi.wf;exact g _ h1 h2 o (by rw[AW.aw,iP rfl]) (T.quiet o)
theorem DS.tW{v':AV}{w':List (Str×bM×Bool)}{nl':Nat}{a:Int}(hw:Wf A)(T:DS A A1 Y Y1 b b1)(e:Y1.X=Y.X)(o:ac A1 A2 Y1.vv.av)(hc:A2.heap.get Y1.X.dc=some (.cells 0 false 18 (Y1.cells b1 a)))(vc:lE A2 4 v' w'.length (w'.flatMap nE))(vg:ge A1 Y1.vv.av v'.av)
 (hl:w'.length≤1000000000) (hn:nl'≤1000000000) (nd:b1=false→(w'.map Prod.fst).Nodup) :
 DS A (A2.put Y1.X.dc (.cells 0 false 18 ((Y1.set v' w' nl').cells b1 a))) Y (Y1.set v' w' nl') b b1:=by
 have q:=T.ps;have op:=ac.put (x:=.cells 0 false 18 ((Y1.set v' w' nl').cells b1 a)) o.wf (o.wf _ _ hc);have o2:ac A1 _ Y1.mod:=(o.mono fun g hg=>.inr hg).same (op.mono fun g hg=>.inl hg);have hu:=q.under T.Fi.wf;have hout:∀g,v'.av g→Y1.X.M≤g∧g≠Y1.X.dc∧g≠Y1.X.fr∧¬Y1.X.vn.av g∧¬Y1.X.vs.av g:=fun g hg=>(vg g hg).elim (q.out g) fun k=>by
  refine⟨by have:=q.lt T.Fi.wf;have:=q.le;omega,fun z=>?_,fun z=>?_,fun z=>?_,fun z=>?_⟩
  ·have:=hu g (.inr (.inl z));omega
  ·have:=hu g (.inr (.inr (.inl z)));omega
  ·have:=hu g (.inr (.inr (.inr (.inl z))));omega
  ·have:=hu g (.inr (.inr (.inr (.inr (.inl z)))));omega
 refine T.then hw e ⟨⟨⟨a,by rw[AW.aw,iP rfl]⟩,q.tree.ae o2 fun g hg k=>?_,q.mtr.ae o2 fun g hg k=>?_,q.ri.ny o2 (fun k=>?_) (fun g hg k=>?_) fun g hg k=>?_,q.ht,q.hd,q.le,q.n1,q.n2,q.n3,vc.ae op fun g hg k=>(hout g hg).2.1 k,hout,q.hc,hl,hn,nd,q.mem,q.nf⟩,o2,vg,fun h=>h⟩
 ·rcases k with k|k
  ·have:=q.le;omega
  ·have:=(q.out g k).1;omega
 ·rcases k with k|k
  ·have:=q.le;omega
  ·have:=(q.out g k).1;omega
 ·rcases k with k|k
  ·exact q.n1 k
  ·exact (q.out _ k).2.2.1 rfl
 ·rcases k with k|k
  ·exact q.n2 (by rw[←k];exact hg)
  ·exact (q.out g k).2.2.2.1 hg
 ·rcases k with k|k
  ·exact q.n3 (by rw[←k];exact hg)
  ·exact (q.out g k).2.2.2.2 hg
theorem DS.ii{w':List (Str×bM×Bool)}(hw:Wf A)(T:DS A A1 Y Y1 b b1)(e:Y1.X=Y.X)(o:ac A1 A2 Y1.vv.av)(vc:lE A2 4 Y1.vv w'.length (w'.flatMap nE))(hl:w'.length≤1000000000)(nd:b1=false→(w'.map Prod.fst).Nodup)
 (hm:Y1.mt=Y1.mt) : DS A A2 Y (Y1.set Y1.vv w' Y1.nl) b b1:=by
 have q:=T.ps;refine T.then hw e ⟨⟨q.cell.ae o fun k=>(q.out _ k).2.1 rfl,q.tree.ae o fun g hg k=>by have:=(q.out g k).1;omega,q.mtr.ae o fun g hg k=>by have:=(q.out g k).1;omega,q.ri.ny o (fun k=>(q.out _ k).2.2.1 rfl) (fun g hg k=>(q.out g k).2.2.2.1 hg) fun g hg k=>(q.out g k).2.2.2.2 hg,
  q.ht,q.hd,q.le,q.n1,q.n2,q.n3,vc,q.out,q.hc,hl,q.ll,nd,q.mem,q.nf⟩,o.mono fun g hg=>.inr hg,ge.refl _ _,fun h=>h⟩
end
def un(v:Str×bM): Str×bM×Bool:=(v.1,v.2,false)
structure LK (Y:DY) (lk:List Str) : Prop where
 flag:∀v∈Y.w,v.2.2=decide (v.1∈lk)
 sub:∀n∈lk,n∈Y.w.map Prod.fst
 len:lk.length=Y.nl
def eG(k:Nat)(A A1:AW)(Y:DY)(b:Bool)(z:Option Vs): Prop:=∃vv ws b1,DS A A1 Y (Y.set vv (Y.w++ws.map un) Y.nl) b b1∧ws.length≤k∧(b=false→match (generalizing:=false) z with
 | none=>b1=true
 | some vs=>b1=false∧vs=Y.vars++ws)
def DQ(K:FuncId)(n m:Nat): Prop:=∀{A:AW} {Y:DY} {b:Bool} {lk:List Str} {t:Nd} {kv:AV},Wf A→DC A Y b→(b=false→LK Y lk)→0<Y.mt.l.length→aI A (fun g=>g<Y.X.M) t kv→St m t→sz t≤n→Y.w.length+9001*m+2≤1000000000→
 aD (ES K) 24 [.ptr Y.X.dc 0 0,.agg (au t kv)] A fun r A1=>eG 1 A A1 Y b (cP (Y.ev n) m lk Y.vars t)
theorem pm{Y:DY}{vv:AV}{ws:Vs}{nl:Nat}:(Y.set vv (Y.w++ws.map un) nl).vars=Y.vars++ws:=by
 show (Y.w++ws.map un).map (fun v=>(v.1,v.2.1))=_;rw[mA,List.map_map]
 congr 1
 have:((fun v:Str×bM×Bool=>(v.1,v.2.1)) ∘ un)=id:=rfl;rw[this,List.map_id]
theorem LK.app{Y:DY}{lk:List Str}(h:LK Y lk){vv:AV}{ws:Vs}(hn:((Y.w++ws.map un).map Prod.fst).Nodup): LK (Y.set vv (Y.w++ws.map un) Y.nl) lk:=by
 refine⟨fun v hv=>?_,fun n hn'=>?_,h.len⟩
 ·rcases List.mem_append.1 hv with hv|hv
  ·exact h.flag v hv
  ·obtain⟨x,hx,rfl⟩:=List.mem_map.1 hv;show false=decide (x.1∈lk);refine (yF fun hl=>?_).symm;rw[mA,List.nodup_append] at hn;exact hn.2.2 x.1 (h.sub _ hl) x.1 (by rw[List.map_map];exact List.mem_map.2 ⟨x,hx,rfl⟩) rfl
 ·show n∈(Y.w++ws.map un).map Prod.fst;rw[mA];exact List.mem_append_left _ (h.sub n hn')
theorem eG.step{k:Nat}{A A1:AW}{Y:DY}{b b1:Bool}{z:Option Vs}(hw:Wf A)(h:DC A Y b)(T:DT A A1 Y b b1)(hz:b=false→match z with
 | none=>b1=true
 | some vs=>b1=false∧vs=Y.vars) : eG k A A1 Y b z:=by
 refine⟨Y.vv,[],b1,?_,Nat.zero_le _,fun hb=>?_⟩
 ·rw[List.map_nil,aN];exact (DS.refl hw h).step hw rfl T
 ·have:=hz hb;cases z with
  | none=>exact this
  | some vs=>exact⟨this.1,this.2.trans (aN _).symm⟩
theorem yt(l:List (Str×bM×Bool))(i:Nat): (l.flatMap nE).take (i*4)=(l.take i).flatMap nE:=by
 induction l generalizing i with
 | nil=>simp
 | cons x l ih=>
  cases i with
  | zero=>simp
  | succ i=>
   rw[List.flatMap_cons,List.take_succ_cons,List.flatMap_cons,show (i+1)*4=i*4+4 from by omega,←ih];rfl
theorem eG.zero{k:Nat}{A A1:AW}{Y:DY}{b b1:Bool}{z:Option Vs}{vv:AV}(T:DS A A1 Y (Y.set vv Y.w Y.nl) b b1)(hz:b=false→match z with
 | none=>b1=true
 | some vs=>b1=false∧vs=Y.vars) : eG k A A1 Y b z:=by
 refine⟨vv,[],b1,?_,Nat.zero_le _,fun hb=>?_⟩
 ·rw[List.map_nil,aN];exact T
 ·have:=hz hb;cases z with
  | none=>exact this
  | some vs=>exact⟨this.1,this.2.trans (aN _).symm⟩
theorem DR{w:List (Str×bM×Bool)}{ws:Vs}(h:((w++ws.map un).map Prod.fst).Nodup): (w.map Prod.fst).Nodup:=by
 rw[mA,List.nodup_append] at h;exact h.1
theorem Ap{z:Option Vs}{b b1:Bool}{vs ws:Vs}(h:b=false→match z with
 | none=>b1=true
 | some us=>b1=false∧us=vs++ws) (hb:b=false) : match (match (generalizing:=false) z with
 | none=>none
 | some _=>some vs:Option Vs) with
 | none=>b1=true
 | some us=>b1=false∧us=vs:=by
 have h:=h hb;cases z with
 | none=>exact h
 | some us=>exact⟨h.1,rfl⟩
theorem DS.cut{A A1:AW}{Y:DY}{b b1:Bool}{vv r:AV}{ws:Vs}{a:Int}(hw:Wf A)(T:DS A A1 Y (Y.set vv (Y.w++ws.map un) Y.nl) b b1)(hl:Y.w.length≤1000000000)(hn:Y.nl≤1000000000)(hc:A1.heap.get Y.X.dc=some (.cells 0 false 18 ((Y.set vv (Y.w++ws.map un) Y.nl).cells b1 a)))
 (hr:lE A1 4 r Y.w.length (((Y.w++ws.map un).flatMap nE).take (Y.w.length*4))) (hg:∀g,r.av g→vv.av g) :
 DS A (A1.put Y.X.dc (.cells 0 false 18 ((Y.set r Y.w Y.nl).cells b1 a))) Y (Y.set r Y.w Y.nl) b b1:=by
 rw[yt,List.take_left'] at hr
 ·exact DS.tW (Y1:=Y.set vv (Y.w++ws.map un) Y.nl) (v':=r) (w':=Y.w) (nl':=Y.nl) hw T rfl (ac.refl T.Fi.wf _) hc hr (fun g h=>.inl (hg g h)) hl hn fun e=>DR (T.ps.nd e)
 ·rfl
theorem po{K:FuncId}{n m:Nat}(hS:DQ K n m){A:AW}{Y:DY}{b:Bool}{lk:List Str}{t:Nd}{kv:AV}(hw:Wf A)(h:DC A Y b)(hlk:b=false→LK Y lk)(hm:0<Y.mt.l.length)(N:aI A (fun g=>g<Y.X.M) t kv)(hE:St m t∧sz t≤n)(hv:Y.w.length+9001*m+2≤1000000000):
 aD (ES K) 63 [.ptr Y.X.dc 0 0,.agg (au t kv)] A fun r A1=>eG 0 A A1 Y b (match cP (Y.ev n) m lk Y.vars t with
  | none=>none
  | some _=>some Y.vars):=by
 refine ap rfl rfl rfl ?_;have T:DS A A Y (Y.set Y.vv Y.w Y.nl) b b:=DS.refl hw h;refine gO ?_;refine bA rfl rfl rfl rfl ?_;generalize hf3:A.aa=f3;refine Ao (n:=6) (cs:=au t kv) hw h T hf3 ?_;intro A1 x3 p3 o1 c3 T;replace N:=N.k o1;obtain⟨a0,hc⟩:=T.ps.cell;refine wJ h.row.row.bm ?_;refine wL c3 ?_;clear hc;refine zC rfl (hS T.Fi.wf T.ps hlk hm N hE.1 hE.2 hv) ?_;rintro r A2 ⟨vv2,ws2,b2,t2,n2,z2⟩;obtain⟨c3',p3'⟩:=t2.dg T.Fi.wf rfl c3 p3;clear c3' p3';replace T:DS A A2 Y (Y.set vv2 (Y.w++ws2.map un) Y.nl) b b2:=T.then hw rfl t2;obtain⟨a1,hc⟩:=T.ps.cell;refine gO ?_;refine bQ (Q:=fun r=>lE A2 4 r Y.w.length (((Y.w++ws2.map un).flatMap nE).take (Y.w.length*4))∧∀g,r.av g→vv2.av g) rfl rfl rfl rfl rfl (pk (d:=d39) (de:=d72) rfl rfl rfl T.ps.row (by rw[lA];omega)) ?_;rintro r19 ⟨hr,hg⟩;refine gO ?_
 refine bx rfl rfl hr.cells rfl rfl rfl hc rfl ?_;refine bG (fun A2=>DS A A2 Y (Y.set r19 Y.w Y.nl) b b2) (T.cut hw h.vl h.ll hc hr hg) ?_;intro A9 T9;refine gO ?_;exact bd rfl (eG.zero T9 (Ap z2))
theorem yu{K:FuncId}{n:Nat}{A:AW}{Y:DY}{b:Bool}{t:Nd}{kv:AV}(hw:Wf A)(h:DC A Y b)(N:aI A (fun g=>g<Y.X.M) t kv)(hE:Ex t∧sz t≤n):
 aD (ES K) 96 [.ptr Y.X.dc 0 0,.agg (au t kv)] A fun r A1=>XD A A1 Y b (cW Y.cx n t) r:=by
 refine ap rfl rfl rfl ?_;have T:=DT.refl hw h;refine gO ?_;refine bA rfl rfl rfl rfl ?_;generalize hf3:A.aa=f3;refine fX (n:=6) (cs:=au t kv) hw h T hf3 ?_;intro A1 x3 p3 o1 c3 T;replace N:=N.k o1;refine aq rfl rfl rfl ?_;generalize hf4:A1.aa=f4;refine fX (n:=2) (cs:=bc (0,[])) hw h T hf4 ?_;intro A2 x4 p4 o2 c4 T;replace c3:=o2.k c3;replace N:=N.k o2;refine wL c3 ?_;refine zC rfl (cq n T.Fi.wf T.ps N hE.1 hE.2) ?_;rintro r A3 ⟨y3,b3,rfl,t3,z3⟩;replace T:=T.then t3;replace c4:=t3.Fi.k c4;refine oP ?_;refine zS c4 ?_;refine bD (cs:=bc y3) hw h T x4 c4 ?_;intro A4 o4 c4 T;refine gO ?_;exact zT c4 ⟨y3,b3,rfl,T,z3⟩
theorem EX{C:Cx}{n:Nat}{u:Nd}{y:bM}(hk:u.k=27)(e:cW C n u=some y): bN C.vars u.s=some y:=by
 cases n with
 | zero=>cases e
 | succ n=>
  have:cW C (n+1) u=bN C.vars u.s:=lq (by
   unfold eE;rw[iN om,iN om,iN om,iN om,iP hk]) om
  rw[←this];exact e
set_option maxHeartbeats 8000000 in
theorem wQ{K:FuncId}{n:Nat}{A:AW}{Y:DY}{lk:List Str}{t u0 u1:Nd}{kv:AV}(hw:Wf A)(h:DC A Y false)(hlk:LK Y lk)(N:aI A (fun g=>g<Y.X.M) t kv)(hu0:t.l[0]?=some u0)(hu1:t.l[1]?=some u1)(hP0:Ex u0∧sz u0≤n)(hP1:Ex u1∧sz u1≤n)(h28:u0.k=28→∃w,u0.l[0]?=some w∧Ex w∧sz w≤n):
 aD (ES K) 62 [.ptr Y.X.dc 0 0,.agg (au t kv)] A fun r A1=>∃b1,DT A A1 Y false b1∧match yd (Y.ev n) lk Y.vars t with
  | none=>b1=true
  | some vs=>b1=false∧vs=Y.vars:=by
 refine ap rfl rfl rfl ?_;have T:=DT.refl hw h;have hlp:=h.lt hw;have hM:=h.le;refine gO ?_;have hst:=N.bh;have hkv:=N.fS;refine bA rfl rfl rfl rfl ?_;generalize hf3:A.aa=f3;refine fX (n:=6) (cs:=au t kv) hw h T hf3 ?_;intro A1 x3 p3 o1 c3 T2;replace T:=T2;clear T2;replace N:=N.ae o1 fun _ _ h=>h;have m1:=o1.aa;have l1:=T.Fi.wf _ _ c3;obtain⟨fku0,sku0,oku0,cku0,eku0,rku0,aku0,ku0,hvu0,hsu0,hhu0,hlu0,Nu0,htu0⟩:=bv N hu0;have hku0:takeN 6 (aB (Nat.add oku0 (Nat.mul 0 6)) aku0)=some (au u0 ku0):=(htu0 6 0 (Nat.le_refl _)).trans rfl;have hnu0:=Nu0.bh;refine gO ?_;refine bg 0 rfl (congrArg some hvu0) rfl rfl rfl hlu0 ?_;refine oP ?_;refine bS (vs:=au u0 ku0) rfl rfl rfl rfl hhu0 hku0 ?_;refine oP ?_;refine aq rfl rfl rfl ?_;refine bx rfl rfl rfl rfl rfl rfl (by rw[AW.add_get,iP rfl]) rfl ?_;generalize hf4:A1.aa=f4
 refine eZ (n:=6) (cs:=au u0 ku0) hw h T hf4 ?_;intro A2 x4 p4 o2 c4 T2;replace T:=T2;clear T2;replace c3:=o2.ae _ _ c3 fun h=>h;replace N:=N.ae o2 fun _ _ h=>h;replace Nu0:=Nu0.ae o2 fun _ _ h=>h;replace hhu0:=o2.ae _ _ hhu0 fun h=>h;have m2:=o2.aa;have l2:=T.Fi.wf _ _ c4;refine gO ?_;refine bS (vs:=au u0 ku0) rfl rfl rfl rfl c4 rfl ?_;refine oP ?_;refine cY rfl rfl bF rfl (cq n T.Fi.wf T.ps Nu0 hP0.1 hP0.2) ?_;rintro r A3 ⟨y3,b3,rfl,t3,z3⟩;replace T:=T.then t3;replace c3:=t3.Fi.ae _ _ c3 p3;replace c4:=t3.Fi.ae _ _ c4 p4;replace N:=t3.bl N;replace Nu0:=t3.bl Nu0;replace hhu0:=t3.Fi.ae _ _ hhu0 fun e=>by have e:fku0=Y.X.dc:=e;omega
 have m3:=t3.Fi.aa;refine oP ?_;refine aq rfl rfl rfl ?_;refine bx rfl rfl rfl rfl rfl rfl (by rw[AW.add_get,iP rfl]) rfl ?_;generalize hf5:A3.aa=f5;refine eZ (n:=2) (cs:=bc y3) hw h T hf5 ?_;intro A4 x5 p5 o4 c5 T2;replace T:=T2;clear T2;replace c3:=o4.ae _ _ c3 fun h=>h;replace c4:=o4.ae _ _ c4 fun h=>h;replace N:=N.ae o4 fun _ _ h=>h;replace Nu0:=Nu0.ae o4 fun _ _ h=>h;replace hhu0:=o4.ae _ _ hhu0 fun h=>h;have m4:=o4.aa;have l4:=T.Fi.wf _ _ c5;obtain⟨fku1,sku1,oku1,cku1,eku1,rku1,aku1,ku1,hvu1,hsu1,hhu1,hlu1,Nu1,htu1⟩:=bv N hu1;have hku1:takeN 6 (aB (Nat.add oku1 (Nat.mul 1 6)) aku1)=some (au u1 ku1):=(htu1 6 0 (Nat.le_refl _)).trans rfl;have hnu1:=Nu1.bh;refine gO ?_;refine bg 1 rfl (congrArg some hvu1) rfl rfl rfl hlu1 ?_;refine oP ?_;refine bS (vs:=au u1 ku1) rfl rfl rfl rfl hhu1 hku1 ?_;refine oP ?_
 refine cY rfl rfl bF rfl (cq n T.Fi.wf T.ps Nu1 hP1.1 hP1.2) ?_;rintro r A5 ⟨y5,b5,rfl,t5,z5⟩;replace T:=T.then t5;replace c3:=t5.Fi.ae _ _ c3 p3;replace c4:=t5.Fi.ae _ _ c4 p4;replace c5:=t5.Fi.ae _ _ c5 p5;replace N:=t5.bl N;replace Nu0:=t5.bl Nu0;replace Nu1:=t5.bl Nu1;replace hhu1:=t5.Fi.ae _ _ hhu1 fun e=>by have e:fku1=Y.X.dc:=e;omega
 have m5:=t5.Fi.aa;refine oP ?_;refine aq rfl rfl rfl ?_;refine bx rfl rfl rfl rfl rfl rfl (by rw[AW.add_get,iP rfl]) rfl ?_;generalize hf6:A5.aa=f6;refine eZ (n:=2) (cs:=bc y5) hw h T hf6 ?_;intro A6 x6 p6 o6 c6 T2;replace T:=T2;clear T2;replace c3:=o6.ae _ _ c3 fun h=>h;replace c4:=o6.ae _ _ c4 fun h=>h;replace c5:=o6.ae _ _ c5 fun h=>h;replace N:=N.ae o6 fun _ _ h=>h;replace Nu0:=Nu0.ae o6 fun _ _ h=>h;replace Nu1:=Nu1.ae o6 fun _ _ h=>h;replace hhu1:=o6.ae _ _ hhu1 fun h=>h;have m6:=o6.aa;have l6:=T.Fi.wf _ _ c6;clear hhu0 hhu1 Nu1;obtain⟨a0,hc⟩:=T.ps.cell;refine gO ?_;have e0:ba t=u0:=aW hu0;have e1:eg t 1=u1:=cO hu1;cases hbb:b5 with
 | true=>
  subst hbb;refine rU ?_;refine af rfl ⟨_,T,?_⟩;rw[ww (E:=Y.ev n) (lk:=lk) (vs:=Y.vars) e0 e1 (z3 rfl) z5]
 | false=>
  subst hbb;have hba:b3=false:=t5.flag;subst hba;have z0:match cW Y.cx n u0 with
   | none=>false=true
   | some w=>false=false∧y3=w:=z3 rfl
  obtain⟨w0,hy0⟩:∃w,cW Y.cx n u0=some w:=by
   cases hx:cW Y.cx n u0 with
   | none=>
    rw[hx] at z0;exact absurd (show false=true from z0) dE
   | some w=>exact⟨w,rfl⟩
  rw[hy0] at z0;obtain⟨_,rfl⟩:=z0;have hsa:dC (.agg (bc y3)) (.agg (bc y3))=true:=rN;have hsb:dC (.agg (bc y5)) (.agg (bc y5))=true:=rN;have hif:=tX (E:=Y.ev n) (lk:=lk) (vs:=Y.vars) e0 e1 (z3 rfl) rfl z5;rw[e0] at hif;refine rU ?_;refine ce (fun l1 B=>∃x,((pp 0 Y.X.dc (pp 3 f3 (pp 4 f4 (pp 5 f5 (pp 6 f6 (pb 7 x .nil)))))) : Kn).le l1∧B=A6∧x=(if u0.k=27 then !decide (u0.s∈lk) else decide (u0.k=30))) ?_ ?_
  ·intro k' hk';refine cD rfl (fun k27=>?_) fun k27=>?_
   ·have k27:u0.k=27:=k27;have hfv:bN Y.vars u0.s=some y3:=EX k27 hy0;refine tD ?_;refine dR ?_;have hav:=T.ps.row.avs;refine me rfl rfl rfl ?_;refine cY rfl rfl bF rfl (jQ T.Fi.wf T.ps) ?_;rintro r A' ⟨e',z,rfl,hz⟩;obtain rfl:A6=A':=e'.symm;refine oP ?_;refine sK ?_;refine dR ?_;rcases hz with ⟨rfl,hz⟩|⟨i,v,rfl,hv,hvn,hz⟩
    ·rw[hz] at hfv;cases hfv
    obtain⟨f,t',o,cc,ex,ro,all,hvv,hh,hl,cw⟩:=dT (cl:=nE) (fun _=>rfl) T.ps.row.row hv;refine ax rfl rfl rfl rfl rfl ?_;refine bg i rfl (congrArg some hvv) rfl rfl rfl hl ?_;refine oP ?_;refine⟨rfl,?_⟩;refine dR ?_;refine jZ rfl rfl rfl rfl rfl rfl rfl ?_;refine aZ rfl rfl rfl rfl hh (v:=.bool v.2.2) (aR ((cw 1 3 dE).trans rfl)) ?_;refine oP ?_;refine⟨rfl,_,rfl,?_⟩;refine dR ?_;refine me rfl rfl rfl ?_;refine oP ?_;refine sK ?_;refine aK ?_;refine sQ ?_;refine hk' _ _ ⟨_,⟨rfl,rfl,rfl,rfl,rfl,rfl,trivial⟩,rfl,?_⟩;rw[iP k27,hlk.flag v (mG hv),hvn]
   ·have k27:¬u0.k=27:=k27;refine sQ ?_;exact hk' _ _ ⟨_,⟨rfl,rfl,rfl,rfl,rfl,rfl,trivial⟩,rfl,(iN k27).symm⟩
  rintro l1 B ⟨x,hl,eB,hx⟩;obtain rfl:A6=B:=eB.symm;refine bY (pp 0 Y.X.dc (pp 3 f3 (pp 4 f4 (pp 5 f5 (pp 6 f6 (pb 7 x .nil)))))) ?_ hl;clear hl;refine gO ?_;refine ce (fun l1 B=>∃x',((pp 0 Y.X.dc (pp 3 f3 (pp 4 f4 (pp 5 f5 (pp 6 f6 (pb 7 x' .nil)))))) : Kn).le l1∧DT A6 B Y false false∧(x'=true↔yc (Y.ev n) lk Y.vars u0)) ?_ ?_
  ·intro k' hk';refine cD rfl (fun k28=>?_) fun k28=>?_
   ·have k28:u0.k=28:=k28;obtain⟨w,hw0,hwE⟩:=h28 k28;have hul:u0.l=[w]:=by
     have:=hP0.1;cases this<;>first|(exfalso;simp only[Nd.k] at k28;omega)|(cases hw0;rfl)
    obtain⟨xw,hxw,hxk⟩:=get_ty k28 hw0 hul hy0;have hEw:(Y.ev n).ty Y.vars (ba u0)=some xw:=by rw[aW hw0];exact hxw
    have hmay:yc (Y.ev n) lk Y.vars u0↔xw.1≠3:=by
     unfold yc;rw[hEw];exact⟨fun h=>by
      obtain⟨y,g1,g2⟩:=h.2 k28;cases g1;exact g2,fun h=>⟨.inr (.inl k28),fun _=>⟨xw,rfl,h⟩⟩⟩
    refine gO ?_;by_cases hlen:u0.s=[108,101,110]
    ·refine aF 49 true rfl (yT hlen) ?_;refine oP ?_;obtain⟨fk,sk,ok,ck,ek,rk,ak,kw,hvk,hsk,hhk,hlk',Nw,hatk⟩:=bv Nu0 hw0
     try refine aM rfl ?_
     refine bg 0 rfl (congrArg some hvk) rfl rfl rfl hlk' ?_;refine oP ?_
     try refine aM rfl ?_
     refine bS (vs:=au w kw) rfl rfl rfl rfl hhk ((hatk 6 0 (Nat.le_refl _)).trans rfl) ?_;refine oP ?_
     try refine aM rfl ?_
     refine cY rfl rfl bF rfl (yu (n:=n) T.Fi.wf T.ps Nw ⟨hwE.1,hwE.2⟩) ?_;rintro r55 B1 ⟨y9,b9,rfl,t9,z9⟩;have z9:=z9 rfl;rw[hxw] at z9;obtain⟨rfl,rfl⟩:b9=false∧y9=xw:=z9;refine oP ?_
     try refine aM rfl ?_
     refine dx rfl rfl (v:=.int .i64 y9.1) rfl ?_;refine oP ?_;refine sQ ?_;refine hk' _ _ ⟨_,⟨rfl,rfl,rfl,rfl,rfl,rfl,trivial⟩,t9,?_⟩;rw[hmay];by_cases h3:y9.1=3
     ·rw[yT h3];exact⟨fun h=>(by cases h),fun h=>absurd h3 h⟩
     ·rw[yF h3];exact⟨fun _=>h3,fun _=>rfl⟩
    ·refine aF 49 false rfl (yF hlen) ?_;refine oP ?_;refine sQ ?_;refine hk' _ _ ⟨_,⟨rfl,rfl,rfl,rfl,rfl,rfl,trivial⟩,DT.refl T.Fi.wf T.ps,?_⟩;rw[hmay];have h4:=hxk.resolve_left fun h=>hlen h.2;exact⟨fun _=>om,fun _=>rfl⟩
   ·have k28:¬u0.k=28:=k28;refine sQ ?_;refine hk' _ _ ⟨x,⟨rfl,rfl,rfl,rfl,rfl,rfl,trivial⟩,DT.refl T.Fi.wf T.ps,?_⟩;subst hx;unfold yc;by_cases k27:u0.k=27
    ·rw[iP k27];by_cases hl:u0.s∈lk
     ·rw[yT hl];refine⟨fun h=>(by cases h),fun h=>?_⟩;rcases h.1 with h|h|h
      ·omega
      ·omega
      ·exact absurd hl h.2
     ·rw[yF hl];exact⟨fun _=>⟨.inr (.inr ⟨k27,hl⟩),fun h=>absurd h k28⟩,fun _=>rfl⟩
    ·rw[iN k27];constructor
     ·exact fun h=>⟨.inl (of_decide_eq_true h),fun h=>absurd h k28⟩
     ·rintro ⟨h|h|h,_⟩
      ·exact yT h
      ·exact absurd h k28
      ·exact absurd h.1 k27
  rintro l1 B2 ⟨ok,hl,tq,hok⟩;refine bY (pp 0 Y.X.dc (pp 3 f3 (pp 4 f4 (pp 5 f5 (pp 6 f6 (pb 7 ok .nil)))))) ?_ hl;clear hl hx hc;replace T:=T.then tq;obtain⟨a2,hc⟩:=T.ps.cell;obtain⟨c3,c5,c6⟩:=tq.Fi.k3 c3 c5 c6;clear Nu0 c4;refine tD ?_;cases hoo:ok with
  | false=>
   subst hoo;refine aL 62 false rfl rfl ?_;refine dO ?_;refine aC ?_;refine sA ?_;refine dO ?_;refine aC ?_;refine zC rfl (aG T.Fi.wf T.ps) ?_;rintro r B3 ⟨rfl,tz⟩;refine sA ?_;refine eD ?_;refine bd rfl ⟨_,T.then tz,?_⟩;rw[hif];rw[if_neg fun h=>by have:=hok.2 h.1;cases this];rfl
  | true=>
   subst hoo;have hmay:=hok.1 rfl;refine aL 62 true rfl rfl ?_;refine rD ?_;refine zL c6 ?_;refine eR ?_;refine rD ?_;refine zL c5 ?_;refine eR ?_;refine aC ?_;refine zC rfl (lm T.Fi.wf T.ps) ?_;rintro r B3 ⟨rfl,o3⟩;replace T:=T.quiet o3;replace c3:=o3.k c3;refine sA ?_;refine aC ?_;refine zC rfl (aG T.Fi.wf T.ps) ?_;rintro r B4 ⟨rfl,tz⟩;refine sA ?_;refine eD ?_;refine bd rfl ⟨_,T.then tz,?_⟩;rw[hif];by_cases hf:bI (Y.ev n).hs y5 y3
   ·rw[iP ⟨hmay,hf⟩,yT (show bI Y.X.hs y5 y3 from hf)];exact⟨rfl,rfl⟩
   ·rw[if_neg fun h=>hf h.2,yF (show ¬bI Y.X.hs y5 y3 from hf)];rfl
end Go.Proofs.YtafamggbkobcfaaGreat.Ae
