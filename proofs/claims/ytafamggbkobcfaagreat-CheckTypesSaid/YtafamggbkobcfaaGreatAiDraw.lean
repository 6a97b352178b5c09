/- A part of the proof of the statement CheckTypes. -/
import Derived.Test.YtafamggbkobcfaaGreatAiOrder
namespace Go.AE
set_option linter.unusedVariables false
set_option linter.unusedSimpArgs false
variable[bu]
structure Pd where
 i:Nat
 o:Oper
 d:Tmp
 v:AV
 fg:Option Nat
def Late(E:Env)(F:Fr)(o:Oper)(v:AV)(g:Nat)(Fm:eI): Prop:=
 ∀F2:Fr,(∀x∈o.op.operands,ev F2 x=ev F x)→∀(μ:Mp) (w:World) (a:Act),(∀x,aQ μ (ev F2 x) (a.eval x))→∃mk s,v=mk g∧kW E μ w s mk Fm∧execOp a.eval o=(do pure (.value (←s)))
structure yW (E:Env) (ops:Array Oper) (N:Nat) (F:Fr) (A:AW) (μ:Mp) (n0:Nat) (p:Pd) : Prop where
 op:ops[p.i]?=some p.o
 act:ib p.o.op=false
 dst:p.o.dst=some p.d
 lt:p.d<N
 val:F.get p.d=some p.v
 has:∀g,p.fg=some g→g<A.aa
 how:(bV ops.toList F p.o=some false∧p.v=.tuple [])∨(bV ops.toList F p.o=some true∧makes p.o.op=false∧dr E F p.o A=.val p.v A)∨
  (bV ops.toList F p.o=some true∧∃g Fm,p.fg=some g∧n0≤g∧A.heap.get g=some Fm∧(∀t,μ g t=none)∧Late E F p.o p.v g Fm)
def cw(F:Fr): List Pd→Fr
 | []=>F
 | p::l=>(cw F l).set p.d .undef
omit [bu] in
theorem mE(F:Fr)(t:Tmp): ∀l:List Pd,((∃p∈l,p.d=t)→(cw F l).get t=some .undef)∧((∀p∈l,p.d≠t)→(cw F l).get t=F.get t)
 | []=>⟨fun ⟨p,hp,_⟩=>(by cases hp),fun _=>rfl⟩
 | p::l=>by
  have ih:=mE F t l;simp only[cw,Fr.dQ];by_cases e:t=p.d
  ·rw[if_pos e];exact⟨fun _=>rfl,fun h=>absurd e.symm (h p (List.mem_cons_self ..))⟩
  ·rw[if_neg e];refine⟨fun ⟨q,hq,hqt⟩=>ih.1 ?_,fun h=>ih.2 fun q hq=>h q (List.mem_cons_of_mem _ hq)⟩;rcases List.mem_cons.1 hq with rfl|hq
   ·exact absurd hqt.symm e
   ·exact⟨q,hq,hqt⟩
def CV(μ:Mp)(N:Nat)(F:Fr)(l:List Pd)(a:Act): Prop:=N≤a.tmps.size∧∀t v,(∀p∈l,p.d≠t)→F.get t=some v→aQ μ v (a.tmps.getD t undef)
theorem CV.cw{μ:Mp}{N:Nat}{F:Fr}{l:List Pd}{a:Act}(h:CV μ N F l a): gl μ N (cw F l) a:=by
 refine⟨h.1,fun t v hv=>?_⟩;by_cases e:∃p∈l,p.d=t
 ·rw[(mE F t l).1 e] at hv;cases hv;exact .undef _
 ·have e:∀p∈l,p.d≠t:=fun p hp he=>e ⟨p,hp,he⟩;rw[(mE F t l).2 e] at hv;exact h.2 t v e hv
omit [bu] in
theorem sV{E:Env}{call:FuncId→List AV→AW→Out}{N:Nat}{all:List Oper}{o:Oper}{F F1:Fr}{A A1:AW}(h:kn E call N all o F A=.ok F1 A1):
 ∃v,lD N F o.dst v A1=.ok F1 A1∧((bV all F o=some true∧(dr E F o A=.val v A1∨∃f args,dr E F o A=.enter f args∧call f args A=.val v A1))∨(bV all F o=some false∧v=.tuple []∧A1=A)):=by
 unfold kn at h;have pin:∀{v:AV} {B:AW},lD N F o.dst v B=.ok F1 A1→A1=B:=fun hp=>(gc hp).1;split at h
 ·rename_i hw;split at h
  ·rename_i v B hex;have:=pin h;subst this;exact⟨v,h,.inl ⟨hw,.inl hex⟩⟩
  ·rename_i f args hex;split at h
   ·rename_i v B hc;have:=pin h;subst this;exact⟨v,h,.inl ⟨hw,.inr ⟨f,args,hex,hc⟩⟩⟩
   ·cases h
  ·cases h
 ·rename_i hw;have:=pin h;subst this;exact⟨_,h,.inr ⟨hw,rfl,rfl⟩⟩
 ·cases h
omit [bu] in
theorem la{E:Env}{F:Fr}{o:Oper}{A:AW}(ha:ib o.op=false){f:FuncId}{args:List AV}:dr E F o A≠.enter f args:=by
 intro h;unfold dr at h;split at h
 ·rename_i c ho;unfold sc at h;split at h
  ·exact iI h
  ·rename_i x hc;rw[ho] at ha;simp [ib,hc] at ha
  ·cases h
 ·exact iI h
omit [bu] in
theorem uQ{E:Env}{call:FuncId→List AV→AW→Out}{N:Nat}{all:List Oper}{bs:List Nat}{i:Nat}{rest:List Nat}{seen:List Seen}{F F':Fr}{A A':AW}{o:Oper}{b:Nat}(ho:all[i]?=some o)(hb:bs[i]?=some b)
 (h:hH E call N all bs (i::rest) seen F A=.ok F' A') : ∃F1 A1 seen',kn E call N all o F A=.ok F1 A1∧hH E call N all bs rest seen' F1 A1=.ok F' A'∧(∀s∈seen,s∈seen')∧
  (ib o.op=true→fS E F1 A1 b seen=true)∧(ib o.op=false→makes o.op=false→A1.aa=A.aa)∧
  (ib o.op=false→makes o.op=false→bV all F o=some true→reads o.op=true→∀d v,o.dst=some d→F1.get d=some v→⟨i,o,v⟩∈seen'):=by
 simp only[hH,fB,ho,hb] at h;split at h
 ·rename_i F1 A1 h1;cases ha:ib o.op<;>simp only[ha,cond_true,cond_false] at h
  ·cases hm:makes o.op<;>simp only[hm,cond_true,cond_false] at h
   ·cases hn:Nat.beq A1.aa A.aa<;>simp only[hn,cond_true,cond_false,reduceCtorEq] at h;have hn':A1.aa=A.aa:=by rw[beq_eq] at hn;simpa using hn
    split at h
    ·rename_i hw;cases hr:reads o.op<;>simp only[hr,cond_true,cond_false] at h
     ·exact⟨F1,A1,seen,h1,h,fun s hs=>hs,by simp,fun _ _=>hn',by simp⟩
     ·split at h
      ·rename_i d hd;split at h
       ·rename_i v hv;refine⟨F1,A1,_,h1,h,fun s hs=>List.mem_cons_of_mem _ hs,by simp,fun _ _=>hn',fun _ _ _ _ d' v' hd' hv'=>?_⟩;rw[hd] at hd';cases hd';rw[hv] at hv';cases hv';exact List.mem_cons_self ..
       ·cases h
      ·cases h
    ·rename_i hw;exact⟨F1,A1,seen,h1,h,fun s hs=>hs,by simp,fun _ _=>hn',fun _ _ hw'=>absurd hw' hw⟩
   ·exact⟨F1,A1,seen,h1,h,fun s hs=>hs,by simp,by simp,by simp⟩
  ·cases hs:fS E F1 A1 b seen<;>simp only[hs,cond_true,cond_false,reduceCtorEq] at h;exact⟨F1,A1,seen,h1,h,fun s hs=>hs,fun _=>hs,by simp,by simp⟩
 ·cases h
section
variable(E:Env)(base:Nat)(call:FuncId→List AV→AW→Out)(N:Nat)(ops:Array Oper)(bs order:List Nat)(F':Fr)(A':AW)(μ0:Mp)(A0:AW)(w0:World)(a0:Act)
structure St (pre rest:List Nat) (seen:List Seen) (cC:List Pd) (listed:Array Bool) (F:Fr) (A:AW) (μ:Mp) (w:World) (a:Act) : Prop where
 ord:order=pre++rest
 run:hH E call N ops.toList bs rest seen F A=.ok F' A'
 sz:listed.size=ops.size
 Fb:∀i,i<ops.size→(listed.getD i false=true↔i∈pre∧∀p∈cC,p.i≠i)
 cl:∀k,listed.getD k false=true→∀m,bs[k]?=some m→∀j,bit m j=true→listed.getD j false=true
 yX:∀p∈cC,p.i∈pre
 ok:∀p∈cC,yW E ops N F A μ A0.aa p
 see:∀p∈cC,makes p.o.op=false→reads p.o.op=true→bV ops.toList F p.o=some true→⟨p.i,p.o,p.v⟩∈seen
 dis:∀p∈cC,∀q∈cC,∀g,p.fg=some g→q.fg=some g→p.i=q.i
 step:Step base μ0 A0 w0 μ A w
 En:CV μ N F cC a
 dfr:a.defers=a0.defers
end
section
variable{E:Env}{base:Nat}{call:FuncId→List AV→AW→Out}{N:Nat}{ops:Array Oper}{bs order:List Nat}{F':Fr}{A':AW}{μ0:Mp}{A0:AW}{w0:World}{a0:Act}
 {pre rest:List Nat} {seen:List Seen} {cC:List Pd} {listed:Array Bool} {F:Fr} {A:AW} {μ:Mp} {w:World} {a:Act}
omit [bu] in
theorem qw{l:Array Bool}{i:Nat}:l.getD i false=true↔l[i]?=some true:=by
 rw[Array.getD_eq_getD_getElem?];cases l[i]? with
 | none=>simp
 | some b=>simp
theorem St.ahead(hO:AF ops bs order)(h:St E base call N ops bs order F' A' μ0 A0 w0 a0 pre rest seen cC listed F A μ w a){i:Nat}(hi:i∈Region.ready .any ops listed)(hio:i∈order){b:Nat}(hb:bs[i]?=some b):
 ∀j,bit b j=true→listed.getD j false=true:=by
 obtain⟨_,o,ho,hall⟩:=mem_ready.1 hi;obtain⟨o',b',hI⟩:=hO.item i hio;have e1:=hI.op;rw[ho] at e1;cases e1;have e2:=hI.bits;rw[hb] at e2;cases e2;intro j hj;obtain⟨e,he,hbd,h1⟩:=hI.cl j hj;have hl:=hall e (by simpa using he) hbd;rcases h1 with rfl|⟨m,hm,hmj⟩
 ·exact hl
 ·exact h.cl _ hl m hm j hmj
theorem St.unl(h:St E base call N ops bs order F' A' μ0 A0 w0 a0 pre rest seen cC listed F A μ w a){i:Nat}(hi:i∈Region.ready .any ops listed): i<ops.size∧listed.getD i false=false:=by
 obtain⟨h1,o,ho,_⟩:=mem_ready.1 hi;have hlt:i<ops.size:=(Array.getElem?_eq_some_iff.1 ho).1;refine⟨hlt,?_⟩;have:i<listed.size:=by rw[h.sz];exact hlt
 simpa [Array.getD_eq_getD_getElem?,this] using h1
theorem St.pG(h:St E base call N ops bs order F' A' μ0 A0 w0 a0 pre rest seen cC listed F A μ w a)(hO:AF ops bs order){p:Pd}(hp:p∈cC): listed.getD p.i false=false:=by
 have hlt:p.i<ops.size:=(Array.getElem?_eq_some_iff.1 (h.ok p hp).op).1;cases hl:listed.getD p.i false
 ·rfl
 ·exact absurd rfl ((h.Fb p.i hlt).1 hl |>.2 p hp)
theorem St.BH(h:St E base call N ops bs order F' A' μ0 A0 w0 a0 pre rest seen cC listed F A μ w a)(hO:AF ops bs order){i j:Nat}(hi:i∈pre)(hj:j∈rest): kG ops bs i j:=by
 have:=hO.pair;rw[h.ord] at this;exact (List.pairwise_append.1 this).2.2 i hi j hj
theorem St.mem(h:St E base call N ops bs order F' A' μ0 A0 w0 a0 pre rest seen cC listed F A μ w a){p:Pd}(hp:p∈cC): p.i∈order:=by
 rw[h.ord];exact List.mem_append_left _ (h.yX p hp)
omit [bu] in
theorem vW{i:Nat}(hi:i<listed.size)(k:Nat): (listed.setIfInBounds i true).getD k false=true↔k=i∨listed.getD k false=true:=by
 by_cases e:k=i
 ·subst e;simp [Array.getD_eq_getD_getElem?,hi]
 ·rw[getD_set_ne false (Ne.symm e)];simp [e]
theorem St.clos(hO:AF ops bs order)(h:St E base call N ops bs order F' A' μ0 A0 w0 a0 pre rest seen cC listed F A μ w a){i:Nat}(hi:i∈Region.ready .any ops listed)(hio:i∈order):
 ∀k,(listed.setIfInBounds i true).getD k false=true→∀m,bs[k]?=some m→∀j,bit m j=true→(listed.setIfInBounds i true).getD j false=true:=by
 intro k hk m hm j hj;have hlt:i<listed.size:=by rw[h.sz];exact (h.unl hi).1
 rw[vW hlt] at hk ⊢;rcases hk with rfl|hk
 ·exact .inr (h.ahead hO hi hio hm j hj)
 ·exact .inr (h.cl k hk m hm j hj)
theorem St.late(hE:dD E)(hO:AF ops bs order)(h:St E base call N ops bs order F' A' μ0 A0 w0 a0 pre rest seen cC listed F A μ w a){p:Pd}(hp:p∈cC)(hi:p.i∈Region.ready .any ops listed){Q:Exit→Act→World→Prop}{K:Act→World→Prop}
 (hK:∀pend' a' w' μ',St E base call N ops bs order F' A' μ0 A0 w0 a0 pre rest seen pend' (listed.setIfInBounds p.i true) F A μ' w' a'→K a' w') : wpOp E.P ops Q p.i K a w:=by
 have hP:=h.ok p hp;obtain⟨o2,b,hI⟩:=hO.item p.i (h.mem hp);have e1:=hI.op;rw[hP.op] at e1;cases e1;have hlt:p.i<listed.size:=by rw[h.sz];exact (h.unl hi).1
 have same:∀q∈cC,q.i=p.i→q.o=p.o∧q.d=p.d:=fun q hq e=>by
  have h2:=(h.ok q hq).dst;have h3:=hP.dst;have:q.o=p.o:=by have:=(h.ok q hq).op;rw[e,hP.op] at this;simpa using this.symm
  refine⟨this,?_⟩;rw[this,h3] at h2;simpa using h2.symm
 have hlook:∀t∈p.o.looksAt ops,(cw F cC).get t=F.get t:=fun t ht=>(mE F t cC).2 fun q hq e=>by
  subst e;by_cases e2:q.i=p.i
  ·obtain⟨h1,h2⟩:=same q hq e2;have:=hI.own;unfold vE at this;rw[hP.dst,hP.act] at this;simp only[Bool.false_or] at this;exact jE this (h2▸ht)
  ·refine hO.both (h.mem hp) (h.mem hq) (fun e=>e2 e.symm) hP.op (h.ok q hq).op hI.bits ?_ (h.ok q hq).act q.d (h.ok q hq).dst ht;cases hb:bit b q.i
   ·rfl
   ·have:=h.ahead hO hi (h.mem hp) hI.bits q.i hb;rw[h.pG hO hq] at this;cases this
 have hF:=h.En.cw;have hmem:∀q,q∈cC.filter (fun q=>q.i != p.i)↔q∈cC∧q.i≠p.i:=fun q=>by simp [List.mem_filter]
 have fin:∀cv w' μ',aQ μ' p.v cv→Step base μ0 A0 w0 μ' A w'→(∀f t x,μ f t=some x→μ' f t=some x)→(∀q∈cC,q.i≠p.i→∀g,q.fg=some g→(A.heap.get g).isSome=true→(∀t,μ g t=none)→∀t,μ' g t=none)→K (a.put p.o.dst cv) w':=fun cv w' μ' hv hst hkeep hun=>by
  refine hK (cC.filter fun q=>q.i != p.i) _ w' μ' ⟨h.ord,h.run,by simp [h.sz],fun k hk=>?_,h.clos hO hi (h.mem hp),fun q hq=>h.yX q ((hmem q).1 hq).1,fun q hq=>?_,fun q hq=>h.see q ((hmem q).1 hq).1,
   fun q hq r hr=>h.dis q ((hmem q).1 hq).1 r ((hmem r).1 hr).1,hst,⟨?_,fun t v ht hvt=>?_⟩,?_⟩
  ·rw[vW hlt,h.Fb k hk];constructor
   ·rintro (rfl|⟨h1,h2⟩)
    ·exact⟨h.yX p hp,fun q hq=>((hmem q).1 hq).2⟩
    ·exact⟨h1,fun q hq=>h2 q ((hmem q).1 hq).1⟩
   ·rintro ⟨h1,h2⟩;by_cases e:k=p.i
    ·exact .inl e
    ·refine .inr ⟨h1,fun q hq e2=>?_⟩;exact h2 q ((hmem q).2 ⟨hq,fun e3=>e (e2.symm.trans e3)⟩) e2
  ·obtain⟨hq1,hq2⟩:=(hmem q).1 hq;obtain⟨k1,k2,k3,k4,k5,k0,k6⟩:=h.ok q hq1;refine⟨k1,k2,k3,k4,k5,k0,?_⟩;rcases k6 with k6|k6|⟨k6,g,Fm,k7,k8,k9,k10,k11⟩
   ·exact .inl k6
   ·exact .inr (.inl k6)
   ·exact .inr (.inr ⟨k6,g,Fm,k7,k8,k9,hun q hq1 hq2 g k7 (by rw[k9];rfl) k10,k11⟩)
  ·rw[hP.dst];simp only[Act.put,Array.size_setIfInBounds];exact h.En.1
  ·rw[hP.dst];simp only[Act.put];rw[xx _ _ _ _ (Nat.lt_of_lt_of_le hP.lt h.En.1)];by_cases e:t=p.d
   ·subst e;rw[hP.val] at hvt;cases hvt;rw[if_pos rfl];exact hv
   ·rw[if_neg e];refine (h.En.2 t v (fun q hq e2=>?_) hvt).mono hkeep;by_cases e3:q.i=p.i
    ·exact e (e2.symm.trans (same q hq e3).2)
    ·exact ht q ((hmem q).2 ⟨hq,e3⟩) e2
  ·rw[←h.dfr];cases p.o.dst<;>rfl
 have hold:∀{μ':Mp} {w':World},Step base μ A w μ' A w'→∀q∈cC,q.i≠p.i→∀g,q.fg=some g→(A.heap.get g).isSome=true→(∀t,μ g t=none)→∀t,μ' g t=none:=fun hst q _ _ g _ hg hn=>by
  obtain⟨x,hx⟩:=Option.isSome_iff_exists.1 hg;exact (hst.cC g (h.step.rel.lt g x hx) hn).1
 unfold wpOp;simp only[hP.op];have hwc:∀{c:Bool},bV ops.toList F p.o=some c→Region.wanted p.o (yielded ops a.tmps)=c:=fun {c} hc=>by
  have:=kU hF ((fJ hlook).trans hc);simpa using this
 rcases hP.how with ⟨h1,h2⟩|⟨h1,h2,h3⟩|⟨h1,g,Fm,h2,h3,h4,h5,h6⟩
 ·rw[if_neg (by rw[hwc h1];simp)];exact fin undef w μ (by rw[h2];exact .tuple (by simp) (by simp)) h.step (fun _ _ _ hx=>hx) (fun _ _ _ _ _ _ hn=>hn)
 ·rw[if_pos (hwc h1)];refine .inl ?_;exact AC hE h.step.rel ((ij hlook A).trans h3) hF.ev fun cv w' μ' hv hst=>fin cv w' μ' hv (h.step.trans hst) hst.ae (hold hst)
 ·rw[if_pos (hwc h1)];refine .inl ?_;obtain⟨mk,s,q1,q2,q3⟩:=h6 (cw F cC) (oQ hlook) μ w a hF.ev;obtain⟨cv,w1,μ',r1,r2,r3,r4,r5⟩:=q2.late h.step h3 h4 h5;refine iH (by rw[q3];exact pC r1) (fin cv w1 μ' (by rw[q1];exact r2) r3 r4 fun q hq hne g' hg' _ hn=>r5 g' (fun e=>?_) hn);subst e;exact hne (h.dis q hq p hp g' hg' h2)
theorem qx(hE:dD E){o:Oper}{A1:AW}{v:AV}(h:Rel base μ A w)(ha:ib o.op=false)(hm:makes o.op=false→A1.aa=A.aa)(hx:dr E F o A=.val v A1):
 (makes o.op=false→A1=A)∧Ext A A1:=by
 cases hmk:makes o.op
 ·have:=(kF (B:=A) ha hmk hx (hm hmk) (fun _ _ _ h=>h)).2;exact⟨fun _=>this,by rw[this];exact fun _ _ h=>h⟩
 ·obtain⟨Fm,e,_⟩:=kX hE hmk hx;refine⟨by simp,fun f x hf=>?_⟩;rw[e];simp only[Tr.dQ];rw[if_neg (by have:=h.lt f x hf;omega)];exact hf
theorem yW.next{n0:Nat}{q:Pd}(hP:yW E ops N F A μ n0 q){F1:Fr}{A1:AW}{μ1:Mp}{dst:Option Tmp}{v:AV}(hput:lD N F dst v A1=.ok F1 A1)(hd:∀d,dst=some d→d∉q.o.looksAt ops)(hne:dst≠some q.d)(hnx:A.aa≤A1.aa)
 (hex:makes q.o.op=false→bV ops.toList F q.o=some true→dr E F q.o A=.val q.v A→dr E F1 q.o A1=.val q.v A1)
 (hg:∀g Fm,q.fg=some g→A.heap.get g=some Fm→(∀t,μ g t=none)→A1.heap.get g=some Fm∧∀t,μ1 g t=none) : yW E ops N F1 A1 μ1 n0 q∧bV ops.toList F1 q.o=bV ops.toList F q.o:=by
 obtain⟨_,hget,_⟩:=gc hput;have hlook:∀t∈q.o.looksAt ops,F1.get t=F.get t:=fun t ht=>by
  rw[hget,if_neg];intro e;exact hd t e ht
 have hw:=fJ hlook;refine⟨⟨hP.op,hP.act,hP.dst,hP.lt,?_,fun g hg=>Nat.lt_of_lt_of_le (hP.has g hg) hnx,?_⟩,hw⟩
 ·rw[hget,if_neg hne];exact hP.val
 ·rcases hP.how with h1|⟨h1,h2,h3⟩|⟨h1,g,Fm,h2,h3,h4,h5,h6⟩
  ·exact .inl ⟨hw.trans h1.1,h1.2⟩
  ·exact .inr (.inl ⟨hw.trans h1,h2,hex h2 h1 h3⟩)
  ·obtain⟨k1,k2⟩:=hg g Fm h2 h4 h5;refine .inr (.inr ⟨hw.trans h1,g,Fm,h2,h3,k1,k2,fun F2 hF2=>h6 F2 fun x hx=>(hF2 x hx).trans (oQ hlook x hx)⟩)
omit [bu] in
theorem BI{call:FuncId→List AV→AW→Out}{F2 F1:Fr}{A1:AW}{o:Oper}(h:∀t∈o.looksAt ops,F2.get t=F.get t)(h1:kn E call N ops.toList o F A=.ok F1 A1):
 ∃v F3,lD N F o.dst v A1=.ok F1 A1∧lD N F2 o.dst v A1=.ok F3 A1∧kn E call N ops.toList o F2 A=.ok F3 A1:=by
 obtain⟨v,hp,hk⟩:=sV h1;have ⟨_,_,hlt⟩:=gc hp;have:∃F3,lD N F2 o.dst v A1=.ok F3 A1:=by
  unfold lD;cases hd:o.dst with
  | none=>exact⟨F2,rfl⟩
  | some d=>
   have:=hlt d hd;refine⟨F2.set d v,?_⟩;have hb:Nat.blt d N=true:=by rw[blt_eq];simpa using this
   simp only[hb,cond_true]
 obtain⟨F3,h3⟩:=this;refine⟨v,F3,hp,h3,?_⟩;unfold kn;rw[fJ h,ij h];rcases hk with ⟨hw,hx|⟨f,args,hx,hc⟩⟩|⟨hw,rfl,rfl⟩
 ·simp only[hw,hx];exact h3
 ·simp only[hw,hx,hc];exact h3
 ·simp only[hw];exact h3
theorem St.both(hE:dD E)(hC:kp E base call)(hO:AF ops bs order){i:Nat}(h:St E base call N ops bs order F' A' μ0 A0 w0 a0 pre (i::rest) seen cC listed F A μ w a)(hi:i∈Region.ready .any ops listed)
 {Q:Exit→Act→World→Prop} {K:Act→World→Prop}
 (hK:∀seen' F1 A1 a' w' μ',St E base call N ops bs order F' A' μ0 A0 w0 a0 (pre++[i]) rest seen' cC (listed.setIfInBounds i true) F1 A1 μ' w' a'→K a' w') : wpOp E.P ops Q i K a w:=by
 have hio:i∈order:=by rw[h.ord];simp
 obtain⟨o,b,hI⟩:=hO.item i hio;have hop:=hI.op;have hlt:i<listed.size:=by rw[h.sz];exact (h.unl hi).1
 obtain⟨F1,A1,seen',h1,h2,h3,h4,h5,h6⟩:=uQ (o:=o) (b:=b) (by simpa using hop) hI.bits h.run;have hR:∀q∈cC,kG ops bs q.i i:=fun q hq=>h.BH hO (h.yX q hq) (List.mem_cons_self ..);have hbit:∀q∈cC,bit b q.i=false:=fun q hq=>by
  cases hb:bit b q.i
  ·rfl
  ·have:=h.ahead hO hi hio hI.bits q.i hb;rw[h.pG hO hq] at this;cases this
 have hfree:=fun q hq=>(hR q hq).free (h.ok q hq).op hop hI.bits (hbit q hq);have hlook:∀t∈o.looksAt ops,(cw F cC).get t=F.get t:=fun t ht=>(mE F t cC).2 fun q hq e=>by
  subst e;exact (hfree q hq).2.1 q.d (h.ok q hq).dst ht
 obtain⟨v,F3,p1,p2,p3⟩:=BI hlook h1;refine uM (all:=ops.toList) hE hC (by simpa using hop) p3 h.step.rel h.En.cw fun cv w' μ' hv hst hF3=>?_;refine hK seen' F1 A1 _ w' μ' ⟨by rw[h.ord];simp,h2,by simp [h.sz],fun k hk=>?_,h.clos hO hi hio,fun q hq=>List.mem_append_left _ (h.yX q hq),fun q hq=>?_,fun q hq k1 k2 k3=>?_,h.dis,h.step.trans hst,⟨hF3.1,fun t u ht hu=>?_⟩,?_⟩
 ·rw[vW hlt,h.Fb k hk];constructor
  ·rintro (rfl|⟨h1,h2⟩)
   ·exact⟨by simp,fun q hq e=>(hR q hq).1 e⟩
   ·exact⟨List.mem_append_left _ h1,h2⟩
  ·rintro ⟨h1,h2⟩;rcases List.mem_append.1 h1 with h1|h1
   ·exact .inr ⟨h1,h2⟩
   ·simp at h1;exact .inl h1
 ·refine (yW.next (h.ok q hq) p1 (hfree q hq).2.2 ((hR q hq).dst (h.ok q hq).op hop hI.bits q.d (h.ok q hq).dst) hst.aa (fun m1 m2 m3=>?_) (fun g Fm k1 k2 k3=>?_)).1
  ·have hlk:∀t∈q.o.looksAt ops,F1.get t=F.get t:=fun t ht=>by
    rw[(gc p1).2.1,if_neg];intro e;exact (hfree q hq).2.2 t e ht
   cases ha:ib o.op
   ·have hext:Ext A A1:=by
     obtain⟨v',q1,q2⟩:=sV h1;rcases q2 with ⟨_,hx|⟨f,args,hx,_⟩⟩|⟨_,_,rfl⟩
     ·exact (qx hE h.step.rel ha (h5 ha) hx).2
     ·exact absurd hx (la ha)
     ·exact fun _ _ h=>h
    rw[ij hlk];exact (kF (h.ok q hq).act m1 m3 rfl (fun _=>hext)).1
   ·cases hr:reads q.o.op
    ·rw[ij hlk];exact (kF (h.ok q hq).act m1 m3 rfl (fun hx=>by rw[hr] at hx;cases hx)).1
    ·obtain⟨B,x1,x2⟩:=nU (h4 ha) ⟨q.i,q.o,q.v⟩ (h.see q hq m1 hr m2) (hbit q hq);have:=(kF (B:=A1) (h.ok q hq).act m1 x1 x2 (fun _ _ _ h=>h)).1;exact this
  ·have hlt':=h.step.rel.lt g Fm k2;obtain⟨x,y⟩:=hst.cC g hlt' k3;exact⟨y.trans k2,x⟩
 ·have hw:bV ops.toList F1 q.o=bV ops.toList F q.o:=fJ fun t ht=>by
   rw[(gc p1).2.1,if_neg];intro e;exact (hfree q hq).2.2 t e ht
  exact h3 _ (h.see q hq k1 k2 (hw▸k3))
 ·refine hF3.2 t u ?_;rw[(gc p2).2.1];rw[(gc p1).2.1] at hu;split at hu
  ·rename_i e;rw[if_pos e];exact hu
  ·rename_i e;rw[if_neg e,(mE F t cC).2 ht];exact hu
 ·rw[←h.dfr];cases o.dst<;>rfl
theorem St.alone(hE:dD E)(hO:AF ops bs order){j:Nat}(h:St E base call N ops bs order F' A' μ0 A0 w0 a0 pre (j::rest) seen cC listed F A μ w a)(ha:∀o,ops[j]?=some o→ib o.op=false):
 ∃seen' pend' F1 A1,St E base call N ops bs order F' A' μ0 A0 w0 a0 (pre++[j]) rest seen' pend' listed F1 A1 μ w a:=by
 have hjo:j∈order:=by rw[h.ord];simp
 obtain⟨o,b,hI⟩:=hO.item j hjo;have hop:=hI.op;have ha:=ha o hop;obtain⟨F1,A1,seen',h1,h2,h3,h4,h5,h6⟩:=uQ (o:=o) (b:=b) (by simpa using hop) hI.bits h.run;obtain⟨v,p1,p2⟩:=sV h1;have hown:=hI.own;obtain⟨d,hd,hdl⟩:∃d,o.dst=some d∧d∉o.looksAt ops:=by
  unfold vE at hown;rw[ha] at hown;cases hd:o.dst with
  | none=>rw[hd] at hown;cases hown
  | some d=>
   rw[hd] at hown;exact⟨d,rfl,jE (by simpa using hown)⟩
 obtain⟨_,hget,hltN⟩:=gc p1;have hR:∀q∈cC,kG ops bs q.i j:=fun q hq=>h.BH hO (h.yX q hq) (List.mem_cons_self ..)
 have hmem:A.aa≤A1.aa∧Ext A A1∧Step base μ0 A0 w0 μ A1 w∧(bV ops.toList F o=some true→makes o.op=true→∃Fm,A1.heap.get A.aa=some Fm∧Late E F o v A.aa Fm)∧(makes o.op=false→A1=A):=by
  rcases p2 with ⟨hw,hx|⟨f,args,hx,_⟩⟩|⟨hw,_,rfl⟩
  ·have k:=qx hE h.step.rel ha (h5 ha) hx;refine⟨?_,k.2,?_,fun _ hm=>?_,k.1⟩
   ·cases hm:makes o.op
    ·rw[k.1 hm];exact Nat.le_refl _
    ·obtain⟨Fm,e,_⟩:=kX hE hm hx;rw[e];exact Nat.le_succ _
   ·cases hm:makes o.op
    ·rw[k.1 hm];exact h.step
    ·obtain⟨Fm,e,_⟩:=kX hE hm hx;rw[e];exact h.step.trans (Step.ahead h.step.rel Fm)
   ·obtain⟨Fm,e,hl⟩:=kX hE hm hx;exact⟨Fm,by rw[e];simp [Tr.dQ],hl⟩
  ·exact absurd hx (la ha)
  ·exact⟨Nat.le_refl _,fun _ _ h=>h,h.step,fun hw'=>by rw[hw] at hw';simp at hw',fun _=>rfl⟩
 obtain⟨hnx,hext,hstep,hmk,hsame⟩:=hmem;have hself:∀t∈o.looksAt ops,F1.get t=F.get t:=fun t ht=>by
  rw[hget,if_neg];intro e;rw[hd] at e;cases e;exact hdl ht
 have hval:F1.get d=some v:=by rw[hget,if_pos hd]
 have hother:∀q∈cC,yW E ops N F1 A1 μ A0.aa q∧bV ops.toList F1 q.o=bV ops.toList F q.o:=fun q hq=>by
  have hnl:=(hR q hq).back (h.ok q hq).op hop hI.bits ha;refine yW.next (h.ok q hq) p1 hnl ((hR q hq).dst (h.ok q hq).op hop hI.bits q.d (h.ok q hq).dst) hnx (fun m1 m2 m3=>?_) (fun g Fm k1 k2 k3=>⟨hext _ _ k2,k3⟩);have hlk:∀t∈q.o.looksAt ops,F1.get t=F.get t:=fun t ht=>by
   rw[hget,if_neg];intro e;exact hnl t e ht
  rw[ij hlk];exact (kF (h.ok q hq).act m1 m3 rfl (fun _=>hext)).1
 have hno:∀q∈cC,∀g,q.fg=some g→g≠A.aa:=fun q hq g hg e=>by
  have:=(h.ok q hq).has g hg;omega
 refine⟨seen',⟨j,o,d,v,if makes o.op=true∧bV ops.toList F o=some true then some A.aa else none⟩::cC,F1,A1,⟨by rw[h.ord];simp,h2,h.sz,fun k hk=>?_,h.cl,fun q hq=>?_,fun q hq=>?_,fun q hq k1 k2 k3=>?_,fun q hq r hr g hg1 hg2=>?_,hstep,⟨h.En.1,fun t u ht hu=>?_⟩,h.dfr⟩⟩
 ·rw[h.Fb k hk];constructor
  ·rintro ⟨h1,h2⟩;refine⟨List.mem_append_left _ h1,fun q hq=>?_⟩;rcases List.mem_cons.1 hq with rfl|hq
   ·exact fun e=>(h.BH hO h1 (List.mem_cons_self ..)).1 e.symm
   ·exact h2 q hq
  ·rintro ⟨h1,h2⟩;have hj:=h2 _ (List.mem_cons_self ..);refine⟨?_,fun q hq=>h2 q (List.mem_cons_of_mem _ hq)⟩;rcases List.mem_append.1 h1 with h1|h1
   ·exact h1
   ·simp at h1;exact absurd h1.symm hj
 ·rcases List.mem_cons.1 hq with rfl|hq
  ·simp
  ·exact List.mem_append_left _ (h.yX q hq)
 ·rcases List.mem_cons.1 hq with rfl|hq
  ·refine⟨hop,ha,hd,hltN d hd,hval,fun g hg=>?_,?_⟩
   ·simp only at hg;split at hg
    ·rename_i hc;cases hg;obtain⟨Fm,k1,_⟩:=hmk hc.2 hc.1;exact hstep.rel.lt _ _ k1
    ·cases hg
   have hw:=fJ hself;rcases p2 with ⟨hw1,hx|⟨f,args,hx,_⟩⟩|⟨hw1,hv,_⟩
   ·cases hm:makes o.op
    ·refine .inr (.inl ⟨hw.trans hw1,rfl,?_⟩);simp only;rw[ij hself];rw[hsame hm] at hx ⊢;exact hx
    ·obtain⟨Fm,k1,k2⟩:=hmk hw1 hm;refine .inr (.inr ⟨hw.trans hw1,A.aa,Fm,by simp [hm,hw1],h.step.aa,k1,fun t=>?_,fun F2 hF2=>k2 F2 fun x hx=>(hF2 x hx).trans (oQ hself x hx)⟩);cases hp:μ A.aa t with
     | none=>rfl
     | some q=>obtain⟨_,F',hF',_⟩:=h.step.rel.rd _ _ _ hp;have:=h.step.rel.lt _ _ hF';omega
   ·exact absurd hx (la ha)
   ·exact .inl ⟨hw.trans hw1,hv⟩
  ·exact (hother q hq).1
 ·rcases List.mem_cons.1 hq with rfl|hq
  ·exact h6 ha k1 ((fJ hself)▸k3) k2 d v hd hval
  ·exact h3 _ (h.see q hq k1 k2 ((hother q hq).2▸k3))
 ·rcases List.mem_cons.1 hq with rfl|hq<;>rcases List.mem_cons.1 hr with rfl|hr
  ·rfl
  ·simp only at hg1;split at hg1
   ·cases hg1;exact absurd rfl (hno r hr _ hg2)
   ·cases hg1
  ·simp only at hg2;split at hg2
   ·cases hg2;exact absurd rfl (hno q hq _ hg1)
   ·cases hg2
  ·exact h.dis q hq r hr g hg1 hg2
 ·refine h.En.2 t u (fun q hq=>ht q (List.mem_cons_of_mem _ hq)) ?_;rw[hget,if_neg] at hu
  ·exact hu
  ·intro e;rw[hd] at e;cases e;exact ht _ (List.mem_cons_self ..) rfl
theorem St.finish(hO:AF ops bs order)(h:St E base call N ops bs order F' A' μ0 A0 w0 a0 pre rest seen cC listed F A μ w a)(hall:∀i,i<ops.size→listed.getD i false=true){Q:Exit→Act→World→Prop}
 (hQ:∀a' w' μ',a'.defers=a0.defers→Step base μ0 A0 w0 μ' A' w'→gl μ' N F' a'→Q .normal a' w') : Q .normal a w:=by
 have hp:cC=[]:=by
  rcases cC with _|⟨p,l⟩
  ·rfl
  ·have h1:=h.pG hO (List.mem_cons_self ..);have:=hall p.i (Array.getElem?_eq_some_iff.1 (h.ok p (List.mem_cons_self ..)).op).1;rw[h1] at this;cases this
 subst hp;have hr:rest=[]:=by
  rcases rest with _|⟨j,l⟩
  ·rfl
  ·have hjo:j∈order:=by rw[h.ord];simp
   obtain⟨o,b,hI⟩:=hO.item j hjo;have hlt:j<ops.size:=(Array.getElem?_eq_some_iff.1 hI.op).1;have:=((h.Fb j hlt).1 (hall j hlt)).1;exact absurd rfl (h.BH hO this (List.mem_cons_self ..)).1
 subst hr;have:=h.run;simp only[hH,yA.ok.injEq] at this;obtain⟨rfl,rfl⟩:=this;exact hQ a w μ h.dfr h.step ⟨h.En.1,fun t v hv=>h.En.2 t v (by simp) hv⟩
omit [bu] in
theorem sW{P:Nat→Prop}:∀{l:List Nat},(∃x∈l,P x)→∃a j b,l=a++j::b∧P j∧∀x∈a,¬P x
 | [],⟨x,hx,_⟩=>by cases hx
 | y::l,⟨x,hx,hP⟩=>by
  by_cases hy:P y
  ·exact⟨[],y,l,rfl,hy,by simp⟩
  ·have:∃x∈l,P x:=by
    rcases List.mem_cons.1 hx with e|hx
    ·exact absurd (e▸hP) hy
    ·exact⟨x,hx,hP⟩
   obtain⟨a,j,b,h1,h2,h3⟩:=sW this;refine⟨y::a,j,b,by rw[h1];rfl,h2,fun z hz=>?_⟩;rcases List.mem_cons.1 hz with rfl|hz
   ·exact hy
   ·exact h3 z hz
theorem St.stuck(hO:AF ops bs order)(h:St E base call N ops bs order F' A' μ0 A0 w0 a0 pre rest seen cC listed F A μ w a)(hr:Region.ready .any ops listed=[]): ∀i,i<ops.size→listed.getD i false=true:=by
 intro i hi;cases hl:listed.getD i false with
 | true=>rfl
 | false=>
  obtain⟨l1,j,l2,e,hj,hb⟩:=sW (P:=fun x=>listed.getD x false=false) ⟨i,hO.all i hi,hl⟩;have hjo:j∈order:=by rw[e];simp
  obtain⟨o,b,hI⟩:=hO.item j hjo;have hlt:j<listed.size:=by rw[h.sz];exact (Array.getElem?_eq_some_iff.1 hI.op).1
  have:j∈Region.ready .any ops listed:=by
   refine mem_ready.2 ⟨by simpa [Array.getD_eq_getD_getElem?,hlt] using hj,o,hI.op,fun ed hm hbd=>?_⟩;have:=hO.edge l1 j l2 e o hI.op ed (by simpa using hm) hbd;simpa using hb _ this
  rw[hr] at this;cases this
theorem St.one(hE:dD E)(hC:kp E base call)(hO:AF ops bs order){i:Nat}{Q:Exit→Act→World→Prop}{K:Act→World→Prop}
 (hK:∀pre rest seen cC F A a w μ,St E base call N ops bs order F' A' μ0 A0 w0 a0 pre rest seen cC (listed.setIfInBounds i true) F A μ w a→K a w) (hi:i∈Region.ready .any ops listed) :
 ∀(rest pre:List Nat) (seen:List Seen) (cC:List Pd) (F:Fr) (A:AW),St E base call N ops bs order F' A' μ0 A0 w0 a0 pre rest seen cC listed F A μ w a→wpOp E.P ops Q i K a w:=by
 intro rest
 induction rest with
 | nil=>
  intro pre seen cC F A h;have hu:=h.unl hi;have hio:=hO.all i hu.1;rw[h.ord,List.append_nil] at hio;have:∃p∈cC,p.i=i:=by
   rcases Classical.em (∃p∈cC,p.i=i) with hh|hh
   ·exact hh
   ·have:=(h.Fb i hu.1).2 ⟨hio,fun p hp e=>hh ⟨p,hp,e⟩⟩;rw[hu.2] at this;cases this
  obtain⟨p,hp,rfl⟩:=this;exact h.late hE hO hp hi fun pend' a' w' μ' h'=>hK _ _ _ _ _ _ _ _ _ h'
 | cons j rest ih=>
  intro pre seen cC F A h;have hu:=h.unl hi;have hio:=hO.all i hu.1;by_cases hip:i∈pre
  ·have:∃p∈cC,p.i=i:=by
    rcases Classical.em (∃p∈cC,p.i=i) with hh|hh
    ·exact hh
    ·have:=(h.Fb i hu.1).2 ⟨hip,fun p hp e=>hh ⟨p,hp,e⟩⟩;rw[hu.2] at this;cases this
   obtain⟨p,hp,rfl⟩:=this;exact h.late hE hO hp hi fun pend' a' w' μ' h'=>hK _ _ _ _ _ _ _ _ _ h'
  ·by_cases e:j=i
   ·subst e;exact h.both hE hC hO hi fun seen' F1 A1 a' w' μ' h'=>hK _ _ _ _ _ _ _ _ _ h'
   ·have hir:i∈rest:=by
     have:=hio;rw[h.ord] at this;rcases List.mem_append.1 this with h1|h1
     ·exact absurd h1 hip
     ·rcases List.mem_cons.1 h1 with h1|h1
      ·exact absurd h1.symm e
      ·exact h1
    have hR:kG ops bs j i:=by
     have:=hO.pair;rw[h.ord] at this;exact (List.pairwise_cons.1 (List.pairwise_append.1 this).2.1).1 i hir
    obtain⟨oi,bi,hI⟩:=hO.item i hio;have hjl:listed.getD j false=false:=by
     have hjo:j∈order:=by rw[h.ord];simp
     obtain⟨oj,bj,hJ⟩:=hO.item j hjo;have hlt:j<ops.size:=(Array.getElem?_eq_some_iff.1 hJ.op).1;cases hl:listed.getD j false
     ·rfl
     ·exact absurd rfl (h.BH hO ((h.Fb j hlt).1 hl).1 (List.mem_cons_self ..)).1
    obtain⟨seen',pend',F1,A1,h'⟩:=h.alone hE hO fun o ho=>by
     refine (hR.free ho hI.op hI.bits ?_).1;cases hb:bit bi j
     ·rfl
     ·have:=h.ahead hO hi hio hI.bits j hb;rw[hjl] at this;cases this
    exact ih _ _ _ _ _ h'
omit [bu] in
theorem count_set:∀(l:List Bool) (i:Nat),l[i]?=some false→(l.set i true).count false+1=l.count false
 | [],i,h=>by simp at h
 | b::l,0,h=>by
  simp at h;subst h;simp
 | b::l,i+1,h=>by
  have:=count_set l i (by simpa using h);simp only[List.set_cons_succ,List.count_cons];omega
theorem St.any(hE:dD E)(hC:kp E base call)(hO:AF ops bs order){Q:Exit→Act→World→Prop}
 (hQ:∀a' w' μ',a'.defers=a0.defers→Step base μ0 A0 w0 μ' A' w'→gl μ' N F' a'→Q .normal a' w') :
 ∀(fuel:Nat) (pre rest:List Nat) (seen:List Seen) (cC:List Pd) (listed:Array Bool) (F:Fr) (A:AW) (μ:Mp) (w:World) (a:Act),St E base call N ops bs order F' A' μ0 A0 w0 a0 pre rest seen cC listed F A μ w a→
  listed.toList.count false≤fuel→wpAny E.P .any ops Q fuel listed a w
 | 0,pre,rest,seen,cC,listed,F,A,μ,w,a,h,hc=>by
  have hall:∀i,i<ops.size→listed.getD i false=true:=fun i hi=>by
   have hlt:i<listed.size:=by rw[h.sz];exact hi
   have hm:false∉listed.toList:=List.count_eq_zero.1 (by omega);rw[qw];cases hb:listed[i]? with
   | none=>rw[Array.getElem?_eq_none_iff] at hb;omega
   | some b=>
    cases b
    ·exact absurd (by simpa using Array.mem_of_getElem? hb) hm
    ·rfl
  refine⟨?_,h.finish hO hall hQ⟩;cases hr:Region.ready .any ops listed with
  | nil=>rfl
  | cons i l=>
   have:=h.unl (i:=i) (by rw[hr];exact List.mem_cons_self ..);rw[hall i this.1] at this;cases this.2
 | fuel+1,pre,rest,seen,cC,listed,F,A,μ,w,a,h,hc=>by
  refine⟨fun hr=>h.finish hO (h.stuck hO hr) hQ,fun i hi=>?_⟩;refine St.one hE hC hO (fun pre rest seen cC F A a w μ h'=>St.any hE hC hO hQ fuel pre rest seen cC _ F A μ w a h' ?_) hi rest pre seen cC F A h;have hu:=h.unl hi;have hlt:i<listed.size:=by rw[h.sz];exact hu.1
  have:=count_set listed.toList i (by
   have:=hu.2;rw[Array.getD_eq_getD_getElem?] at this;rw[Array.getElem?_toList];simp [hlt] at this ⊢;exact this)
  simp only[Array.toList_setIfInBounds];omega
end
theorem yY{E:Env}{base:Nat}(hE:dD E): vQ E base:=by
 intro call hC N id ops order bs F F' A A' μ w a Q hok hl h hF hQ;have hO:=xD hok;refine wp_region_any hE.mixed ?_;have hs:Step base μ A w μ A { w with drawn:=w.drawn+1 }:=Step.side h ⟨rfl,rfl,rfl⟩ rfl;refine St.any (μ0:=μ) (A0:=A) (w0:=w) (a0:=a) (N:=N) (F':=F') (A':=A') (bs:=bs) (order:=order) hE hC hO hQ _ [] order [] [] _ F A μ _ a ⟨rfl,hl,by simp,fun i hi=>by simp [Array.getD_eq_getD_getElem?,hi],fun k hk=>?_,by simp,by simp,by simp,by simp,hs,⟨hF.1,fun t v _ hv=>hF.2 t v hv⟩,rfl⟩ ?_
 ·rw[qw,Array.getElem?_replicate] at hk;split at hk<;>cases hk
 ·rw[Array.toList_replicate];exact Nat.le_trans (List.count_le_length ..) (by simp)
theorem AG{E:Env}{base:Nat}(hE:dD E)(n:Nat): kp E base (AE.call E n):=yO hE (yY hE) n
end Go.AE
