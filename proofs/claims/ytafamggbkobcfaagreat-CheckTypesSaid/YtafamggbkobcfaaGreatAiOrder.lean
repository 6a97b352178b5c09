/- A part of the proof of the statement CheckTypes. -/
import Derived.Test.YtafamggbkobcfaaGreatAiStay
namespace Go.AE
set_option linter.unusedVariables false
set_option linter.unusedSimpArgs false
variable[bu]
omit [bu] in
theorem vV(m i:Nat): bit m i=m.testBit i:=by
 unfold bit;rw[beq_eq,Nat.testBit_eq_decide_div_mod_eq];rfl
omit [bu] in
theorem rz(a b i:Nat): bit (Nat.lor a b) i=(bit a i || bit b i):=by
 simp only[vV];exact Nat.testBit_or a b i
omit [bu] in
theorem rA(j i:Nat): bit (Nat.pow 2 j) i=decide (j=i):=by
 simp only[vV];exact Nat.testBit_two_pow ..
omit [bu] in
theorem lX(i:Nat): bit 0 i=false:=by simp [vV]
omit [bu] in
theorem lY{m n:Nat}(h:within m n=true){i:Nat}(hi:bit m i=true): bit n i=true:=by
 unfold within at h;rw[beq_eq] at h;have h:Nat.land m n=m:=by simpa using h
 rw[vV] at hi ⊢;have:(Nat.land m n).testBit i=(m.testBit i && n.testBit i):=Nat.testBit_and m n i;rw[h,hi] at this;simpa using this
omit [bu] in
theorem jD{done:Nat}:∀{l:List Edge},kr done l=true→∀e∈l,Region.binds .any e=true→bit done e.on=true
 | [],_,e,he,_=>by cases he
 | x::l,h,e,he,hb=>by
  simp only[kr] at h;cases hx:Region.binds .any x
  ·rw[hx] at h;simp only[cond_false] at h;rcases List.mem_cons.1 he with rfl|he
   ·rw[hx] at hb;cases hb
   ·exact jD h e he hb
  ·rw[hx] at h;simp only[cond_true] at h;cases hd:bit done x.on<;>rw[hd] at h<;>simp only[cond_true,cond_false,Bool.false_eq_true] at h;rcases List.mem_cons.1 he with rfl|he
   ·exact hd
   ·exact jD h e he hb
omit [bu] in
theorem oT{acc:List Nat}{j:Nat}:∀{l:List Edge} {s:Nat},bit (oF acc l s) j=true→bit s j=true∨∃e∈l,Region.binds .any e=true∧(j=e.on∨∃m,acc[e.on]?=some m∧bit m j=true)
 | [],s,h=>.inl h
 | x::l,s,h=>by
  simp only[oF] at h;rcases oT h with h|⟨e,he,hb,h⟩
  ·cases hx:Region.binds .any x
   ·rw[hx] at h;exact .inl h
   ·rw[hx] at h;simp only[cond_true,rz,rA,Bool.or_eq_true,decide_eq_true_eq] at h;rcases h with h|h|h
    ·exact .inl h
    ·exact .inr ⟨x,List.mem_cons_self ..,hx,.inl h.symm⟩
    ·rw[fB] at h;cases hm:acc[x.on]? with
     | none=>rw[hm] at h;simp [lX] at h
     | some m=>rw[hm] at h;exact .inr ⟨x,List.mem_cons_self ..,hx,.inr ⟨m,hm,h⟩⟩
  ·exact .inr ⟨e,List.mem_cons_of_mem _ he,hb,h⟩
omit [bu] in
theorem oU{m:Nat}:∀{k:Nat},ra k m=true→∀i,i<k→bit m i=true
 | 0,_,i,hi=>by omega
 | k+1,h,i,hi=>by
  simp only[ra,Bool.and_eq_true] at h;rcases Nat.lt_or_eq_of_le (Nat.lt_succ_iff.1 hi) with hi|rfl
  ·exact oU h.2 i hi
  ·exact h.1
def kG(ops:Array Oper)(bs:List Nat)(i j:Nat): Prop:=
 i≠j∧∀oi oj bj,ops[i]?=some oi→ops[j]?=some oj→bs[j]?=some bj→pq ops i oi oj bj=true
omit [bu] in
theorem oV{ops:Array Oper}{oj:Oper}{bj:Nat}:∀{l:List (Nat×Oper)},qZ ops oj bj l=true→∀i oi,(i,oi)∈l→pq ops i oi oj bj=true
 | [],_,i,oi,h=>by cases h
 | (k,ok)::l,h,i,oi,hm=>by
  simp only[qZ,Bool.and_eq_true] at h;rcases List.mem_cons.1 hm with e|hm
  ·cases e;exact h.1
  ·exact oV h.2 i oi hm
structure CT (ops:Array Oper) (bs:List Nat) (j:Nat) (o:Oper) (b:Nat) : Prop where
 op:ops[j]?=some o
 bits:bs[j]?=some b
 own:vE ops o=true
 sel:uG o.op=true
 cl:∀i,bit b i=true→∃e∈o.after.toList,Region.binds .any e=true∧(i=e.on∨∃m,bs[e.on]?=some m∧bit m i=true)
structure AF (ops:Array Oper) (bs order:List Nat) : Prop where
 all:∀i,i<ops.size→i∈order
 item:∀i∈order,∃o b,CT ops bs i o b
 pair:order.Pairwise (kG ops bs)
 edge:∀pre j post,order=pre++j::post→∀o,ops[j]?=some o→∀e∈o.after.toList,Region.binds .any e=true→e.on∈pre
omit [bu] in
theorem oX{ops:Array Oper}{bs:List Nat}:∀{rest:List Nat} {done:Nat} {back:List (Nat×Oper)},oH ops bs rest done back=true→
 (∀p∈back,ops[p.1]?=some p.2)→(∀k,bit done k=true↔∃p∈back,p.1=k)→
 (∀i,i<ops.size→bit done i=true∨i∈rest)∧(∀i∈rest,∃o b,CT ops bs i o b)∧rest.Pairwise (kG ops bs)∧(∀p∈back,∀j∈rest,kG ops bs p.1 j)∧
 (∀pre j post,rest=pre++j::post→∀o,ops[j]?=some o→∀e∈o.after.toList,Region.binds .any e=true→bit done e.on=true∨e.on∈pre)
 | [],done,back,h,hb,hd=>by
  simp only[oH] at h;refine⟨fun i hi=>.inl (oU h i (by rw[ey];simpa using hi)),by simp,.nil,by simp,fun pre j post he=>?_⟩;have:=congrArg List.length he;simp at this
 | j::rest,done,back,h,hb,hd=>by
  simp only[oH] at h;split at h
  ·rename_i oj bj hoj hbj;simp only[Bool.and_eq_true,Bool.not_eq_true'] at h;obtain⟨h1,h2,h3,h4,h5,h6,h7⟩:=h;rw[fB] at hoj hbj;have hoj':ops[j]?=some oj:=by simpa using hoj
   obtain⟨q1,q2,q3,q4,q5⟩:=oX h7 (fun p hp=>by
    rcases List.mem_cons.1 hp with rfl|hp
    ·exact hoj'
    ·exact hb p hp) (fun k=>by
    rw[rz,rA,Bool.or_eq_true,decide_eq_true_eq,hd];constructor
    ·rintro (⟨p,hp,rfl⟩|rfl)
     ·exact⟨p,List.mem_cons_of_mem _ hp,rfl⟩
     ·exact⟨(j,oj),List.mem_cons_self ..,rfl⟩
    ·rintro ⟨p,hp,rfl⟩;rcases List.mem_cons.1 hp with rfl|hp
     ·exact .inr rfl
     ·exact .inl ⟨p,hp,rfl⟩)
   refine⟨fun i hi=>?_,fun i hi=>?_,List.pairwise_cons.2 ⟨fun k hk=>q4 (j,oj) (List.mem_cons_self ..) k hk,q3⟩,fun p hp k hk=>?_,fun pre k post he o ho e hm hbd=>?_⟩
   ·rcases q1 i hi with h|h
    ·rw[rz,rA,Bool.or_eq_true,decide_eq_true_eq] at h;rcases h with h|rfl
     ·exact .inl h
     ·exact .inr (List.mem_cons_self ..)
    ·exact .inr (List.mem_cons_of_mem _ h)
   ·rcases List.mem_cons.1 hi with rfl|hi
    ·refine⟨oj,bj,hoj',hbj,h5,h4,fun i' hi'=>?_⟩;rcases oT (lY h3 hi') with h|h
     ·rw[lX] at h;cases h
     ·exact h
    ·exact q2 i hi
   ·rcases List.mem_cons.1 hk with rfl|hk
    ·refine⟨fun e=>?_,fun oi oj2 bj2 e1 e2 e3=>?_⟩
     ·have:=(hd p.1).2 ⟨p,hp,rfl⟩;rw[e,h1] at this;cases this
     ·rw[hoj'] at e2;cases e2;rw[hbj] at e3;cases e3;have:=hb p hp;rw[e1] at this;cases this;exact oV h6 p.1 p.2 hp
    ·exact q4 p (List.mem_cons_of_mem _ hp) k hk
   ·cases pre with
    | nil=>
     simp only[List.nil_append,List.cons.injEq] at he;obtain⟨rfl,rfl⟩:=he;rw[hoj'] at ho;cases ho;exact .inl (jD h2 e hm hbd)
    | cons x pre=>
     simp only[List.cons_append,List.cons.injEq] at he;obtain⟨rfl,rfl⟩:=he;rcases q5 pre k post rfl o ho e hm hbd with h|h
     ·rw[rz,rA,Bool.or_eq_true,decide_eq_true_eq] at h;rcases h with h|rfl
      ·exact .inl h
      ·exact .inr (List.mem_cons_self ..)
     ·exact .inr (List.mem_cons_of_mem _ h)
  ·cases h
omit [bu] in
theorem xD{ops:Array Oper}{order bs:List Nat}(h:yB ops order bs=true): AF ops bs order:=by
 obtain⟨a,b,c,_,d⟩:=oX (back:=[]) h (by simp) (fun k=>by simp [lX]);refine⟨fun i hi=>?_,b,c,fun pre j post he o ho e hm hb=>?_⟩
 ·rcases a i hi with h|h
  ·rw[lX] at h;cases h
  ·exact h
 ·rcases d pre j post he o ho e hm hb with h|h
  ·rw[lX] at h;cases h
  ·exact h
omit [bu] in
theorem jE{l:List Tmp}{d:Tmp}(h:(!l.contains d)=true): d∉l:=by simpa using h
omit [bu] in
theorem kG.free{ops:Array Oper}{bs:List Nat}{i j:Nat}(h:kG ops bs i j){oi oj:Oper}{bj:Nat}(hi:ops[i]?=some oi)(hj:ops[j]?=some oj)(hb:bs[j]?=some bj)(hn:bit bj i=false):
 ib oi.op=false∧(∀d,oi.dst=some d→d∉oj.looksAt ops)∧(∀d,oj.dst=some d→d∉oi.looksAt ops):=by
 have:=h.2 oi oj bj hi hj hb;unfold pq at this;rw[hn] at this;simp only[cond_false,Bool.and_eq_true,Bool.not_eq_true'] at this;obtain⟨a,b,c⟩:=Oper.apart_spec this.2.2;exact⟨this.2.1,a,c⟩
omit [bu] in
theorem kG.dst{ops:Array Oper}{bs:List Nat}{i j:Nat}(h:kG ops bs i j){oi oj:Oper}{bj:Nat}(hi:ops[i]?=some oi)(hj:ops[j]?=some oj)(hb:bs[j]?=some bj): ∀d,oi.dst=some d→oj.dst≠some d:=by
 have:=h.2 oi oj bj hi hj hb;unfold pq at this;rw[Bool.and_eq_true] at this;intro d hd e;have:=this.1;simp [hd,e] at this
omit [bu] in
theorem kG.back{ops:Array Oper}{bs:List Nat}{i j:Nat}(h:kG ops bs i j){oi oj:Oper}{bj:Nat}(hi:ops[i]?=some oi)(hj:ops[j]?=some oj)(hb:bs[j]?=some bj)(ha:ib oj.op=false): ∀d,oj.dst=some d→d∉oi.looksAt ops:=by
 intro d hd;cases hn:bit bj i
 ·exact (h.free hi hj hb hn).2.2 d hd
 ·have:=h.2 oi oj bj hi hj hb;unfold pq at this;rw[hn,hd,ha] at this;simp only[cond_true,Bool.or_false,Bool.and_eq_true] at this;exact jE this.2
omit [bu] in
theorem oY{α:Type}{R S:α→α→Prop}(h1:∀a b,R a b→S a b)(h2:∀a b,R a b→S b a): ∀{l:List α},l.Pairwise R→∀a∈l,∀b∈l,a≠b→S a b
 | [],_,a,ha,_,_,_=>by cases ha
 | x::l,h,a,ha,b,hb,hne=>by
  obtain⟨h3,h4⟩:=List.pairwise_cons.1 h;rcases List.mem_cons.1 ha with e|ha'<;>rcases List.mem_cons.1 hb with e'|hb'
  ·exact absurd (e.trans e'.symm) hne
  ·rw[e];exact h1 _ _ (h3 _ hb')
  ·rw[e'];exact h2 _ _ (h3 _ ha')
  ·exact oY h1 h2 h4 a ha' b hb' hne
omit [bu] in
theorem AF.both{ops:Array Oper}{bs order:List Nat}(h:AF ops bs order){i j:Nat}(hi:i∈order)(hj:j∈order)(hne:i≠j){oi oj:Oper}{bi:Nat}(h1:ops[i]?=some oi)(h2:ops[j]?=some oj)(h3:bs[i]?=some bi)
 (hb:bit bi j=false) (ha:ib oj.op=false) : ∀d,oj.dst=some d→d∉oi.looksAt ops:=by
 have key:=oY (S:=fun i j=>∀oi oj bi bj,ops[i]?=some oi→ops[j]?=some oj→bs[i]?=some bi→bs[j]?=some bj→bit bi j=false→ib oj.op=false→∀d,oj.dst=some d→d∉oi.looksAt ops)
  (fun a b hr oi oj bi bj e1 e2 e3 e4 _ ha=>hr.back e1 e2 e4 ha) (fun a b hr oi oj bi bj e1 e2 e3 e4 hb _=>(hr.free e2 e1 e3 hb).2.1) h.pair i hi j hj hne
 obtain⟨_,bj,hj'⟩:=h.item j hj;exact key oi oj bi bj h1 h2 h3 hj'.bits hb ha
section
variable{base:Nat}{μ μ0:Mp}{A A0:AW}{w w0 w1:World}
theorem Step.ahead(h:Rel base μ A w)(Fm:eI): Step base μ A w μ ⟨A.heap.set A.aa Fm,Nat.succ A.aa⟩ w:=by
 have hget:∀f,(A.heap.set A.aa Fm).get f=if f=A.aa then some Fm else A.heap.get f:=fun f=>Tr.dQ _ _ _ _
 have hne:∀f t p,μ f t=some p→f≠A.aa:=fun f t p hp e=>by
  obtain⟨_,F',hF',_⟩:=h.rd _ _ _ hp;have:=h.lt _ _ hF';omega
 refine⟨h,⟨h.iy,fun f F hF=>?_,fun f t p hp=>?_,fun f f' F t t' p p' hF hro hp hp' hc=>?_,fun f F t p hF hp hro=>?_,fun f F p hF hp=>?_⟩,fun _ _ _ h=>h,fun f hf hn=>⟨hn,?_⟩,Nat.le_succ _,
  fun _ t p h=>.inl ⟨t,p,h,rfl⟩,fun f F hF=>⟨F,?_,rfl,Nat.le_refl _⟩,rfl,rfl,rfl,Nat.le_refl _,fun _ _ _=>rfl⟩
 ·show f<Nat.succ A.aa;rw[hget] at hF;split at hF
  ·omega
  ·have:=h.lt _ _ hF;omega
 ·obtain⟨a,F,b,c⟩:=h.rd f t p hp;exact⟨a,F,by simp only[hget,if_neg (hne f t p hp)];exact b,c⟩
 ·rw[hget,if_neg (hne f t p hp)] at hF;exact h.inj f f' F t t' p p' hF hro hp hp' hc
 ·rw[hget,if_neg (hne f t p hp)] at hF;exact h.own f F t p hF hp hro
 ·rw[hget,if_neg (hne _ _ _ hp)] at hF;exact h.yC f F p hF hp
 ·simp only[hget];rw[if_neg (by omega)]
 ·have:=h.lt _ _ hF;simp only[hget];rw[if_neg (by omega)];exact hF
theorem Step.CU(h:Step base μ0 A0 w0 μ A w){g:Nat}{F:eI}{p:Pl}(hge:A0.aa≤g)(hg:A.heap.get g=some F)(hn:∀t,μ g t=none)(hs:ur w w1)(hc:p.c=w.heap.size)
 (hz:w1.heap.size=w.heap.size+1) (hold:∀b,b<w.heap.size→w1.heap[b]?=w.heap[b]?) (hcur:F.cur=0) (hCR:CR μ F p w1) :
 Step base μ0 A0 w0 (μ.put g 0 p) A w1:=by
 obtain⟨h1,h2⟩:=Step.late h.rel hg hn hs hc hz hold hcur hCR;refine⟨h.pre,h1,fun f t q hq=>h2 _ _ _ (h.ae _ _ _ hq),fun f hf hm=>?_,h.aa,fun f t q hq=>?_,h.fg,hs.os.trans h.os,hs.tape.trans h.tape,hs.output.trans h.output,by have:=h.size;omega,fun b hb hm=>?_⟩
 ·obtain⟨a,b⟩:=h.cC f hf hm;exact⟨fun t=>by rw[Mp.kQ _ _ (.inl (by omega))];exact a t,b⟩
 ·unfold Mp.put at hq;split at hq
  ·cases hq;have:=h.size;exact .inr (by omega)
  ·exact h.src f t q hq
 ·exact (hold b (by have:=h.size;omega)).trans (h.wU b hb hm)
theorem kW.late{E:Env}{s:Sem Value}{mk:Nat→AV}{F:eI}(hN:kW E μ w s mk F)(h:Step base μ0 A0 w0 μ A w){g:Nat}(hge:A0.aa≤g)(hg:A.heap.get g=some F)(hn:∀t,μ g t=none):
 ∃cv w1 μ',s.run E.P w=.ok cv w1∧aQ μ' (mk g) cv∧Step base μ0 A0 w0 μ' A w1∧(∀f t p,μ f t=some p→μ' f t=some p)∧(∀f,f≠g→(∀t,μ f t=none)→∀t,μ' f t=none):=by
 obtain⟨cv,w1,p,h1,h2,h3,h4,h5,h6,h7,h8,h9⟩:=hN;refine⟨cv,w1,μ.put g 0 p,h1,h2 g,h.CU hge hg hn h3 h4 h5 h6 h7 h9,(Step.late h.rel hg hn h3 h4 h5 h6 h7 h9).2,fun f hf hm t=>?_⟩;rw[Mp.kQ _ _ (.inl hf)];exact hm t
end
end Go.AE
