/- A part of the proof of the statement CheckTypes. -/
import Derived.Test.YtafamggbkobcfaaGreatAiSyT3
import Derived.Test.YtafamggbkobcfaaGreatAiSy4
import Derived.Test.YtafamggbkobcfaaGreatAiSyV
namespace Go.Proofs.YtafamggbkobcfaaGreat.Ae
open Go.AE
set_option linter.unusedVariables false
set_option maxRecDepth 100000
section
variable{E:Env}{C:bC}{l:Kn}{A:AW}{R:AV→AW→Prop}{k:List Item}
theorem bk{t:TypeId}{f s o:Nat}{dt:bH}{ro:Bool}{es:Nat}{cs vs:List AV}(ht:E.cf.get t=some dt)(hg:dt.agg=true)(hf:A.heap.get f=some (.cells s ro es cs))(hn:takeN dt.size (aB o cs)=some vs):
 fR E t (.ptr f s o) A=.val (.agg vs) A:=by
 simp only[fR,ht,hg,cond_true,bU,hf,Nat.beq_refl,cond_true,hn]
theorem fO{c:Nat}{t:TypeId}{p v:AV}{A1:AW}(hc:C.fn.results.toList=[.cell c t])(h1:l.find c=some p)(hl:fR E t p A=.val v A1)(h:R v A): WG E C (.code .ret::k) l A R:=⟨fun F hF=>by
 have hr:dl E F A C.fn.results.toList=some [v]:=by
  rw[hc];simp only[dl,ic,hF.get c p h1,hl]
 exact⟨F,A,_,tf hr,h,1,fun n hn=>by
  obtain⟨m,rfl⟩:∃m,n=m+1:=⟨n-1,om⟩;rfl⟩⟩
end
def AO(x:bM): Prop:=x.1=3∨x.1=4
instance (x:bM) : Decidable (AO x):=by unfold AO;exact inferInstance
def Fc(hs:Hs)(x:bM): Prop:=if x.1=4 then has hs x.2=true else x.2=[]∧1≤x.1∧x.1≤5
instance (hs:Hs) (x:bM) : Decidable (Fc hs x):=by unfold Fc;exact inferInstance
def bI(hs:Hs)(a b:bM): Prop:=if b.1=6 then True else if a.1=5 then b.1=5∨b.1=3∨b.1=4 else if a.1=4∧b.1=4 then sub hs a.2 b.2=true else a.1=b.1∧1≤a.1∧a.1≤3
instance (hs:Hs) (a b:bM) : Decidable (bI hs a b):=by unfold bI;exact inferInstance
theorem BN{K:FuncId}{A:AW}{fr fm:Nat}{vn:AV}{hs:Hs}{x y:bM}(hw:Wf A)(h:Hi A fr fm vn hs)(hg:Good hs)(hn:hs.length≤100):
 aD (ES K) 124 [.ptr fr 0 0,tv x,tv y] A fun r A1=>r=.bool (decide (bI hs x y))∧ac A A1 ag:=by
 obtain⟨a,s⟩:=x;obtain⟨b,t⟩:=y;refine ap rfl rfl rfl ?_;unfold tv;refine gO ?_;refine zB (n:=2) (y:=[.int .i64 a,.str s]) hw ?_;intro A1 o1 hx;generalize A.aa=fx at hx;refine gO ?_;refine zB (n:=2) (y:=[.int .i64 b,.str t]) o1.wf ?_;intro A2 o2 hy;generalize A1.aa=fy at hy;have hx:=o2.k hx;have o12:=o1.same o2;refine wD (fun h6=>?_) fun h6=>?_
 ·have h6:b=6:=h6;have e:bI hs (a,s) (b,t):=by
   unfold bI;rw[iP h6];trivial
  refine gO ?_;exact af rfl ⟨congrArg AV.bool (yT e).symm,o12⟩
 have h6:¬b=6:=h6;refine wD (fun h5=>?_) fun h5=>?_
 ·have h5:a=5:=h5;have e:bI hs (a,s) (b,t)↔b=5∨b=3∨b=4:=by
   unfold bI;rw[iN h6,iP h5]
  refine gO ?_;by_cases c1:b=5
  ·refine wT 18 c1 ?_;refine gO ?_;exact af rfl ⟨congrArg AV.bool (yT (e.2 (.inl c1))).symm,o12⟩
  ·refine wF 18 c1 ?_;refine gO ?_;by_cases c2:b=3
   ·refine wT 23 c2 ?_;refine gO ?_;exact af rfl ⟨congrArg AV.bool (yT (e.2 (.inr (.inl c2)))).symm,o12⟩
   ·refine wF 23 c2 ?_;refine gO ?_;exact af rfl ⟨congrArg AV.bool (decide_eq_decide.2 ⟨fun h=>e.2 (.inr (.inr h)),fun h=>((e.1 h).resolve_left c1).resolve_left c2⟩),o12⟩
 have h5:¬a=5:=h5;refine oP ?_;refine wG ?_;refine bX (pp 0 fr (pp 4 fx (pp 5 fy (pb 28 (decide (a=4∧b=4)) .nil)))) ?_ ?_
 ·refine oP ?_;by_cases c1:a=4
  ·refine wT 32 c1 ?_;refine oP ?_;exact⟨rfl,rfl,rfl,rfl,congrArg (fun x=>some (AV.bool x)) (decide_eq_decide.2 ⟨fun h=>⟨c1,h⟩,fun h=>h.2⟩),trivial⟩
  ·refine wF 32 c1 ?_;refine oP ?_;exact⟨rfl,rfl,rfl,rfl,congrArg (fun x=>some (AV.bool x)) (yF fun h=>c1 h.1).symm,trivial⟩
 refine zG (fun h44=>?_) fun h44=>?_
 ·have e:bI hs (a,s) (b,t)↔sub hs s t=true:=by
   unfold bI;rw[iN h6,iN h5,iP h44]
  refine wC (Dl o12.wf (h.ae o12) hg hn) ?_;rintro r A3 ⟨rfl,o3⟩;refine gO ?_;refine af rfl ⟨congrArg AV.bool ?_,o12.same o3⟩;cases hb:sub hs s t
  ·exact (yF fun h=>by rw[e.1 h] at hb;cases hb).symm
  ·exact (yT (e.2 hb)).symm
 ·have e:bI hs (a,s) (b,t)↔a=b∧1≤a∧a≤3:=by
   unfold bI;rw[iN h6,iN h5,iN h44]
  refine gO ?_;by_cases c1:a=b
  ·refine wT 48 c1 ?_;refine gO ?_;by_cases c2:1≤a
   ·refine wT 53 c2 ?_;refine gO ?_;exact af rfl ⟨congrArg AV.bool (decide_eq_decide.2 ⟨fun h=>e.2 ⟨c1,c2,h⟩,fun h=>(e.1 h).2.2⟩),o12⟩
   ·refine wF 53 c2 ?_;refine gO ?_;exact af rfl ⟨congrArg AV.bool (yF fun h=>c2 (e.1 h).2.1).symm,o12⟩
  ·refine wF 48 c1 ?_;refine gO ?_;exact af rfl ⟨congrArg AV.bool (yF fun h=>c1 (e.1 h).1).symm,o12⟩
structure MI (A A1:AW) (f4 f5 f6 f7:Nat) (a:Int) (s:Str) (b:Int) (t:Str) : Prop where
 o:ac A A1 ag
 h4:A1.heap.get f4=some (.cells 0 false 2 [.int .i64 a,.str s])
 h5:A1.heap.get f5=some (.cells 0 false 2 [.int .i64 b,.str t])
 h6:A1.heap.get f6=some (.cells 0 false 2 [.int .i64 0,.str []])
 h7:A1.heap.get f7=some (.cells 0 false 2 [.int .i64 6,.str []])
 n6:A.aa≤f6
theorem MI.ae{A A1 A2:AW}{f4 f5 f6 f7:Nat}{a b:Int}{s t:Str}(h:MI A A1 f4 f5 f6 f7 a s b t)(k:ac A1 A2 ag): MI A A2 f4 f5 f6 f7 a s b t:=
 ⟨h.o.same k,k.ae _ _ h.h4 fun h=>h,k.ae _ _ h.h5 fun h=>h,k.ae _ _ h.h6 fun h=>h,k.ae _ _ h.h7 fun h=>h,h.n6⟩
theorem MI.done{A A1:AW}{f4 f5 f6 f7:Nat}{a b:Int}{s t:Str}{x:eI}(hw:Wf A)(h:MI A A1 f4 f5 f6 f7 a s b t): ac A (A1.put f6 x) ag:=
 ac.fresh hw h.o (ac.put h.o.wf (h.o.wf _ _ h.h6)) fun g hg=>by cases hg;exact h.n6
theorem made{A:AW}{es:Nat}{cs cs':List AV}(hw:Wf A): ac A ((A.add (.cells 0 false es cs)).put A.aa (.cells 0 false es cs')) ag:=by
 have oa:ac A (A.add (.cells 0 false es cs)) ag:=ac.add hw _;have op:=ac.put (x:=.cells 0 false es cs') oa.wf (f:=A.aa) (Nat.lt_succ_self _);exact⟨op.wf,Nat.le_trans oa.aa op.aa,fun g F hg hn=>op.ae g F (oa.ae g F hg hn) fun e=>by
  have:=hw g F hg;cases e;omega⟩
inductive Nd where
 | mk (k a:Int) (s:Str) (i:Int) (x:Nat×Nat) (l:List Nd)
def Nd.k:Nd→Int
 | .mk k _ _ _ _ _=>k
def Nd.a:Nd→Int
 | .mk _ a _ _ _ _=>a
def Nd.s:Nd→Str
 | .mk _ _ s _ _ _=>s
def Nd.i:Nd→Int
 | .mk _ _ _ i _ _=>i
def Nd.x:Nd→Nat×Nat
 | .mk _ _ _ _ x _=>x
def Nd.l:Nd→List Nd
 | .mk _ _ _ _ _ l=>l
def au(t:Nd)(kv:AV): List AV:=[.int .i64 t.k,.int .i64 t.a,.str t.s,.int .i64 t.i,.dh .f64 t.x.1 t.x.2,kv]
mutual
inductive aI (A:AW) (S:Nat→Prop) : Nd→AV→Prop
 | mk {t:Nd} {kv:AV} {cs:List AV}:Row A 6 kv t.l.length cs→(∀g,kv.av g→S g)→t.l.length≤9000→lz A S t.l cs→aI A S t kv
inductive lz (A:AW) (S:Nat→Prop) : List Nd→List AV→Prop
 | nil:lz A S [] []
 | cons {t:Nd} {kv:AV} {ts:List Nd} {cs:List AV}:aI A S t kv→lz A S ts cs→lz A S (t::ts) (au t kv++cs)
end
mutual
theorem aI.ae{A A1:AW}{S T:Nat→Prop}(o:ac A A1 T)(hd:lh S T): ∀{t:Nd} {kv:AV},aI A S t kv→aI A1 S t kv
 | _,_,.mk h1 h2 h3 h4=>.mk (h1.ae o fun g hg=>hd g (h2 g hg)) h2 h3 (lz.ae o hd h4)
theorem lz.ae{A A1:AW}{S T:Nat→Prop}(o:ac A A1 T)(hd:lh S T): ∀{ts:List Nd} {cs:List AV},lz A S ts cs→lz A1 S ts cs
 | _,_,.nil=>.nil
 | _,_,.cons h1 h2=>.cons (aI.ae o hd h1) (lz.ae o hd h2)
end
mutual
theorem aI.mono{A:AW}{S S':Nat→Prop}(hs:∀g,S g→(∃F,A.heap.get g=some F)→S' g): ∀{t:Nd} {kv:AV},aI A S t kv→aI A S' t kv
 | _,_,.mk h1 h2 h3 h4=>.mk h1 (fun g hg=>hs g (h2 g hg) (by
  rcases h1 with ⟨rfl|⟨z,rfl⟩,_,_⟩|⟨f,t,o,c,ex,ro,all,rfl,h1,_,_⟩
  ·exact hg.elim
  ·exact hg.elim
  ·cases hg;exact⟨_,h1⟩)) h3 (lz.mono hs h4)
theorem lz.mono{A:AW}{S S':Nat→Prop}(hs:∀g,S g→(∃F,A.heap.get g=some F)→S' g): ∀{ts:List Nd} {cs:List AV},lz A S ts cs→lz A S' ts cs
 | _,_,.nil=>.nil
 | _,_,.cons h1 h2=>.cons (aI.mono hs h1) (lz.mono hs h2)
end
theorem lz.len{A:AW}{S:Nat→Prop}:∀{ts:List Nd} {cs:List AV},lz A S ts cs→cs.length=ts.length*6
 | _,_,.nil=>rfl
 | _,_,.cons (ts:=ts) h1 h2=>by
  rw[lA,lz.len h2,lC];show 6+ts.length*6=(ts.length+1)*6;omega
theorem BP{a b:List AV}:∀(j k:Nat),j+k≤a.length→takeN k (aB j (a++b))=takeN k (aB j a):=by
 intro j
 induction j generalizing a with
 | zero=>
  intro k h;rw[show aB 0 (a++b)=a++b from rfl,show aB 0 a=a from rfl,br _ _ (by rw[lA];omega),br _ _ om,List.take_append_of_le_length om]
 | succ j ih=>
  intro k h;cases a with
  | nil=>simp at h
  | cons y a=>exact ih k (by simp only[lC] at h;omega)
theorem lz.at{A:AW}{S:Nat→Prop}:∀{ts:List Nd} {cs:List AV} {i:Nat} {t:Nd},lz A S ts cs→ts[i]?=some t→∃kv,aI A S t kv∧∀k j,j+k≤6→takeN k (aB (i*6+j) cs)=takeN k (aB j (au t kv))
 | _,_,i,t,.nil,h=>by cases h
 | _,_,0,t,.cons (t:=u) (kv:=kv) (cs:=cs) h1 h2,h=>by
  simp only[List.getElem?_cons_zero,Option.some.injEq] at h;subst h;refine⟨kv,h1,fun k j hk=>?_⟩;rw[Nat.zero_mul,Nat.zero_add];exact BP j k hk
 | _,_,i+1,t,.cons (t:=u) (kv:=kv) (cs:=cs) h1 h2,h=>by
  obtain⟨kv',g1,g2⟩:=lz.at (i:=i) (t:=t) h2 (by simpa using h);refine⟨kv',g1,fun k j hk=>?_⟩;rw[←g2 k j hk,show (i+1)*6+j=(i*6+j)+6 from by omega];rfl
theorem lz.snoc{A:AW}{S:Nat→Prop}{t:Nd}{kv:AV}(h:aI A S t kv): ∀{ts:List Nd} {cs:List AV},lz A S ts cs→lz A S (ts++[t]) (cs++au t kv)
 | _,_,.nil=>by
  have:=lz.cons h .nil;rw[aN] at this;exact this
 | _,_,.cons h1 h2=>by
  rw[aA];exact .cons h1 (lz.snoc h h2)
theorem aI.wi{A:AW}{S:Nat→Prop}{t:Nd}{kv:AV}(h:aI A S t kv){i:Nat}{u:Nd}(hu:t.l[i]?=some u):
 ∃f s o c ex ro all ku,kv=.slice f s o t.l.length c ex∧A.heap.get f=some (.cells s ro 6 all)∧i<t.l.length∧aI A S u ku∧
  ∀k j,j+k≤6→takeN k (aB (Nat.add (Nat.add o (Nat.mul i 6)) j) all)=takeN k (aB j (au u ku)):=by
 have hi:=(List.getElem?_eq_some_iff.1 hu).1;cases h with
 | mk h1 h2 h3 h4=>
  obtain⟨f,s,o,c,ex,ro,all,rfl,hh,cw⟩:=h1.at hi;obtain⟨ku,g1,g2⟩:=h4.at hu;exact⟨f,s,o,c,ex,ro,all,ku,rfl,hh,hi,g1,fun k j hk=>(cw k j hk).trans (g2 k j hk)⟩
theorem aI.bm{A:AW}{S:Nat→Prop}{t:Nd}{kv:AV}(h:aI A S t kv): Go.AE.bm kv=some t.l.length:=by
 cases h with
 | mk h1 h2 h3 h4=>exact h1.bm
theorem aI.len{A:AW}{S:Nat→Prop}{t:Nd}{kv:AV}(h:aI A S t kv): t.l.length≤9000:=by
 cases h with
 | mk h1 h2 h3 h4=>exact h3
theorem aI.leaf{A:AW}{S:Nat→Prop}{k a:Int}{s:Str}{i:Int}{x:Nat×Nat}:aI A S (.mk k a s i x []) .aj:=.mk (cs:=[]) (.inl ⟨.inl rfl,rfl,rfl⟩) (fun g h=>h.elim) (Nat.zero_le _) .nil
noncomputable abbrev sz (t:Nd) : Nat:=SizeOf.sizeOf t
theorem fE{t u:Nd}(h:u∈t.l): sz u<sz t:=by
 cases t with
 | mk k a s i x l=>
  have:=List.sizeOf_lt_of_mem (show u∈l from h);show SizeOf.sizeOf u<SizeOf.sizeOf (Nd.mk k a s i x l);rw[Nd.mk.sizeOf_spec];omega
end Go.Proofs.YtafamggbkobcfaaGreat.Ae
namespace Go.Proofs.YtafamggbkobcfaaGreat.Ae
open Go.AE
set_option linter.unusedVariables false
section
variable{E:Env}{C:bC}{k:List Item}{l:Kn}{A A1:AW}{RR:AV→AW→Prop}{f s o n c:Nat}{ro:Bool}{cs vs:List AV}{t:TypeId}{dt:bH}
theorem zR(h:RR (.agg vs) (A.put f (.cells s ro n cs)))(hc:C.fn.results.toList=[.cell c t]:=by exact rfl)(h1:l.find c=some (.ptr f s o):=by exact rfl)(ht:E.cf.get t=some dt:=by exact rfl)(hg:dt.agg=true:=by exact rfl)(hn:takeN dt.size (aB o cs)=some vs:=by exact rfl): WG E C (.code .ret::k) l (A.put f (.cells s ro n cs)) RR:=fO hc h1 (bk ht hg (by rw[AW.aw,if_pos rfl]) hn) h
theorem zT(hf:A.heap.get f=some (.cells s ro n vs))(h:RR (.agg vs) A)(hc:C.fn.results.toList=[.cell c t]:=by exact rfl)(h1:l.find c=some (.ptr f s 0):=by exact rfl)(ht:E.cf.get t=some dt:=by exact rfl)(hg:dt.agg=true:=by exact rfl)(hn:takeN dt.size vs=some vs:=by exact rfl): WG E C (.code .ret::k) l A RR:=fO hc h1 (bk ht hg hf hn) h
end
theorem aI.k{A A1:AW}{S T:Nat→Prop}{t:Nd}{kv:AV}(N:aI A S t kv)(o:ac A A1 T)(hd:lh S T:=by exact nD): aI A1 S t kv:=N.ae o hd
theorem aI.q{A:AW}{S S':Nat→Prop}{t:Nd}{kv:AV}(N:aI A S t kv)(hs:∀g,S g→(∃F,A.heap.get g=some F)→S' g:=by exact nA): aI A S' t kv:=N.mono hs
abbrev nd(k a:Int)(s:Str)(l:List Nd): Nd:=.mk k a s 0 (0,0) l
end Go.Proofs.YtafamggbkobcfaaGreat.Ae
namespace Go.Proofs.YtafamggbkobcfaaGreat.Ae
open Go.AE
set_option linter.unusedVariables false
set_option maxRecDepth 100000
structure Ri (A:AW) (fr:Nat) (vn vs:AV) (hs:Hs) : Prop where
 cell:A.heap.get fr=some (.cells 0 false 2 [vn,vs])
 n:zo A 1 vn hs.length (ip (hs.map Prod.fst))
 s:zo A 1 vs hs.length (ip (hs.map Prod.snd))
theorem Ri.ae{A A1:AW}{fr:Nat}{vn vs:AV}{hs:Hs}(h:Ri A fr vn vs hs)(ho:ac A A1 ag): Ri A1 fr vn vs hs:=
 ⟨ho.ae _ _ h.cell fun h=>h,gQ h.n ho fun _ _ h=>h,gQ h.s ho fun _ _ h=>h⟩
theorem Ri.rn{A:AW}{fr:Nat}{vn vs:AV}{hs:Hs}(h:Ri A fr vn vs hs): Row A 1 vn (hs.map Prod.fst).length (ip (hs.map Prod.fst)):=by
 rw[lM];exact AM h.n
theorem Ri.rs{A:AW}{fr:Nat}{vn vs:AV}{hs:Hs}(h:Ri A fr vn vs hs): Row A 1 vs (hs.map Prod.snd).length (ip (hs.map Prod.snd)):=by
 rw[lM];exact AM h.s
theorem gS{K:FuncId}{A:AW}{fr:Nat}{vn vs:AV}{hs:Hs}{k:Str}(h:Ri A fr vn vs hs)(hn:hs.length≤100): aD (ES K) 32 [.ptr fr 0 0,.str k] A fun r A1=>r=.int .i64 (ix (hs.map Prod.fst) k 0)∧A1=A:=by
 refine ap rfl rfl rfl ?_;have hc:=h.cell;refine gO ?_;refine aE ?_;refine yL (pp 0 fr (pv 1 (.str k) (pn 5 0 .nil))) ?_;refine aV (ι:=Nat) (fun i=>hs.length-i) (fun i=>pp 0 fr (pv 1 (.str k) (pn 5 i .nil))) (fun i A1=>A1=A∧i≤hs.length∧ix ((hs.map Prod.fst).drop i) k i=ix (hs.map Prod.fst) k 0) ?_ 0 A ⟨rfl,Nat.zero_le _,rfl⟩;rintro i A1 ⟨rfl,hi,hx⟩ ih;refine wJ (mg h.n) ?_;refine zG (fun hlt=>?_) fun hge=>?_
 ·have hlt:i<hs.length:=Int.ofNat_lt.1 hlt;have hlt':i<(hs.map Prod.fst).length:=by rw[lM];exact hlt
  obtain⟨s,hs1⟩:∃s,(hs.map Prod.fst)[i]?=some s:=⟨_,gE hlt'⟩;have hd:(hs.map Prod.fst).drop i=s::(hs.map Prod.fst).drop (i+1):=by
   rw[gE hlt',Option.some.injEq] at hs1;rw[←hs1];exact List.drop_eq_getElem_cons hlt'
  rw[hd] at hx;have hx:(if k=s then (i:Int) else ix ((hs.map Prod.fst).drop (i+1)) k (i+1))=ix (hs.map Prod.fst) k 0:=hx;obtain⟨f,t,o,c,ex,ro,all,e0,hh,_,cw⟩:=cZ h.rn hs1;refine wI e0 hlt' ?_;refine wE hh cw ?_;refine zG (fun he=>?_) fun he=>?_
  ·have he:s=k:=he;rw[iP he.symm] at hx;refine gO ?_;exact af rfl ⟨by rw[←hx];rfl,rfl⟩
  ·have he:¬s=k:=he;rw[iN (fun h=>he h.symm)] at hx;refine wP ?_;refine ai ?_;refine yL (pp 0 fr (pv 1 (.str k) (pn 5 (i+1:Nat) .nil))) ?_;exact ih (i+1) _ om ⟨rfl,hlt,hx⟩
 ·rw[List.drop_eq_nil_of_le (by rw[lM];omega)] at hx;refine ay rfl ?_;refine gO ?_;exact af rfl ⟨by rw[←hx];rfl,rfl⟩
theorem uW:∀(hs:Hs) (k v:Str) (i:Nat),lk hs k=some v→∃j,ix (hs.map Prod.fst) k i=((i+j:Nat) : Int)∧hs[j]?=some (k,v)
 | [],k,v,i,h=>by cases h
 | p::l,k,v,i,h=>by
  have h:(if k=p.1 then some p.2 else lk l k)=some v:=h;show ∃j,(if k=p.1 then (i:Int) else ix (l.map Prod.fst) k (i+1))=_∧_;by_cases hp:k=p.1
  ·rw[iP hp] at h ⊢;cases h;exact⟨0,rfl,by rw[hp];rfl⟩
  ·rw[iN hp] at h ⊢;obtain⟨j,h1,h2⟩:=uW l k v (i+1) h;exact⟨j+1,by rw[h1];congr 1;omega,h2⟩
theorem wj:∀(hs:Hs) (k:Str) (i:Nat),lk hs k=none→ix (hs.map Prod.fst) k i = -1
 | [],k,i,h=>rfl
 | p::l,k,i,h=>by
  have h:(if k=p.1 then some p.2 else lk l k)=none:=h;show (if k=p.1 then (i:Int) else ix (l.map Prod.fst) k (i+1)) = -1;by_cases hp:k=p.1
  ·rw[iP hp] at h;cases h
  ·rw[iN hp] at h ⊢;exact wj l k (i+1) h
theorem fW(hs:Hs)(k:Str): 0≤ix (hs.map Prod.fst) k 0↔has hs k=true:=by
 unfold has;cases hl:lk hs k with
 | none=>rw[wj hs k 0 hl];simp
 | some v=>
  obtain⟨j,h1,_⟩:=uW hs k v 0 hl;rw[h1];simp
def Hd(hs:Hs): Prop:=∃l,hs=(bB,[])::l
theorem pS{hs:Hs}(h:Hd hs)(k:Str): ix (hs.map Prod.fst) k 0=0↔k=bB:=by
 obtain⟨l,rfl⟩:=h;show (if k=bB then ((0:Nat) : Int) else ix (l.map Prod.fst) k 1)=0↔_;by_cases hk:k=bB
 ·rw[iP hk];exact⟨fun _=>hk,fun _=>rfl⟩
 ·rw[iN hk];refine⟨fun e=>?_,fun e=>absurd e hk⟩;cases hl:lk l k with
  | none=>rw[wj l k 1 hl] at e;cases e
  | some v=>
   obtain⟨j,h1,_⟩:=uW l k v 1 hl;rw[h1] at e;omega
theorem pT{K:FuncId}{A:AW}{fr:Nat}{vn vs:AV}{hs:Hs}{k:Str}(hw:Wf A)(h:Ri A fr vn vs hs)(hg:Good hs)(hu:∀k,has hs k=true→¬k=bB→has hs (up hs k)=true)(hd:Hd hs)(hn:hs.length≤100):
 aD (ES K) 58 [.ptr fr 0 0,.str k] A fun r A1=>eH A1 1 r (nj hs k).length (ip (nj hs k))∧ac A A1 ag∧ge A ag r.av:=by
 refine ap rfl rfl rfl ?_;refine wC (gS h hn) ?_;rintro r A1 ⟨rfl,e1⟩;obtain rfl:A=A1:=e1.symm;refine gO ?_;refine aE ?_;refine yL (pp 0 fr (.put 5 .aj (pz 6 (ix (hs.map Prod.fst) k 0) .nil))) ?_;cases hb:has hs k with
 | false=>
  have ha:nj hs k=[]:=by unfold nj;rw[hb];rfl
  have hx:¬0≤ix (hs.map Prod.fst) k 0:=fun e=>by
   have:=(fW hs k).1 e;rw[hb] at this;cases this
  rw[ha];refine gO ?_;refine zG (fun e=>absurd e hx) fun _=>?_;refine ay rfl ?_;refine gO ?_;exact af rfl ⟨.inl ⟨rfl,rfl,rfl⟩,ac.refl hw _,fun g hg=>.inl hg⟩
 | true=>
  have ha:nj hs k=iJ hs (hs.length+1) k:=by
   unfold nj;rw[iP hb]
  rw[ha];refine aV (ι:=Nat×Str×List Str×AV) (fun i=>i.1) (fun i=>pp 0 fr (.put 5 i.2.2.2 (pz 6 (ix (hs.map Prod.fst) i.2.1 0) .nil)))
   (fun i A2=>(cA hs i.1 i.2.1=false∧has hs i.2.1=true)∧i.2.2.1++iJ hs i.1 i.2.1=iJ hs (hs.length+1) k∧eH A2 1 i.2.2.2 i.2.2.1.length (ip i.2.2.1)∧ac A A2 ag∧(∀g,i.2.2.2.av g→A.aa≤g)∧i.2.2.1.length+i.1=hs.length+1) ?_
   (hs.length+1,k,[],.aj) A ⟨⟨hg k hb,hb⟩,rfl,.inl ⟨rfl,rfl,rfl⟩,ac.refl hw _,fun g h=>h.elim,by simp⟩
  rintro ⟨f,q,out,v⟩ A2 ⟨⟨h1,hq⟩,h2,h3,h4,h5,h6⟩ ih;have h1:cA hs f q=false:=h1;have hq:has hs q=true:=hq;have h2:out++iJ hs f q=iJ hs (hs.length+1) k:=h2;have h3:eH A2 1 v out.length (ip out):=h3;have h4:ac A A2 ag:=h4;have h5:∀g,v.av g→A.aa≤g:=h5;have h6:out.length+f=hs.length+1:=h6;obtain⟨w,hlk⟩:∃w,lk hs q=some w:=by
   unfold has at hq;exact Option.isSome_iff_exists.1 hq
  obtain⟨j,hj1,hj2⟩:=uW hs q w 0 hlk;rw[Nat.zero_add] at hj1;have hup:up hs q=w:=by unfold up;rw[hlk];rfl
  have hN:(hs.map Prod.fst)[j]?=some q:=by rw[List.getElem?_map,hj2];rfl
  have hS:(hs.map Prod.snd)[j]?=some w:=by rw[List.getElem?_map,hj2];rfl
  have hR:=h.ae h4;have hc:=hR.cell;obtain⟨fa,ta,oa,ca,exa,roa,alla,ea,hha,hla,hata⟩:=cZ hR.rn hN;refine gO ?_;refine zG (fun _=>?_) fun e=>absurd ((fW hs q).2 hq) e;refine gO ?_;refine bg j rfl (congrArg some ea) rfl rfl hj1 hla ?_;refine wE hha hata ?_;refine bE rfl rfl rfl rfl rfl (cH (n:=out.length) (de:=d9) rfl rfl rfl rfl h4.wf h3 rfl dE (cU om dE)) ?_;intro v' A3 g;have b3:eH A3 1 v' (out++[q]).length (ip (out++[q])):=by
   have:=g.buf;rw[lA,lS,dZ];exact this
  have o3:ac A A3 ag:=ac.fresh hw h4 g.Fi h5;have f3:∀k,v'.av k→A.aa≤k:=fun k hk=>(g.grow k hk).elim (h5 k) fun h=>Nat.le_trans h4.aa h;refine wD (fun ho=>?_) fun ho=>?_
  ·have ho:q=bB:=(pS hd q).1 ho;rw[ho,jJ] at h2;rw[←h2];rw[ho] at b3;refine ay rfl ?_;refine gO ?_;exact af rfl ⟨b3,o3,fun g hg=>.inr (f3 g hg)⟩
  ·have hne:¬q=bB:=fun e=>ho ((pS hd q).2 e);obtain⟨m,rfl,e1,e2⟩:=pR h1 hne;have hR3:=h.ae o3;have hc3:=hR3.cell;obtain⟨fb,tb,ob,cb,exb,rob,allb,eb,hhb,hlb,hatb⟩:=cZ hR3.rs hS;refine gO ?_;refine bg j rfl (congrArg some eb) rfl rfl hj1 hlb ?_;refine zE hhb hatb ?_;refine zC rfl (gS hR3 hn) ?_;rintro r A4 ⟨rfl,e4⟩;obtain rfl:A3=A4:=e4.symm;refine gO ?_;refine ai ?_;refine bY (pp 0 fr (.put 5 v' (pz 6 (ix (hs.map Prod.fst) (up hs q) 0) .nil))) ?_ ⟨rfl,rfl,by rw[hup];rfl,trivial⟩;refine ih (m,up hs q,out++[q],v') A3 (Nat.lt_succ_self _) ⟨⟨e1,hu q hq hne⟩,?_,b3,o3,f3,?_⟩
   ·show (out++[q])++iJ hs m (up hs q)=_;rw[←h2,e2,aA];rfl
   ·show (out++[q]).length+m=_;rw[lA,lS];omega
theorem BQ{K:FuncId}{A:AW}{fr:Nat}{vn vs:AV}{hs:Hs}{a b:Str}(hw:Wf A)(h:Ri A fr vn vs hs)(hg:Good hs)(hu:∀k,has hs k=true→¬k=bB→has hs (up hs k)=true)(hd:Hd hs)(hn:hs.length≤100):
 aD (ES K) 95 [.ptr fr 0 0,.str a,.str b] A fun r A1=>r=.bool (sub hs a b)∧ac A A1 ag:=by
 have hl:=rG hs a;refine ap rfl rfl rfl ?_;refine wC (pT hw h hg hu hd hn) ?_;rintro v A1 ⟨h1,h2,h3⟩;unfold sub;generalize nj hs a=l at h1 hl;refine gO ?_;refine aE ?_;refine yL (pv 2 (.str b) (pv 7 v (pn 8 0 .nil))) ?_;refine aV (ι:=Nat) (fun i=>l.length-i) (fun i=>pv 2 (.str b) (pv 7 v (pn 8 i .nil))) (fun i A2=>A2=A1∧i≤l.length∧¬b∈l.take i) ?_ 0 A1 ⟨rfl,Nat.zero_le _,by simp⟩;rintro i A2 ⟨rfl,hi,hx⟩ ih;refine wJ h1.bm ?_;refine zG (fun hlt=>?_) fun hge=>?_
 ·have hlt:i<l.length:=Int.ofNat_lt.1 hlt;obtain⟨s,hs'⟩:∃s,l[i]?=some s:=⟨l[i],gE hlt⟩;obtain⟨f,t,o,c,ex,ro,all,e0,hh,_,hN⟩:=cZ h1.row hs';refine wI e0 hlt ?_;refine wE hh hN ?_;refine zG (fun he=>?_) fun he=>?_
  ·have he:s=b:=he;refine gO ?_;exact af rfl ⟨congrArg AV.bool (yT (he▸mG hs')).symm,h2⟩
  ·have he:¬s=b:=he;refine wP ?_;refine ai ?_;refine yL (pv 2 (.str b) (pv 7 v (pn 8 (i+1:Nat) .nil))) ?_;refine ih (i+1) _ om ⟨rfl,hlt,fun hm=>?_⟩;rw[List.take_add_one,hs'] at hm;rcases List.mem_append.1 hm with hm|hm
   ·exact hx hm
   ·simp at hm;exact he hm.symm
 ·have hge:i=l.length:=by
   omega
  rw[hge,tL] at hx;refine ay rfl ?_;refine gO ?_;exact af rfl ⟨congrArg AV.bool (yF hx).symm,h2⟩
theorem zr{K:FuncId}{A:AW}{fr:Nat}{vn vs:AV}{hs:Hs}{x y:bM}(hw:Wf A)(h:Ri A fr vn vs hs)(hg:Good hs)(hu:∀k,has hs k=true→¬k=bB→has hs (up hs k)=true)(hd:Hd hs)(hn:hs.length≤100):
 aD (ES K) 61 [.ptr fr 0 0,tv x,tv y] A fun r A1=>r=.bool (decide (bI hs x y))∧ac A A1 ag:=by
 obtain⟨a,s⟩:=x;obtain⟨b,t⟩:=y;refine ap rfl rfl rfl ?_;unfold tv;refine gO ?_;refine zB (n:=2) (y:=[.int .i64 a,.str s]) hw ?_;intro A1 o1 hx;generalize A.aa=fx at hx;refine gO ?_;refine zB (n:=2) (y:=[.int .i64 b,.str t]) o1.wf ?_;intro A2 o2 hy;generalize A1.aa=fy at hy;have hx:=o2.k hx;have o12:=o1.same o2;refine wD (fun h6=>?_) fun h6=>?_
 ·have h6:b=6:=h6;have e:bI hs (a,s) (b,t):=by
   unfold bI;rw[iP h6];trivial
  refine gO ?_;exact af rfl ⟨congrArg AV.bool (yT e).symm,o12⟩
 have h6:¬b=6:=h6;refine wD (fun h5=>?_) fun h5=>?_
 ·have h5:a=5:=h5;have e:bI hs (a,s) (b,t)↔b=5∨b=3∨b=4:=by
   unfold bI;rw[iN h6,iP h5]
  refine gO ?_;by_cases c1:b=5
  ·refine wT 18 c1 ?_;refine gO ?_;exact af rfl ⟨congrArg AV.bool (yT (e.2 (.inl c1))).symm,o12⟩
  ·refine wF 18 c1 ?_;refine gO ?_;by_cases c2:b=3
   ·refine wT 23 c2 ?_;refine gO ?_;exact af rfl ⟨congrArg AV.bool (yT (e.2 (.inr (.inl c2)))).symm,o12⟩
   ·refine wF 23 c2 ?_;refine gO ?_;exact af rfl ⟨congrArg AV.bool (decide_eq_decide.2 ⟨fun h=>e.2 (.inr (.inr h)),fun h=>((e.1 h).resolve_left c1).resolve_left c2⟩),o12⟩
 have h5:¬a=5:=h5;refine wD (fun hab=>?_) fun hab=>?_
 ·have hab:¬a=b:=hab;have e:¬bI hs (a,s) (b,t):=by
   unfold bI;rw[iN h6,iN h5,iN (fun h=>hab (h.1.trans h.2.symm))];exact fun h=>hab h.1
  refine gO ?_;exact af rfl ⟨congrArg AV.bool (yF e).symm,o12⟩
 have hab:a=b:=Decidable.byContradiction hab;refine wD (fun h4=>?_) fun h4=>?_
 ·have h4:a=4:=h4;have e:bI hs (a,s) (b,t)↔sub hs s t=true:=by
   unfold bI;rw[iN h6,iN h5,iP ⟨h4,hab▸h4⟩]
  refine wC (BQ o12.wf (h.ae o12) hg hu hd hn) ?_;rintro r A3 ⟨rfl,o3⟩;refine gO ?_;refine af rfl ⟨congrArg AV.bool ?_,o12.same o3⟩;cases hb:sub hs s t
  ·exact (yF fun h=>by rw[e.1 h] at hb;cases hb).symm
  ·exact (yT (e.2 hb)).symm
 ·have h4:¬a=4:=h4;have e:bI hs (a,s) (b,t)↔1≤a∧a≤3:=by
   unfold bI;rw[iN h6,iN h5,iN (fun h=>h4 h.1)];exact⟨fun h=>h.2,fun h=>⟨hab,h⟩⟩
  refine gO ?_;by_cases c2:1≤a
  ·refine wT 47 c2 ?_;refine gO ?_;exact af rfl ⟨congrArg AV.bool (decide_eq_decide.2 ⟨fun h=>e.2 ⟨c2,h⟩,fun h=>(e.1 h).2⟩),o12⟩
  ·refine wF 47 c2 ?_;refine gO ?_;exact af rfl ⟨congrArg AV.bool (yF fun h=>c2 (e.1 h).1).symm,o12⟩
def pg(c:Nat): Bool:=decide ((97≤c∧c≤122)∨(65≤c∧c≤90)∨c=95∨c=36)
theorem qB{K:FuncId}{A:AW}{c:Nat}:aD (ES K) 121 [.int .u8 (c:Int)] A fun r A1=>r=.bool (pg c)∧A1=A:=by
 unfold pg;refine ap rfl rfl rfl ?_;refine gO ?_;by_cases c1:97≤c
 ·refine aF 5 true rfl (yT om) ?_;refine gO ?_;by_cases c2:c≤122
  ·refine aF 9 true rfl (yT om) ?_;refine gO ?_;exact af rfl ⟨congrArg AV.bool (yT om).symm,rfl⟩
  ·refine aF 9 false rfl (yF om) ?_;refine gO ?_;refine aF 12 true rfl (yT om) ?_;refine gO ?_;refine aF 17 false rfl (yF om) ?_;refine gO ?_;refine aF 21 false rfl (yF om) ?_;refine gO ?_;exact af rfl ⟨congrArg AV.bool (decide_eq_decide.2 om),rfl⟩
 ·refine aF 5 false rfl (yF om) ?_;refine gO ?_;by_cases c3:65≤c
  ·refine aF 12 true rfl (yT om) ?_;refine gO ?_;by_cases c4:c≤90
   ·refine aF 17 true rfl (yT om) ?_;refine gO ?_;exact af rfl ⟨congrArg AV.bool (yT om).symm,rfl⟩
   ·refine aF 17 false rfl (yF om) ?_;refine gO ?_;by_cases c5:c=95
    ·refine aF 21 true rfl (yT om) ?_;refine gO ?_;exact af rfl ⟨congrArg AV.bool (yT om).symm,rfl⟩
    ·refine aF 21 false rfl (yF om) ?_;refine gO ?_;exact af rfl ⟨congrArg AV.bool (decide_eq_decide.2 om),rfl⟩
  ·refine aF 12 false rfl (yF om) ?_;refine gO ?_;refine aF 21 false rfl (yF om) ?_;refine gO ?_;exact af rfl ⟨congrArg AV.bool (decide_eq_decide.2 om),rfl⟩
def mh(c:Nat): Bool:=pg c || decide (48≤c∧c≤57)
theorem BR{K:FuncId}{A:AW}{c:Nat}:aD (ES K) 122 [.int .u8 (c:Int)] A fun r A1=>r=.bool (mh c)∧A1=A:=by
 unfold mh;refine ap rfl rfl rfl ?_;refine wC qB ?_;rintro r A1 ⟨rfl,rfl⟩;refine gO ?_;cases hl:pg c with
 | true=>
  refine gO ?_;exact af rfl ⟨rfl,rfl⟩
 | false=>
  refine gO ?_;by_cases c1:48≤c
  ·refine aF 8 true rfl (yT om) ?_;refine gO ?_;exact af rfl ⟨congrArg AV.bool (show _=decide _ from decide_eq_decide.2 om),rfl⟩
  ·refine aF 8 false rfl (yF om) ?_;refine gO ?_;exact af rfl ⟨congrArg AV.bool (show _=decide _ from (yF om).symm),rfl⟩
def rI(s:Str): Prop:=s≠[]∧s.length≤20∧pg (s.getD 0 0)=true∧∀c∈s,mh c=true
instance (s:Str) : Decidable (rI s):=by unfold rI;exact inferInstance
theorem xR{K:FuncId}{A:AW}{s:Str}:aD (ES K) 101 [.str s] A fun r A1=>r=.bool (decide (rI s))∧A1=A:=by
 refine ap rfl rfl rfl ?_;refine gO ?_;by_cases c1:s=[]
 ·refine wT 6 c1 ?_;refine rU ?_;exact af rfl ⟨congrArg AV.bool (yF fun h=>h.1 c1).symm,rfl⟩
 refine wF 6 c1 ?_;refine gO ?_;by_cases c2:20<s.length
 ·refine aF 11 true rfl (yT om) ?_;refine rU ?_;exact af rfl ⟨congrArg AV.bool (yF fun h=>by have:=h.2.1;omega).symm,rfl⟩
 refine aF 11 false rfl (yF om) ?_;refine gO ?_;obtain⟨c,hc⟩:∃c,s[0]?=some c:=by
  cases s with
  | nil=>exact absurd rfl c1
  | cons c l=>exact⟨c,rfl⟩
 have hcd:s.getD 0 0=c:=by rw[List.getD_eq_getElem?_getD,hc];rfl
 refine cn 0 rfl rfl rfl rfl rfl rfl (by rw[fB];exact hc) ?_;refine wC qB ?_;rintro r A1 ⟨rfl,rfl⟩;refine gO ?_;refine fh rfl (fun hb=>?_) fun hb=>?_
 ·refine gO ?_;refine af rfl ⟨congrArg AV.bool (yF fun h=>?_).symm,rfl⟩;have h3:=h.2.2.1;rw[hcd] at h3;rw[h3] at hb;cases hb
 have hb:pg c=true:=by
  cases hx:pg c
  ·rw[hx] at hb;cases hb
  ·rfl
 refine gO ?_;refine lZ ?_;refine yL (pv 0 (.str s) (pn 3 0 .nil)) ?_;refine aV (ι:=Nat) (fun i=>s.length-i) (fun i=>pv 0 (.str s) (pn 3 i .nil)) (fun i A2=>A2=A1∧i≤s.length∧∀c∈s.take i,mh c=true) ?_ 0 A1 ⟨rfl,Nat.zero_le _,fun c hc=>by simp at hc⟩;rintro i A2 ⟨rfl,hi,hp⟩ ih;refine wD (fun he=>?_) fun he=>?_
 ·have he:i=s.length:=Int.ofNat_inj.1 he;subst he;rw[tL] at hp;refine gO ?_;exact af rfl ⟨congrArg AV.bool (yT ⟨c1,om,by rw[hcd];exact hb,hp⟩).symm,rfl⟩
 have hlt:i<s.length:=by
  have:¬(i:Int)=(s.length:Int):=he;omega
 obtain⟨d,hd⟩:∃d,s[i]?=some d:=⟨s[i],gE hlt⟩;refine gO ?_;refine cn i rfl rfl rfl rfl rfl rfl (by rw[fB];exact hd) ?_;refine zC rfl BR ?_;rintro r A2 ⟨rfl,e2⟩;subst e2;refine gO ?_;refine fh rfl (fun hb2=>?_) fun hb2=>?_
 ·refine gO ?_;refine af rfl ⟨congrArg AV.bool (yF fun h=>?_).symm,rfl⟩;have h4:=h.2.2.2 d (mG hd);rw[h4] at hb2;cases hb2
 ·have hb2:mh d=true:=by
   cases hx:mh d
   ·rw[hx] at hb2;cases hb2
   ·rfl
  refine wP ?_;refine oZ rfl (ld (jd ?_));refine yL (pv 0 (.str s) (pn 3 (i+1:Nat) .nil)) ?_;refine ih (i+1) _ om ⟨rfl,hlt,fun c hc=>?_⟩;rw[List.take_add_one,hd] at hc;rcases List.mem_append.1 hc with hc|hc
  ·exact hp c hc
  ·simp at hc;rw[hc];exact hb2
theorem zt{K:FuncId}{A:AW}{fr fm:Nat}{vn:AV}{hs:Hs}{k:Str}(h:Hi A fr fm vn hs)(hn:hs.length≤100): aD (ES K) 102 [.ptr fr 0 0,.str k] A fun r A1=>r=.bool (cA hs (hs.length+1) k)∧A1=A:=by
 refine ap rfl rfl rfl ?_;have hc:=h.cell;refine gO ?_;refine lZ ?_;refine yL (pp 0 fr (pv 1 (.str k) (pn 5 0 .nil))) ?_;refine aV (ι:=Nat×Str) (fun i=>hs.length+1-i.1) (fun i=>pp 0 fr (pv 1 (.str i.2) (pn 5 i.1 .nil))) (fun i A2=>A2=A∧i.1≤hs.length+1∧cA hs (hs.length+1-i.1) i.2=cA hs (hs.length+1) k) ?_ (0,k) A ⟨rfl,Nat.zero_le _,rfl⟩;rintro ⟨i,q⟩ A2 ⟨rfl,hi,hr⟩ ih;have hr:cA hs (hs.length+1-i) q=cA hs (hs.length+1) k:=hr;refine wD (fun ho=>?_) fun ho=>?_
 ·have ho:q=bB:=ho;have e:cA hs (hs.length+1-i) q=false:=by
   cases hs.length+1-i with
   | zero=>unfold cA;exact yF fun h=>h ho
   | succ m=>unfold cA;rw[iP ho]
  rw[←hr,e];refine gO ?_;exact af rfl ⟨rfl,rfl⟩
 have ho:¬q=bB:=ho;refine wJ (mg h.buf) ?_;refine zG (fun hl=>?_) fun hl=>?_
 ·have e:cA hs (hs.length+1-i) q=true:=by
   rw[show hs.length+1-i=0 from by omega];exact yT ho
  rw[←hr,e];refine gO ?_;exact af rfl ⟨rfl,rfl⟩
 have e:cA hs (hs.length+1-i) q=cA hs (hs.length+1-(i+1)) (up hs q):=by
  rw[show hs.length+1-i=(hs.length+1-(i+1))+1 from by omega]
  conv=>lhs;unfold cA
  rw[iN ho]
 rw[e] at hr;refine gO ?_;refine mI rfl rfl rfl (mH false h.map) ?_;refine wP ?_;refine oZ rfl (ld (jd ?_));refine yL (pp 0 fr (pv 1 (.str (up hs q)) (pn 5 (i+1:Nat) .nil))) ?_;exact ih (i+1,up hs q) A2 (by simp only;omega) ⟨rfl,by simp only;omega,hr⟩
def nk(c:Nat)(first:Bool): Bool:=pg c || (decide (48≤c∧c≤57) && !first)
theorem rJ{c:Nat}{first:Bool}(h:(97≤c∧c≤122)∨(65≤c∧c≤90)∨c=95∨c=36): AV.bool true=AV.bool (nk c first):=by
 unfold nk pg;rw[yT h];rfl
set_option maxHeartbeats 4000000 in
theorem jf{K:FuncId}{A:AW}{c:Nat}{first:Bool}:aD (ES K) 36 [.int .u8 (c:Int),.bool first] A fun r A1=>r=.bool (nk c first)∧A1=A:=by
 refine ap rfl rfl rfl ?_;refine gO ?_;by_cases c1:97≤c
 ·refine aF 7 true rfl (yT om) ?_;refine gO ?_;by_cases c2:c≤122
  ·refine aF 11 true rfl (yT om) ?_;refine gO ?_;exact af rfl ⟨rJ om,rfl⟩
  ·refine aF 11 false rfl (yF om) ?_;refine gO ?_;refine aF 14 true rfl (yT om) ?_;refine gO ?_;refine aF 19 false rfl (yF om) ?_;refine gO ?_;refine aF 23 false rfl (yF om) ?_;refine gO ?_;refine aF 27 false rfl (yF om) ?_;refine gO ?_;have hL:pg c=false:=yF om;by_cases d1:48≤c
   ·refine aF 30 true rfl (yT om) ?_;refine gO ?_;by_cases d2:c≤57
    ·refine aF 34 true rfl (yT om) ?_;refine gO ?_;exact af rfl ⟨congrArg AV.bool (by unfold nk;rw[hL,yT ⟨d1,d2⟩];cases first<;>rfl),rfl⟩
    ·refine aF 34 false rfl (yF om) ?_;refine gO ?_;exact af rfl ⟨congrArg AV.bool (by unfold nk;rw[hL,yF (fun h=>d2 h.2)];rfl),rfl⟩
   ·refine aF 30 false rfl (yF om) ?_;refine gO ?_;exact af rfl ⟨congrArg AV.bool (by unfold nk;rw[hL,yF (fun h=>d1 h.1)];rfl),rfl⟩
 ·refine aF 7 false rfl (yF om) ?_;refine gO ?_;by_cases c3:65≤c
  ·refine aF 14 true rfl (yT om) ?_;refine gO ?_;by_cases c4:c≤90
   ·refine aF 19 true rfl (yT om) ?_;refine gO ?_;exact af rfl ⟨rJ om,rfl⟩
   ·refine aF 19 false rfl (yF om) ?_;refine gO ?_;by_cases c5:c=95
    ·refine aF 23 true rfl (yT om) ?_;refine gO ?_;exact af rfl ⟨rJ om,rfl⟩
    ·refine aF 23 false rfl (yF om) ?_;refine gO ?_;refine aF 27 false rfl (yF om) ?_;refine gO ?_;have hL:pg c=false:=yF om;by_cases d1:48≤c
     ·refine aF 30 true rfl (yT om) ?_;refine gO ?_;by_cases d2:c≤57
      ·refine aF 34 true rfl (yT om) ?_;refine gO ?_;exact af rfl ⟨congrArg AV.bool (by unfold nk;rw[hL,yT ⟨d1,d2⟩];cases first<;>rfl),rfl⟩
      ·refine aF 34 false rfl (yF om) ?_;refine gO ?_;exact af rfl ⟨congrArg AV.bool (by unfold nk;rw[hL,yF (fun h=>d2 h.2)];rfl),rfl⟩
     ·refine aF 30 false rfl (yF om) ?_;refine gO ?_;exact af rfl ⟨congrArg AV.bool (by unfold nk;rw[hL,yF (fun h=>d1 h.1)];rfl),rfl⟩
  ·refine aF 14 false rfl (yF om) ?_;refine gO ?_;refine aF 23 false rfl (yF om) ?_;refine gO ?_;by_cases c6:c=36
   ·refine aF 27 true rfl (yT om) ?_;refine gO ?_;exact af rfl ⟨rJ om,rfl⟩
   ·refine aF 27 false rfl (yF om) ?_;refine gO ?_;have hL:pg c=false:=yF om;by_cases d1:48≤c
    ·refine aF 30 true rfl (yT om) ?_;refine gO ?_;by_cases d2:c≤57
     ·refine aF 34 true rfl (yT om) ?_;refine gO ?_;exact af rfl ⟨congrArg AV.bool (by unfold nk;rw[hL,yT ⟨d1,d2⟩];cases first<;>rfl),rfl⟩
     ·refine aF 34 false rfl (yF om) ?_;refine gO ?_;exact af rfl ⟨congrArg AV.bool (by unfold nk;rw[hL,yF (fun h=>d2 h.2)];rfl),rfl⟩
    ·refine aF 30 false rfl (yF om) ?_;refine gO ?_;exact af rfl ⟨congrArg AV.bool (by unfold nk;rw[hL,yF (fun h=>d1 h.1)];rfl),rfl⟩
theorem zu{K:FuncId}{A:AW}{s:Str}(hs:s.length<9223372036854775807): aD (ES K) 94 [.str s] A fun r A1=>r=.bool (decide (rI s))∧A1=A:=by
 refine ap rfl rfl rfl ?_;refine gO ?_;refine aE ?_;refine yL (pv 0 (.str s) (pn 3 0 .nil)) ?_;refine aV (ι:=Nat) (fun i=>s.length-i) (fun i=>pv 0 (.str s) (pn 3 i .nil)) (fun i A2=>A2=A∧i≤s.length∧∀(j:Nat) (c:Nat),j<i→s[j]?=some c→nk c (decide (j=0))=true) ?_ 0 A ⟨rfl,Nat.zero_le _,fun j c h=>om⟩;rintro i A2 ⟨rfl,hi,hp⟩ ih;refine wD (fun hlt=>?_) fun hge=>?_
 ·have hlt:i<s.length:=Int.ofNat_lt.1 hlt;obtain⟨c,hc⟩:∃c,s[i]?=some c:=⟨s[i],gE hlt⟩;refine gO ?_;refine cn i rfl rfl rfl rfl rfl rfl (by rw[fB];exact hc) ?_;refine wC jf ?_;rintro r A3 ⟨rfl,e3⟩;subst e3;have ed:decide ((i:Int)=0)=decide (i=0):=decide_eq_decide.2 om;refine gO ?_;refine fh rfl (fun hb=>?_) fun hb=>?_
  ·have hb:nk c (decide ((i:Int)=0))=false:=by
    have hb:(!nk c (decide ((i:Int)=0)))=true:=hb;cases hx:nk c (decide ((i:Int)=0))
    ·rfl
    ·rw[hx] at hb;cases hb
   refine gO ?_;refine af rfl ⟨congrArg AV.bool (yF fun h=>?_).symm,rfl⟩;rw[ed] at hb;have h4:=h.2.2.2 c (mG hc);have h3:=h.2.2.1;by_cases i0:i=0
   ·subst i0;have e:s.getD 0 0=c:=by rw[List.getD_eq_getElem?_getD,hc];rfl
    rw[e] at h3;unfold nk at hb;rw[h3] at hb;cases hb
   ·unfold nk at hb;unfold mh at h4;rw[yF i0,Bool.not_false,Bool.and_true,h4] at hb;cases hb
  ·have hb:nk c (decide ((i:Int)=0))=true:=by
    have hb:(!nk c (decide ((i:Int)=0)))=false:=hb;cases hx:nk c (decide ((i:Int)=0))
    ·rw[hx] at hb;cases hb
    ·rfl
   rw[ed] at hb;refine wP ?_;refine ai ?_;refine yL (pv 0 (.str s) (pn 3 (i+1:Nat) .nil)) ?_;refine ih (i+1) _ om ⟨rfl,hlt,fun j d hj hd=>?_⟩;by_cases e:j=i
   ·subst e;rw[hc] at hd;cases hd;exact hb
   ·exact hp j d om hd
 ·refine ay rfl ?_;refine gO ?_;have hpart:∀c∈s,mh c=true:=fun c hc=>by
   obtain⟨j,hj⟩:=List.getElem?_of_mem hc;have hjl:=(List.getElem?_eq_some_iff.1 hj).1;have h:=hp j c om hj;unfold nk at h;unfold mh;cases hl:pg c
   ·rw[hl] at h;simp only[Bool.false_or,Bool.and_eq_true] at h;rw[h.1];rfl
   ·rfl
  by_cases c1:1≤s.length
  ·refine aF 20 true rfl (yT om) ?_;refine gO ?_;refine af rfl ⟨congrArg AV.bool (decide_eq_decide.2 ⟨fun h=>⟨fun e=>by rw[e] at c1;exact absurd c1 dE,om,?_,hpart⟩,fun h=>by have:=h.2.1;omega⟩),rfl⟩;obtain⟨c,hc⟩:∃c,s[0]?=some c:=⟨s[0],gE c1⟩;have h0:=hp 0 c om hc;have e:s.getD 0 0=c:=by rw[List.getD_eq_getElem?_getD,hc];rfl
   rw[e];unfold nk at h0;simpa using h0
  ·refine aF 20 false rfl (yF om) ?_;refine gO ?_;exact af rfl ⟨congrArg AV.bool (yF fun h=>h.1 (List.eq_nil_of_length_eq_zero om)).symm,rfl⟩
section
variable{E:Env}{C:bC}{all:List Oper}{bs order:List Nat}{seen:List Seen}{l:Kn}{A:AW}{K:Kn→AW→Prop}{i b:Nat}{o:Oper}
theorem wd_off(hi:nth all i=some o)(hb:nth bs i=some b)(ha:ib o.op=false)(hm:makes o.op=false)(hg:AL all l o=some false)
 (h:WO E C all [o] l A fun l1 A1=>A1=A∧WD E C all bs order seen l1 A K) : WD E C all bs (i::order) seen l A K:=⟨fun F hF=>by
 obtain⟨F1,A1,l1,hF1,⟨rfl,hk⟩,ho⟩:=h.run F hF;obtain⟨n1,ho⟩:=pe ho;obtain⟨F2,A2,l2,hF2,hk2,n2,hd⟩:=hk.run F1 hF1;refine⟨F2,A2,l2,hF2,hk2,n1+n2,fun n hn=>?_⟩;have hw:=tn hF hg;simp only[hH,hi,hb,ho n om,ha,cond_false,hm,Nat.beq_refl,cond_true,hw];exact hd n om⟩
end
end Go.Proofs.YtafamggbkobcfaaGreat.Ae
