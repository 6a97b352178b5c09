/- A part of the proof of the statement CheckTypes. -/
import Derived.Test.YtafamggbkobcfaaGreatAiOps5
namespace Go.AE
set_option linter.unusedVariables false
variable[bu]
section
variable{E:Env}{base:Nat}{μ:Mp}{A:AW}{w:World}
theorem qq(hE:dS E){kt:TypeId}{k:AV}{ck:Value}(h:mX E kt k=true)(hk:aQ μ k ck): ∃d,E.P.underlying kt=some d∧((d=.string∧∃l,k=.str l)∨(∃i,d=.int i)∧∃i n,k=.int i n):=by
 unfold mX at h;split at h
 ·rename_i d hd;have ht:=hE kt d hd;split at h
  ·rename_i l hdd;exact⟨_,ht.yy,.inl ⟨hdd,l,rfl⟩⟩
  ·rename_i i j n hdd;exact⟨_,ht.yy,.inr ⟨⟨i,hdd⟩,j,n,rfl⟩⟩
  ·cases h
 ·cases h
theorem fI{P:Program}{w:World}{kt:TypeId}{d:TypeDesc}{k:AV}{ck:Value}(hu:P.underlying kt=some d)(hk:aQ μ k ck)(hd:(d=.string∧∃l,k=.str l)∨(∃i,d=.int i)∧∃i n,k=.int i n)(b:Bool):
 (Instr.checkKey b 10000 kt ck).run P w=.ok () w:=by
 unfold Instr.checkKey;rcases hd with ⟨rfl,l,rfl⟩|⟨⟨i,rfl⟩,j,n,rfl⟩
 ·cases hk;rw[Sem.run_bind,run_underlying hu];rfl
 ·cases hk;rw[Sem.run_bind,run_underlying hu];rfl
theorem lW{d:TypeDesc}{k x:AV}{ck cx:Value}{b:Bool}(hk:aQ μ k ck)(hx:aQ μ x cx)(hd:(d=.string∧∃l,k=.str l)∨(∃i,d=.int i)∧∃i n,k=.int i n)(h:ox k x=some b):
 Instr.sameNow d ck cx=some b:=by
 rcases hd with ⟨rfl,l,rfl⟩|⟨⟨i,rfl⟩,j,n,rfl⟩
 ·cases hk;cases x<;>simp only[ox,Option.some.injEq,reduceCtorEq] at h;cases hx;rw[st] at h;subst h;rename_i s r;simp only[Instr.sameNow,Option.some.injEq];rw[beq_toListBytes,ByteArray.toList_eq,ByteArray.toList_eq]
 ·cases hk;cases x<;>simp only[ox,reduceCtorEq] at h;cases hx;rw[bt] at h;rename_i j' n';by_cases hj:j=j'
  ·subst hj;simp only[decide_true,cond_true,Option.some.injEq] at h;rw[nL] at h;subst h;simp only[Instr.sameNow,if_true,Option.some.injEq];rfl
  ·simp [hj] at h
def yJ(μ:Mp)(es:List (AV×AV))(ents:List MapEntry): Prop:=es.length=ents.length∧∀(i:Nat) k v,es[i]?=some (k,v)→∃e,ents[i]?=some e∧aQ μ k e.key∧aQ μ v e.val
theorem yJ.inv{μ:Mp}{k v:AV}{es:List (AV×AV)}{ents:List MapEntry}(h:yJ μ ((k,v)::es) ents): ∃e r,ents=e::r∧aQ μ k e.key∧aQ μ v e.val∧yJ μ es r:=by
 cases ents with
 | nil=>have:=h.1;simp at this
 | cons e r=>
  obtain⟨e',a,b,c⟩:=h.2 0 k v rfl;cases a;exact⟨e,r,rfl,b,c,by have:=h.1;simpa using this,fun i k v hv=>by have:=h.2 (i+1) k v (by simpa using hv);simpa using this⟩
theorem na{d:TypeDesc}{k:AV}{ck:Value}(hk:aQ μ k ck)(hd:(d=.string∧∃l,k=.str l)∨(∃i,d=.int i)∧∃i n,k=.int i n): ∀(es:List (AV×AV)) (ents:List MapEntry) (i:Nat) (r:Option (Nat×AV)),
 dX k es i=some r→yJ μ es ents→∃r',Instr.findNow d ck ents i=some r'∧(match r,r' with
  | none,none=>True
  | some (j,v),some (j',v')=>j=j'∧aQ μ v v'∧i≤j∧j<i+es.length
  | _,_=>False)
 | [],ents,i,r,h,he=>by
  simp only[dX,Option.some.injEq] at h;subst h;have:ents=[]:=List.eq_nil_of_length_eq_zero he.1.symm;subst this;exact⟨none,rfl,trivial⟩
 | (x,v)::es,ents,i,r,h,he=>by
  obtain⟨e,q,rfl,h1,h2,h3⟩:=he.inv;simp only[dX] at h;split at h
  ·rename_i hb;cases h;refine⟨some (i,e.val),?_,rfl,h2,Nat.le_refl _,by simp⟩;simp only[Instr.findNow,lW hk h1 hd hb]
  ·rename_i hb;obtain⟨r',a,b⟩:=na hk hd es q (Nat.succ i) r h h3;refine⟨r',?_,?_⟩
   ·simp only[Instr.findNow,lW hk h1 hd hb];exact a
   ·cases r with
    | none=>cases r'<;>exact b
    | some p=>
     cases r' with
     | none=>exact b
     | some q=>
      obtain⟨b1,b2,b3,b4⟩:=b;exact⟨b1,b2,by omega,by simp;omega⟩
  ·cases h
theorem jY{P:Program}{w:World}{kt:TypeId}{d:TypeDesc}{k:AV}{ck:Value}(hu:P.underlying kt=some d)(hk:aQ μ k ck)(hd:(d=.string∧∃l,k=.str l)∨(∃i,d=.int i)∧∃i n,k=.int i n)
 {es:List (AV×AV)} {ents:List MapEntry} {r:Option (Nat×AV)} (h:dX k es 0=some r) (he:yJ μ es ents) : ∃r',(Instr.findKey kt ck ents).run P w=.ok r' w∧(match r,r' with
  | none,none=>True
  | some (j,v),some (j',v')=>j=j'∧aQ μ v v'∧j<es.length
  | _,_=>False):=by
 obtain⟨r',a,b⟩:=na hk hd es ents 0 r h he;refine⟨r',?_,?_⟩
 ·unfold Instr.findKey;rw[Sem.run_bind,run_underlying hu];simp only[Result.andThen_ok,a];rfl
 ·cases r<;>cases r'<;>first|exact b|(obtain⟨b1,b2,_,b4⟩:=b;exact⟨b1,b2,by simpa using b4⟩)
theorem vM(hE:dS E)(h:Rel base μ A w){t:TypeId}{m k v:AV}{ok:Bool}{A':AW}{cm ck:Value}(hl:iw E t m k ok A=.val v A')(hm:aQ μ m cm)(hk:aQ μ k ck):
 bw E base μ A w (Instr.lookup t cm ck ok) v A':=by
 unfold iw at hl;split at hl
 ·rename_i d hd;have ht:=(hE t d hd).cX w;split at hl
  ·rename_i kt vt hdd;cases hko:mX E kt k<;>rw[hko] at hl<;>simp only[cond_true,cond_false,reduceCtorEq] at hl;obtain⟨dk,hu,hdk⟩:=qq hE hko hk;split at hl
   ·rename_i es hes
    have hent:∃ents:Array MapEntry,yJ μ es ents.toList∧∀K:Array MapEntry→Sem Value,(do
     let es ←match cm with
      | .map none=>pure #[]
      | .map (some r)=>do
       let .map es _ ←getObj r|stuck "Lookup: map expected"
       pure es
      | _=>stuck "Lookup: map expected"
     K es:Sem Value).run E.P w=(K ents).run E.P w:=by
     split at hes
     ·cases hes;cases hm;exact⟨#[],⟨rfl,by simp⟩,fun K=>rfl⟩
     ·rename_i f;split at hes
      ·rename_i es' hF;cases hes;cases hm with
       | map hp=>
        rename_i p;obtain⟨ents,clock,a1,a2,a3⟩:=h.yC f _ p hF hp;refine⟨ents,⟨by simpa using a2,a3⟩,fun K=>?_⟩;have hg:(getObj p.c).run E.P w=.ok (.map ents clock) w:=by simp [getObj,Sem.run,a1]
        simp only[Sem.run_bind,hg,Result.andThen_ok];rfl
      ·cases hes
     ·cases hes
    obtain⟨ents,he,hrun⟩:=hent;have fin:∀cv,((do
     Instr.checkKey ents.isEmpty 10000 kt ck
     let (v,ok') ←match ←Instr.findKey kt ck ents.toList with
      | some (_,v)=>pure (v,true)
      | none=>pure (←zeroValue vt,false)
     pure (if ok then .tuple #[v,.bool ok'] else v) : Sem Value)).run E.P w=.ok cv w→(Instr.lookup t cm ck ok).run E.P w=.ok cv w:=by
     intro cv hcv;unfold Instr.lookup;rw[Sem.run_bind,ht,hdd];simp only[Result.andThen_ok];refine Eq.trans ?_ hcv;exact hrun _
    split at hl
    ·rename_i j v0 hf;cases hl;obtain⟨r',a,b⟩:=jY (P:=E.P) (w:=w) hu hk hdk hf he;cases r' with
     | none=>exact b.elim
     | some q=>
      obtain⟨b1,b2,b3⟩:=b;cases ok with
      | true=>
       refine bw.same h (fin _ ?_) (by simp only[cond_true];exact ga (bK.cons b2 (bK.cons (.bool true) (bK.nil μ))));simp only[Sem.run_bind,fI hu hk hdk,Result.andThen_ok,a,Sem.run_pure,if_true]
      | false=>
       refine bw.same h (fin _ ?_) b2;simp only[Sem.run_bind,fI hu hk hdk,Result.andThen_ok,a,Sem.run_pure,Bool.false_eq_true,if_false]
    ·rename_i hf;obtain⟨r',a,b⟩:=jY (P:=E.P) (w:=w) hu hk hdk hf he;cases r' with
     | some q=>exact b.elim
     | none=>
      split at hl
      ·rename_i dv hdv;split at hl
       ·rename_i z hz;cases hl;obtain⟨zv,z1,z2,z3,z4,hzv⟩:=(hE vt dv hdv).iF w hz μ;cases ok with
        | true=>
         refine bw.same h (fin _ ?_) (by simp only[cond_true];exact ga (bK.cons hzv (bK.cons (.bool false) (bK.nil μ))));simp only[Sem.run_bind,fI hu hk hdk,Result.andThen_ok,a,z1,Sem.run_pure,if_true]
        | false=>
         refine bw.same h (fin _ ?_) hzv;simp only[Sem.run_bind,fI hu hk hdk,Result.andThen_ok,a,z1,Sem.run_pure,Bool.false_eq_true,if_false]
       ·cases hl
      ·cases hl
    ·cases hl
   ·cases hl
  ·cases hl
 ·cases hl
theorem ux(h:Rel base μ A w)(t:TypeId): bw E base μ A w (Instr.makeMap t none) (.map A.aa) ⟨A.heap.set A.aa (.map []),Nat.succ A.aa⟩:=by
 have hst:=Step.new (w1:=w.alloc (.map #[] 0)) h (.map []) ⟨w.heap.size,0,0,0,0⟩ ⟨rfl,rfl,rfl⟩ rfl (jv w _) (fun b hb=>ks w _ b hb) rfl ⟨#[],0,kA w _,rfl,by simp⟩;exact⟨.map (some w.heap.size),_,_,rfl,aQ.map (p:=⟨w.heap.size,0,0,0,0⟩) (Mp.eC _ _ _ _),hst⟩
omit [bu] in
theorem sF(k v:AV): ∀(i:Nat) (es:List (AV×AV)) (j:Nat),(iO i k v es)[j]?=if j=i∧i<es.length then some (k,v) else es[j]?
 | i,[],j=>by simp [iO]
 | 0,e::es,j=>by cases j<;>simp [iO]
 | i+1,e::es,j=>by
  cases j with
  | zero=>simp [iO]
  | succ j=>simp only[iO,List.getElem?_cons_succ,sF k v i es j,List.length_cons];congr 1;simp
omit [bu] in
theorem sG(k v:AV): ∀(i:Nat) (es:List (AV×AV)),(iO i k v es).length=es.length
 | i,[]=>by cases i<;>rfl
 | 0,e::es=>rfl
 | i+1,e::es=>by simp [iO,sG k v i es]
omit [bu] in
theorem nc{k:AV}:∀(es:List (AV×AV)) (i j:Nat) (v:AV),dX k es i=some (some (j,v))→i≤j∧∃x,es[j-i]?=some (x,v)∧ox k x=some true
 | [],i,j,v,h=>by simp [dX] at h
 | (x,y)::es,i,j,v,h=>by
  simp only[dX] at h;split at h
  ·rename_i hb;cases h;exact⟨Nat.le_refl _,x,by simp,hb⟩
  ·obtain⟨a,x',b,c⟩:=nc es (Nat.succ i) j v h;have e:j-i=(j-Nat.succ i)+1:=by omega
   exact⟨by omega,x',by rw[e];simpa using b,c⟩
  ·cases h
omit [bu] in
theorem vN{d:TypeDesc}{a b:Value}(h:Instr.sameNow d a b=some true): Instr.sameBits 10000 b a=true:=by
 unfold Instr.sameNow at h;split at h
 ·rename_i k x k' y;split at h
  ·rename_i hk;subst hk;simp only[Option.some.injEq,beq_iff_eq] at h;subst h;simp [Instr.sameBits]
  ·cases h
 ·simp only[Option.some.injEq] at h;simp only[Instr.sameBits];rw[beq_toListBytes] at h ⊢;simp only[beq_iff_eq] at h ⊢;exact h.symm
 ·simp only[Option.some.injEq,beq_iff_eq] at h;subst h;simp [Instr.sameBits]
 ·cases h
theorem lw(hE:dS E)(h:Rel base μ A w){t:TypeId}{m k x v:AV}{A':AW}{cm ck cx:Value}(hl:dq E t m k x A=.val v A')(hm:aQ μ m cm)(hk:aQ μ k ck)(hx:aQ μ x cx):
 v=.undef∧∃w' μ',(Instr.mapUpdate t cm ck cx).run E.P w=.ok () w'∧Step base μ A w μ' A' w':=by
 unfold dq at hl;split at hl
 ·rename_i d hd;have ht:=(hE t d hd).cX w;split at hl
  ·rename_i kt vt hdd;cases hko:mX E kt k<;>rw[hko] at hl<;>simp only[cond_true,cond_false,reduceCtorEq] at hl;obtain⟨dk,hu,hdk⟩:=qq hE hko hk;split at hl
   ·rename_i f;cases hm with
    | map hp=>
     rename_i p;split at hl
     ·rename_i es hF;obtain⟨ents,clock,a1,a2,a3⟩:=h.yC f _ p hF hp;have hg:(getObj p.c).run E.P w=.ok (.map ents clock) w:=by simp [getObj,Sem.run,a1]
      have he:yJ μ es ents.toList:=⟨by simpa using a2,a3⟩;have hset:∀o:Obj,o.isChan=false→(∀c e z,o≠.cells c e z)→(setObj p.c o).run E.P w=.ok () { w with heap:=w.heap.setIfInBounds p.c o }:=fun o _ _=>by simp [setObj,Sem.run,a1]
      have hlt:=(h.rd f 0 p hp).1;have hwrite:∀(es':List (AV×AV)) (ents':Array MapEntry) (clock':Nat),es'.length=ents'.size→(∀(i:Nat) k v,es'[i]?=some (k,v)→∃e,ents'.toList[i]?=some e∧aQ μ k e.key∧aQ μ v e.val)→
       Step base μ A w (μ.put f 0 p) ⟨A.heap.set f (.map es'),A.aa⟩ { w with heap:=w.heap.setIfInBounds p.c (.map ents' clock') }:=by
       intro es' ents' clock' q1 q2;refine Step.write (F':=.map es') (w1:={ w with heap:=w.heap.setIfInBounds p.c (.map ents' clock') }) h hF rfl hp rfl (.inl rfl) ⟨rfl,rfl,rfl⟩ (by simp) (fun b hb=>?_) ⟨ents',clock',?_,q1,q2⟩
       ·show (w.heap.setIfInBounds p.c _)[b]?=_;rw[Array.getElem?_setIfInBounds_ne (Ne.symm hb)]
       ·show (w.heap.setIfInBounds p.c _)[p.c]?=_;rw[Array.getElem?_setIfInBounds_self_of_lt hlt]
      split at hl
      ·rename_i j v0 hf;cases hl;obtain⟨r',a,b⟩:=jY (P:=E.P) (w:=w) hu hk hdk hf he;cases r' with
       | none=>exact b.elim
       | some q=>
        obtain⟨j',v'⟩:=q;obtain⟨b1,b2,b3⟩:=b;subst b1;refine⟨rfl,?_⟩;have hjlt:j<ents.size:=by rw[←a2];exact b3
        have hstays:(Instr.keyThatStays (((ents[j]?).map (·.key)).getD ck) ck).run E.P w=.ok ck w:=by
         obtain⟨_,x',g1,g2⟩:=nc es 0 j v0 hf;obtain⟨e,e1,e2,_⟩:=a3 j x' v0 (by simpa using g1);have e1':ents[j]?=some e:=by simpa using e1
         have hb:=vN (lW hk e2 hdk g2);rw[e1'];simp only[Option.map_some,Option.getD_some];unfold Instr.keyThatStays;rw[hb];rfl
        refine⟨_,_,?_,hwrite (iO j k x es) (ents.modify j fun e=>{ e with key:=ck,val:=cx }) clock (by simp [sG,a2]) ?_⟩
        ·unfold Instr.mapUpdate;simp only[Sem.run_bind,ht,hdd,Result.andThen_ok,hg,fI hu hk hdk,a,hstays];exact hset _ rfl (by simp)
        ·intro i k' v2 hi;rw[sF] at hi;by_cases hij:i=j∧j<es.length
         ·rw[if_pos hij] at hi;obtain⟨rfl,_⟩:=hij;cases hi;refine⟨{ ents[i] with key:=ck,val:=cx },?_,hk,hx⟩;simp [hjlt]
         ·rw[if_neg hij] at hi;obtain⟨e,e1,e2⟩:=a3 i k' v2 hi;have hne:¬j=i:=fun e=>hij ⟨e.symm,by rw[a2];exact hjlt⟩;refine⟨e,?_,e2⟩;simp only[Array.getElem?_toList] at e1 ⊢;rw[Array.getElem?_modify,if_neg hne];exact e1
      ·rename_i hf;cases hl;obtain⟨r',a,b⟩:=jY (P:=E.P) (w:=w) hu hk hdk hf he;cases r' with
       | some q=>exact b.elim
       | none=>
        refine⟨rfl,_,_,?_,hwrite (es++[(k,x)]) (ents.push { key:=ck,val:=cx,born:=clock }) (clock+1) (by simp [a2]) ?_⟩
        ·unfold Instr.mapUpdate;simp only[Sem.run_bind,ht,hdd,Result.andThen_ok,hg,fI hu hk hdk,a];exact hset _ rfl (by simp)
        ·intro i k' v2 hi;by_cases hlt2:i<es.length
         ·rw[List.getElem?_append_left hlt2] at hi;obtain⟨e,e1,e2⟩:=a3 i k' v2 hi;refine⟨e,?_,e2⟩;simp only[Array.toList_push];rw[List.getElem?_append_left (by simp;omega)];exact e1
         ·rw[List.getElem?_append_right (by omega)] at hi;have h0:i-es.length=0:=by
           rcases Nat.eq_zero_or_pos (i-es.length) with h|h
           ·exact h
           ·rw[List.getElem?_eq_none (by simp;omega)] at hi;cases hi
          rw[h0] at hi;cases hi;refine⟨{ key:=ck,val:=cx,born:=clock },?_,hk,hx⟩;simp only[Array.toList_push];rw[List.getElem?_append_right (by simp;omega)];have:i-ents.toList.length=0:=by simp;omega
          rw[this];rfl
      ·cases hl
     ·cases hl
   ·cases hl
  ·cases hl
 ·cases hl
end
end Go.AE
namespace Go.AE
set_option linter.unusedVariables false
variable[bu]
structure dD (E:Env) : Prop where
 ty:dS E
 fn:∀f e,E.fns.get f=some e→E.P.funcs[f]?=some e.fn∧e.N=e.fn.ntmps∧e.fn.name≠ "runtime.NumGoroutine"
 code:∀f e c,E.fns.get f=some e→e.fn.body=some c→codeOk e.rW c=true
 mixed:E.P.follows .mixedOrders=true
 ext1:∀f e,E.fns.get f=some e→e.fn.body=none→(e.fn.name == "math.Float64bits")=true→∀b w,(callFunc f #[.float .f64 b]).run E.P w=.ok (.value (.int .u64 b)) w
 ext2:∀f e,E.fns.get f=some e→e.fn.body=none→(e.fn.name == "math.Float64frombits")=true→∀(n:Nat) w,(callFunc f #[.int .u64 n]).run E.P w=.ok (.value (.float .f64 n)) w
 uo:∀f args v l,E.uo f args=some (v,l)→(∃e c,E.fns.get f=some e∧e.fn.body=some c)∧∀base μ A w (cargs:Array Value),Rel base μ A w→bK μ args cargs.toList→
  Calls E.P f cargs w fun e w'=>∃cv μ',e=.returned cv∧aQ μ' (vC A.aa v) cv∧Step base μ A w μ' (oD A.aa l A) w'
section
variable{E:Env}{base:Nat}{μ:Mp}{A:AW}{w:World}
omit [bu] in
theorem pC{P:Program}{w w':World}{s:Sem Value}{cv:Value}(h:s.run P w=.ok cv w'): ((do pure (Next.value (←s)) : Sem Next)).run P w=.ok (.value cv) w':=by
 rw[Sem.run_bind,h];rfl
omit [bu] in
theorem CM{P:Program}{w w':World}{s:Sem Unit}(h:s.run P w=.ok () w'): ((do s;pure Next.skip:Sem Next)).run P w=.ok .skip w':=by
 rw[Sem.run_bind,h];rfl
omit [bu] in
theorem iH{o:Oper}{a:Act}{K:Act→World→Prop}{Q:Exit→Act→World→Prop}{w w':World}{P:Program}{cv:Value}(h:(execOp a.eval o).run P w=.ok (.value cv) w')(hK:K (a.put o.dst cv) w'): o.wp P a w K Q:=by
 unfold Oper.wp;rw[h];exact hK
omit [bu] in
theorem CN{o:Oper}{a:Act}{K:Act→World→Prop}{Q:Exit→Act→World→Prop}{w w':World}{P:Program}(h:(execOp a.eval o).run P w=.ok .skip w')(hK:K (a.put o.dst undef) w'): o.wp P a w K Q:=by
 unfold Oper.wp;rw[h];exact hK
omit [bu] in
theorem xt{o:Oper}{a:Act}{K:Act→World→Prop}{Q:Exit→Act→World→Prop}{w:World}{P:Program}{f:FuncId}{args:Array Value}(h:(execOp a.eval o).run P w=.ok (.enter f args) w)
 (hK:Calls P f args w fun e w'=>∃cv,e=.returned cv∧K (a.put o.dst cv) w') : o.wp P a w K Q:=by
 unfold Oper.wp;rw[h];exact hK.mono fun e w' ⟨cv,he,hk⟩=>by subst he;exact hk
theorem yK{x y z:AV}{cx cy:Value}(h:min2 x y=some z)(hx:aQ μ x cx)(hy:aQ μ y cy)(w:World): ∃cz,(Builtin.min2 cx cy).run E.P w=.ok cz w∧aQ μ z cz:=by
 unfold min2 at h;split at h
 ·cases hx;cases hy;cases h;rw[iQ];refine⟨_,rfl,?_⟩;rename_i k a k' b;by_cases hb:b<a<;>simp [hb]<;>exact .int _ _
 ·cases h
theorem yM{x y z:AV}{cx cy:Value}(h:max2 x y=some z)(hx:aQ μ x cx)(hy:aQ μ y cy)(w:World): ∃cz,(Builtin.max2 cx cy).run E.P w=.ok cz w∧aQ μ z cz:=by
 unfold max2 at h;split at h
 ·cases hx;cases hy;cases h;rw[iQ];refine⟨_,rfl,?_⟩;rename_i k a k' b;by_cases hb:a<b<;>simp [hb]<;>exact .int _ _
 ·cases h
theorem nR{g:AV→AV→Option AV}{cg:Value→Value→Sem Value}(hg:∀x y z cx cy,g x y=some z→aQ μ x cx→aQ μ y cy→∃cz,(cg cx cy).run E.P w=.ok cz w∧aQ μ z cz):
 ∀(l:List AV) (cl:List Value) (x z:AV) (cx:Value),qe g x l=some z→aQ μ x cx→bK μ l cl→∃cz,(cl.foldlM cg cx).run E.P w=.ok cz w∧aQ μ z cz
 | [],cl,x,z,cx,h,hx,hl=>by
  simp only[qe,Option.some.injEq] at h;subst h;have:=hl.fH;subst this;exact⟨cx,rfl,hx⟩
 | y::l,cl,x,z,cx,h,hx,hl=>by
  obtain⟨cy,cl,rfl,h1,h2⟩:=hl.inv;simp only[qe] at h;split at h
  ·rename_i t ht;obtain⟨ct,a,b⟩:=hg x y t cx cy ht hx h1;obtain⟨cz,c,d⟩:=nR hg l cl t z ct h b h2;exact⟨cz,by rw[List.foldlM_cons,Sem.run_bind,a];exact c,d⟩
  ·cases h
theorem uy(hE:dD E)(h:Rel base μ A w){b:Builtin}{ts:Array TypeId}{args:List AV}{cargs:Array Value}{ty:TypeId}{cs:Array Bool}{v:AV}{A':AW}(hl:aH E b ts.toList args A=.val v A')(ha:bK μ args cargs.toList):
 ∃s:Sem Value,Go.builtin b ts ty cs cargs=(do pure (.value (←s)))∧bw E base μ A w s v A':=by
 unfold aH at hl;split at hl
 ·split at hl
  ·rename_i t tl x l hts;obtain⟨cx,cl,e2,r1,r2⟩:=ha.inv;exact⟨_,rfl,BC hE.ty h hl r1 ts ty cargs (by rw[←Array.getElem?_toList,hts];rfl) (by rw[←Array.getElem?_toList,e2];rfl)⟩
  ·cases hl
 ·split at hl
  ·rename_i t t' s x hts;split at hl
   ·rename_i d hd;have e1:ts=#[t,t']:=Array.ext' (by rw[hts]);subst e1;obtain⟨cs',cl,e2,r1,r2⟩:=ha.inv;obtain⟨cx,cl',e3,r3,r4⟩:=r2.inv;have e4:=r4.fH;subst e4;subst e3;have e5:cargs=#[cs',cx]:=Array.ext' e2;subst e5;split at hl
    ·rename_i e hdd;exact⟨_,rfl,oO hE.ty h hl hd (.inl ⟨e,hdd⟩) r1 r3⟩
    ·rename_i hdd;exact⟨_,rfl,oO hE.ty h hl hd (.inr hdd) r1 r3⟩
    ·cases hl
   ·cases hl
  ·cases hl
 ·split at hl
  ·rename_i k a k' b';obtain⟨c1,cl,e2,r1,r2⟩:=ha.inv;obtain⟨c2,cl',e3,r3,r4⟩:=r2.inv;have e4:=r4.fH;subst e4;subst e3;have e5:cargs=#[c1,c2]:=Array.ext' e2;subst e5;cases r1;cases r3;by_cases hk:k=k'
   ·subst hk;simp only[decide_true,cond_true] at hl;cases hl;refine⟨_,rfl,bw.same h (cv:=.complex k a b') ?_ (.dh _ _ _)⟩;have e6:Builtin.complex_ ts ty #[.float k a,.float k b']=if k=k then pure (.complex k a b') else stuck "complex: parts of different kinds":=rfl
    rw[e6,if_pos rfl];rfl
   ·simp [hk] at hl
  ·cases hl
 ·split at hl
  ·obtain⟨c1,cl,e2,r1,r2⟩:=ha.inv;have e4:=r2.fH;subst e4;have e5:cargs=#[c1]:=Array.ext' e2;subst e5;cases r1;cases hl;exact⟨_,rfl,bw.same h rfl (.float _ _)⟩
  ·cases hl
 ·split at hl
  ·obtain⟨c1,cl,e2,r1,r2⟩:=ha.inv;have e4:=r2.fH;subst e4;have e5:cargs=#[c1]:=Array.ext' e2;subst e5;cases r1;cases hl;exact⟨_,rfl,bw.same h rfl (.float _ _)⟩
  ·cases hl
 ·split at hl
  ·rename_i x l;split at hl
   ·rename_i z hz;cases hl;obtain⟨c1,cl,e2,r1,r2⟩:=ha.inv;obtain⟨cz,a,b⟩:=nR (cg:=Builtin.min2) (fun x y z cx cy h1 h2 h3=>yK (E:=E) h1 h2 h3 w) l cl x _ c1 hz r1 r2;refine⟨_,rfl,bw.same h (cv:=cz) ?_ b⟩;unfold Builtin.min_;rw[e2];exact a
   ·cases hl
  ·cases hl
 ·split at hl
  ·rename_i x l;split at hl
   ·rename_i z hz;cases hl;obtain⟨c1,cl,e2,r1,r2⟩:=ha.inv;obtain⟨cz,a,b⟩:=nR (cg:=Builtin.max2) (fun x y z cx cy h1 h2 h3=>yM (E:=E) h1 h2 h3 w) l cl x _ c1 hz r1 r2;refine⟨_,rfl,bw.same h (cv:=cz) ?_ b⟩;unfold Builtin.max_;rw[e2];exact a
   ·cases hl
  ·cases hl
 ·cases hl
theorem sH{F:Fr}{ρ:Operand→Value}(hρ:∀x,aQ μ (ev F x) (ρ x))(x:Option Operand): uv μ (vD F x) (x.map ρ):=by
 cases x with
 | none=>trivial
 | some x=>exact hρ x
omit [bu] in
theorem xu{P:Program}{w:World}{f:FuncId}{fn:Func}(hf:P.funcs[f]?=some fn)(hn:fn.name≠ "runtime.NumGoroutine")(hb:∃c,fn.body=some c)(args:Array Value): (callFunc f args).run P w=.ok (.enter f args) w:=by
 obtain⟨c,hc⟩:=hb;unfold callFunc;rw[Sem.run_bind,run_program];simp only[Result.andThen_ok,hf];have:(fn.name == "runtime.NumGoroutine")=false:=by simpa using hn
 simp [this,hc]
omit [bu] in
theorem jn{r:iY}{v:AV}{A:AW}(h:ao r=.val v A): r=.val v A:=by
 cases r<;>simp [ao] at h ⊢<;>exact h
omit [bu] in
theorem iI{r:iY}{f:FuncId}{args:List AV}(h:ao r=.enter f args): False:=by
 cases r<;>simp [ao] at h
theorem BF(hE:dD E)(h:Rel base μ A w){o:Oper}{a:Act}{f:FuncId}{args:List AV}{cargs:Array Value}{v:AV}{A':AW}(hl:gH E f args A=.val v A')(ha:bK μ args cargs.toList)
 (hx:(execOp a.eval o).run E.P w=(callFunc f cargs).run E.P w) {K:Act→World→Prop} {Q:Exit→Act→World→Prop} (hK:∀cv w' μ',aQ μ' v cv→Step base μ A w μ' A' w'→K (a.put o.dst cv) w') : o.wp E.P a w K Q:=by
 unfold gH at hl;split at hl
 ·rename_i v0 l horc;cases hl;obtain⟨⟨e,c,he,hc⟩,hcalls⟩:=hE.uo f args v0 l horc;obtain⟨f1,_,f3⟩:=hE.fn f e he;refine xt (hx.trans (xu f1 f3 ⟨c,hc⟩ cargs)) ((hcalls base μ A w cargs h ha).mono ?_);rintro e' w' ⟨cv,μ',rfl,h1,h2⟩;exact⟨cv,rfl,hK cv w' μ' h1 h2⟩
 ·split at hl
  ·rename_i e he;split at hl
   ·cases hl
   ·rename_i hb;replace hl:=jn hl;unfold Aw at hl;rw[he] at hl;simp only at hl;cases hn:(e.fn.name == "math.Float64bits")<;>rw[hn] at hl<;>simp only[cond_true,cond_false] at hl
    ·cases hn2:(e.fn.name == "math.Float64frombits")<;>rw[hn2] at hl<;>simp only[cond_true,cond_false,reduceCtorEq] at hl;split at hl
     ·cases hl;obtain⟨c1,cl,e2,r1,r2⟩:=ha.inv;have e4:=r2.fH;subst e4;have e5:cargs=#[c1]:=Array.ext' e2;subst e5;cases r1;exact iH (hx.trans (hE.ext2 f e he hb hn2 _ w)) (hK _ _ _ (.float _ _) (Step.refl h))
     ·cases hl
    ·split at hl
     ·cases hl;obtain⟨c1,cl,e2,r1,r2⟩:=ha.inv;have e4:=r2.fH;subst e4;have e5:cargs=#[c1]:=Array.ext' e2;subst e5;cases r1;exact iH (hx.trans (hE.ext1 f e he hb hn _ w)) (hK _ _ _ (.int _ _) (Step.refl h))
     ·cases hl
  ·cases hl
theorem vO(hE:dD E){f f':FuncId}{args args':List AV}(hl:gH E f args A=.enter f' args'): f'=f∧args'=args∧∃e c,E.fns.get f=some e∧e.fn.body=some c:=by
 unfold gH at hl;split at hl
 ·cases hl
 ·split at hl
  ·rename_i e he;split at hl
   ·rename_i c hc;cases hl;exact⟨rfl,rfl,e,c,he,hc⟩
   ·exact (iI hl).elim
  ·cases hl
omit [bu] in
theorem uK{o:Oper}{c:Call}{x:Operand}(ho:o.op=.call c)(hc:c.callee=.value x){ρ:Operand→Value}{f:FuncId}{fi ca:Array Value}(hρ:ρ x=.func (.func f) fi ca){P:Program}{w:World}:
 (execOp ρ o).run P w=(callFunc f (fi++c.args.map ρ++ca)).run P w:=by
 simp only[execOp,ho,resolve,hc,hρ,Deferred.ofValue];rfl
theorem uL{f:FuncId}{xs ys:List AV}{cv:Value}(h:aQ μ (.func f xs ys) cv): ∃us vs:Array Value,cv=.func (.func f) us vs∧bK μ xs us.toList∧bK μ ys vs.toList:=by
 cases h with
 | func _ l1 h1 l2 h2=>exact⟨_,_,rfl,⟨by simpa using l1,h1⟩,⟨by simpa using l2,h2⟩⟩
theorem CO(hE:dD E)(h:Rel base μ A w){o:Oper}{F:Fr}{v:AV}{A':AW}(hl:lQ E F o A=.val v A'){a:Act}(hF:∀x,aQ μ (ev F x) (a.eval x)){K:Act→World→Prop}{Q:Exit→Act→World→Prop}
 (hK:∀cv w' μ',aQ μ' v cv→Step base μ A w μ' A' w'→K (a.put o.dst cv) w') : o.wp E.P a w K Q:=by
 have ans:∀{s:Sem Value},execOp a.eval o=(do pure (.value (←s)))→bw E base μ A w s v A'→o.wp E.P a w K Q:=fun {s} he ⟨cv,w',μ',h1,h2,h3⟩=>
  iH (by rw[he];exact pC h1) (hK cv w' μ' h2 h3)
 have unit:∀{s:Sem Unit},execOp a.eval o=(do s;pure .skip)→(v=.undef∧∃w' μ',s.run E.P w=.ok () w'∧Step base μ A w μ' A' w')→o.wp E.P a w K Q:=fun {s} he ⟨hv,w',μ',h1,h3⟩=>
  CN (by rw[he];exact CM h1) (hK undef w' μ' (by rw[hv];exact .undef _) h3)
 have pureV:∀{cv:Value},execOp a.eval o=pure (.value cv)→A'=A→aQ μ v cv→o.wp E.P a w K Q:=fun {cv} he hA hv=>
  iH (by rw[he];rfl) (hK cv w μ hv (by rw[hA];exact Step.refl h))
 unfold lQ at hl;split at hl
 ·rename_i x ho;cases hl;exact pureV (by simp only[execOp,ho]) rfl (hF x)
 ·rename_i x ho;cases hl;exact pureV (by simp only[execOp,ho]) rfl (hF x)
 ·rename_i c x y ho;have hc:=hF c;split at hl
  ·rename_i heq;cases hl;rw[heq] at hc;have hcv:a.eval c=.bool true:=by generalize a.eval c=q at hc;cases hc;rfl
   exact iH (cv:=a.eval x) (by simp only[execOp,ho,hcv];rfl) (hK _ _ _ (hF x) (Step.refl h))
  ·rename_i heq;cases hl;rw[heq] at hc;have hcv:a.eval c=.bool false:=by generalize a.eval c=q at hc;cases hc;rfl
   exact iH (cv:=a.eval y) (by simp only[execOp,ho,hcv];rfl) (hK _ _ _ (hF y) (Step.refl h))
  ·cases hl
 ·rename_i t ho;split at hl
  ·rename_i d hd;split at hl
   ·rename_i z hz;cases hl;exact ans (by simp only[execOp,ho]) (xl hE.ty h hd hz)
   ·cases hl
  ·cases hl
 ·rename_i t x ho;split at hl
  ·rename_i d cs hd hc;cases hl;exact ans (by simp only[execOp,ho]) (BA (t:=t) hE.ty h (hF x) hc)
  ·cases hl
 ·rename_i t ps ho;exact ans (by simp only[execOp,ho]) (xm hE.ty h (qs:=ps.map fun (i,x)=>(i,a.eval x)) hl (by rw[Array.toList_map];exact kR hF ps.toList))
 ·rename_i t n ps ho;exact ans (by simp only[execOp,ho]) (pB hE.ty h (qs:=ps.map fun (i,x)=>(i,a.eval x)) hl (by rw[Array.toList_map];exact kR hF ps.toList))
 ·rename_i t x ho;obtain⟨rfl,cv,h1,h2⟩:=sn hE.ty h hl (hF x);exact ans (by simp only[execOp,ho]) (bw.same h h1 h2)
 ·rename_i t x y ho;exact unit (by simp only[execOp,ho]) (xa hE.ty h hl (hF x) (hF y))
 ·rename_i x ho;have hx:=hF x;split at hl
  ·rename_i f u n heq;cases hl;rw[heq] at hx;refine pureV (cv:=a.eval x) ?_ rfl hx;simp only[execOp,ho];generalize a.eval x=q at hx;cases hx;rfl
  ·rename_i f u n heq;cases hl;rw[heq] at hx;refine pureV (cv:=a.eval x) ?_ rfl hx;simp only[execOp,ho];generalize a.eval x=q at hx;cases hx;rfl
  ·cases hl
 ·rename_i op t x y z ho;exact ans (by simp only[execOp,ho]) (yI hE.ty h x y hl (hF x) (hF y))
 ·rename_i op t x ho;exact ans (by simp only[execOp,ho]) (Bz h hl (hF x))
 ·rename_i t u x ho;exact ans (by simp only[execOp,ho]) (uw hE.ty h hl (hF x))
 ·rename_i f xs ys ho;cases hl;refine ans (s:=Instr.makeFunc (.func f) (xs.map a.eval) (ys.map a.eval)) (by simp only[execOp,ho]) (bw.same h rfl ?_);obtain⟨l1,h1⟩:=mz hF xs.toList;obtain⟨l2,h2⟩:=mz hF ys.toList;exact .func f (by simpa using l1) (by simpa using h1) (by simpa using l2) (by simpa using h2)
 ·rename_i t ho;cases hl;exact ans (s:=Instr.makeMap t none) (by simp only[execOp,ho,Option.map_none]) (ux h t)
 ·rename_i t l c ho;exact ans (by simp only[execOp,ho]) (qI hE.ty h hl (hF l) (hF c))
 ·rename_i t x lo hi mx ho;exact ans (by simp only[execOp,ho]) (xp hE.ty h hl (hF x) (sH hF lo) (sH hF hi) (sH hF mx))
 ·rename_i t x i ho;exact ans (by simp only[execOp,ho]) (qJ hE.ty h hl (hF x))
 ·rename_i t x i ho;exact ans (by simp only[execOp,ho]) (xn hE.ty h hl (hF x))
 ·rename_i t x i ho;exact ans (by simp only[execOp,ho]) (qK hE.ty h hl (hF x) (hF i))
 ·rename_i t x i ho;exact ans (by simp only[execOp,ho]) (xo hE.ty h hl (hF x) (hF i))
 ·rename_i t x i ok ho;exact ans (by simp only[execOp,ho]) (vM hE.ty h hl (hF x) (hF i))
 ·rename_i t m k x ho;exact unit (by simp only[execOp,ho]) (lw hE.ty h hl (hF m) (hF k) (hF x))
 ·rename_i t m k x ho;exact unit (by simp only[execOp,ho]) (lw hE.ty h hl (hF m) (hF k) (hF x))
 ·rename_i x i ho;have hx:=hF x;split at hl
  ·rename_i vs heq;split at hl
   ·rename_i v0 hv;cases hl;rw[heq] at hx;obtain⟨us,hq,hr⟩:=sj hx;rw[fB] at hv;obtain⟨y,hy,hr2⟩:=hr.get hv;have hy':us[i]?=some y:=by simpa using hy
    refine ans (s:=Instr.extract (a.eval x) i) (by simp only[execOp,ho]) (bw.same h (cv:=y) ?_ hr2);rw[hq];simp only[Instr.extract,hy'];rfl
   ·cases hl
  ·cases hl
 ·cases hl
theorem AC(hE:dD E)(h:Rel base μ A w){o:Oper}{F:Fr}{v:AV}{A':AW}(hl:dr E F o A=.val v A'){a:Act}(hF:∀x,aQ μ (ev F x) (a.eval x)){K:Act→World→Prop}{Q:Exit→Act→World→Prop}
 (hK:∀cv w' μ',aQ μ' v cv→Step base μ A w μ' A' w'→K (a.put o.dst cv) w') : o.wp E.P a w K Q:=by
 unfold dr at hl;split at hl
 ·rename_i c ho;unfold sc at hl;split at hl
  ·rename_i b hc;have hargs:=mz hF c.args.toList;obtain⟨s,hs1,cv,w',μ',h1,h2,h3⟩:=uy (ty:=o.type) (cs:=c.args.map fun|.const _=>true|_=>false) (cargs:=c.args.map a.eval) hE h (jn hl) (by rw[Array.toList_map];exact hargs);refine iH (cv:=cv) (w':=w') ?_ (hK cv w' μ' h2 h3);have e:execOp a.eval o=Go.builtin b c.argTypes o.type (c.args.map fun|.const _=>true|_=>false) (c.args.map a.eval):=by
    simp only[execOp,ho,resolve,hc];rfl
   rw[e,hs1];exact pC h1
  ·rename_i x hc;have hx:=hF x;split at hl
   ·rename_i f fi ca heq;rw[heq] at hx;obtain⟨us,vs,hq,r1,r2⟩:=uL hx;have hargs:=mz hF c.args.toList;refine BF hE h hl (cargs:=us++c.args.map a.eval++vs) ?_ (uK ho hc hq) hK;simp only[Array.toList_append,Array.toList_map];exact (r1.append hargs).append r2
   ·cases hl
  ·cases hl
 ·exact CO hE h (jn hl) hF hK
theorem yN(hE:dD E){o:Oper}{F:Fr}{f:FuncId}{args:List AV}(hl:dr E F o A=.enter f args){a:Act}(hF:∀x,aQ μ (ev F x) (a.eval x)):
 ∃cargs:Array Value,bK μ args cargs.toList∧(execOp a.eval o).run E.P w=.ok (.enter f cargs) w:=by
 unfold dr at hl;split at hl
 ·rename_i c ho;unfold sc at hl;split at hl
  ·exact (iI hl).elim
  ·rename_i x hc;have hx:=hF x;split at hl
   ·rename_i g fi ca heq;rw[heq] at hx;obtain⟨us,vs,hq,r1,r2⟩:=uL hx;have hargs:=mz hF c.args.toList;obtain⟨rfl,rfl,e,c',he,hc'⟩:=vO hE hl;obtain⟨f1,_,f3⟩:=hE.fn _ e he;refine⟨us++c.args.map a.eval++vs,?_,(uK ho hc hq).trans (xu f1 f3 ⟨c',hc'⟩ _)⟩;simp only[Array.toList_append,Array.toList_map];exact (r1.append hargs).append r2
   ·cases hl
  ·cases hl
 ·exact (iI hl).elim
end
end Go.AE
