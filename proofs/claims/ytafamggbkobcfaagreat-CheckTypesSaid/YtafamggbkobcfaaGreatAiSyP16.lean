/- A part of the proof of the statement CheckTypes. -/
import Derived.Test.YtafamggbkobcfaaGreatAiSyP14
namespace Go.Proofs.YtafamggbkobcfaaGreat.Ae
open Go.AE
set_option linter.unusedVariables false
set_option maxRecDepth 100000
theorem zH{K:FuncId}{A:AW}{c:Nat}:aD (ES K) 35 [.int .u8 (c:Int)] A fun r A1=>(∃x,r=.bool x)∧A1=A:=by
 refine ap rfl rfl rfl ?_;refine gO ?_;by_cases c1:(c:Int)=32
 ·refine wT 5 c1 ?_;refine gO ?_;exact af rfl ⟨⟨_,rfl⟩,rfl⟩
 refine wF 5 c1 ?_;refine gO ?_;by_cases c2:(c:Int)=9
 ·refine wT 9 c2 ?_;refine gO ?_;exact af rfl ⟨⟨_,rfl⟩,rfl⟩
 refine wF 9 c2 ?_;refine gO ?_;by_cases c3:(c:Int)=10
 ·refine wT 13 c3 ?_;refine gO ?_;exact af rfl ⟨⟨_,rfl⟩,rfl⟩
 refine wF 13 c3 ?_;refine gO ?_;exact af rfl ⟨⟨_,rfl⟩,rfl⟩
theorem tO{K:FuncId}{A:AW}{c:Nat}:aD (ES K) 38 [.int .u8 (c:Int)] A fun r A1=>r=.bool (decide (48≤c∧c≤57))∧A1=A:=by
 refine ap rfl rfl rfl ?_;refine gO ?_;by_cases c1:(48:Int)≤(c:Int)
 ·refine wT 5 c1 ?_;refine gO ?_;exact af rfl ⟨congrArg AV.bool (decide_eq_decide.2 ⟨fun h=>⟨om,by have h:(c:Int)≤57:=h;omega⟩,fun h=>by show (c:Int)≤57;omega⟩),rfl⟩
 ·refine wF 5 c1 ?_;refine gO ?_;exact af rfl ⟨congrArg AV.bool (yF fun h=>om).symm,rfl⟩
def uY:List Str:=[[99,108,97,115,115],[101,120,116,101,110,100,115],[118,111,108,97,116,105,108,101],[105,110,116],[99,112,120],[105,110,116,115],[118,111,105,100],[105,102],[101,108,115,101],[119,104,105,108,101],[114,101,116,117,114,110],[116,104,114,111,119],[116,114,121],[99,97,116,99,104],[115,121,110,99],[119,97,105,116],[110,111,116,105,102,121],[110,111,116,105,102,121,97,108,108],[121,105,101,108,100],[106,111,105,110],[111,117,116],[110,117,108,108],[116,104,105,115],[110,101,119],[115,112,97,119,110],[97,115],[105,115],[]]
theorem wm{α β:Type}(f:α→β): ∀(l:List α) (i:Nat) (x:α),l[i]?=some x→nth (l.map f) i=some (f x)
 | [],i,x,h=>by cases h
 | a::l,0,x,h=>by
  simp only[List.getElem?_cons_zero,Option.some.injEq] at h;subst h;rfl
 | a::l,i+1,x,h=>wm f l i x (by simpa using h)
theorem Cd{K:FuncId}{A:AW}{s:Str}(hw:Wf A): aD (ES K) 37 [.str s] A fun r A1=>(∃x,r=.bool x∧(x=false→¬kwT s))∧ac A A1 ag:=by
 refine ap rfl rfl rfl ?_;refine gO ?_;refine zM (n:=1) (y:=uY.map AV.str) hw ?_;intro A1 o1 c1;generalize A.aa=f1 at c1;refine gO ?_;refine aE ?_;refine yL (pv 0 (.str s) (pp 3 f1 (pn 4 0 .nil))) ?_;refine aV (ι:=Nat) (fun i=>27-i) (fun i=>pv 0 (.str s) (pp 3 f1 (pn 4 i .nil))) (fun i B=>B=A1∧i≤27∧∀j,j<i→uY[j]?≠some s) ?_ 0 A1 ⟨rfl,Nat.zero_le _,fun j h=>absurd h (Nat.not_lt_zero _)⟩;rintro i B ⟨rfl,hi,hno⟩ ih;refine wD (fun hlt=>?_) fun hge=>?_
 ·have hlt:i<27:=by
   omega
  obtain⟨w,hwd⟩:∃w,uY[i]?=some w:=⟨uY[i]'(by show i<28;omega),gE _⟩;refine gO ?_;refine aY i rfl rfl rfl rfl rfl rfl rfl om ?_;refine aZ rfl rfl rfl rfl c1 (v:=.str w) ?_ ?_
  ·show nth (uY.map AV.str) (0+i*1)=_;rw[Nat.zero_add,Nat.mul_one];exact wm AV.str uY i w hwd
  refine wD (fun he=>?_) fun hne=>?_
  ·refine gO ?_;exact af rfl ⟨⟨true,rfl,fun h=>by cases h⟩,o1⟩
  ·have hne:¬w=s:=hne;refine wP ?_;refine ai ?_;refine yL (pv 0 (.str s) (pp 3 f1 (pn 4 (i+1:Nat) .nil))) ?_;refine ih (i+1) B om ⟨rfl,om,fun j hj=>?_⟩;by_cases e:j=i
   ·subst e;rw[hwd];exact fun h=>hne (by cases h;rfl)
   ·exact hno j om
 ·have hge:¬(i:Int)<27:=hge;have:i=27:=om;subst this;refine ay rfl ?_;refine gO ?_;refine af rfl ⟨⟨false,rfl,fun _ hk=>?_⟩,o1⟩;rcases hk with rfl|rfl|rfl|rfl
  ·exact hno 3 dE rfl
  ·exact hno 4 dE rfl
  ·exact hno 5 dE rfl
  ·exact hno 6 dE rfl
theorem AQ{E:Env}{A:AW}{t:TypeId}{d:bH}{s:Str}{lo hi:Nat}{k1 k2:IntKind}(ht:E.cf.get t=some d)(hs:d.desc=.string)(h1:lo≤hi)(h2:hi≤s.length):
 cQ E t (.str s) (some (.int k1 (lo:Int))) (some (.int k2 (hi:Int))) none A=.val (.str ((s.drop lo).take (hi-lo))) A:=by
 unfold cQ;rw[ht];simp only[hs,iC,ey,dY h2,dY h1];rw[cF,br _ _ (by rw[List.length_drop];show hi-lo≤_;omega)];rfl
theorem Dr{E:Env}{A:AW}{t:TypeId}{d:bH}{s:Str}{lo:Nat}{k1:IntKind}(ht:E.cf.get t=some d)(hs:d.desc=.string)(h1:lo≤s.length):
 cQ E t (.str s) (some (.int k1 (lo:Int))) none none A=.val (.str (s.drop lo)) A:=by
 unfold cQ;rw[ht];simp only[hs,iC,ey,show bound none s.length s.length=some s.length from rfl,dY h1];rw[cF,br _ _ (by rw[List.length_drop];show s.length-lo≤_;omega),List.take_of_length_le (by rw[List.length_drop];exact Nat.le_refl _)]
theorem wn{E:Env}{A:AW}{t:TypeId}{d:bH}{s:Str}{hi:Nat}{k2:IntKind}(ht:E.cf.get t=some d)(hs:d.desc=.string)(h2:hi≤s.length):
 cQ E t (.str s) none (some (.int k2 (hi:Int))) none A=.val (.str (s.take hi)) A:=by
 unfold cQ;rw[ht];simp only[hs,iC,ey,dY h2,show bound none hi 0=some 0 from rfl];have e:takeN (hi.sub 0) s=some (s.take hi):=br hi s h2;rw[show aB 0 s=s from rfl,e]
theorem small.take{s:Str}(h:small s)(n:Nat): small (s.take n):=fun b hb=>h b (List.mem_of_mem_take hb)
theorem small.drop{s:Str}(h:small s)(n:Nat): small (s.drop n):=fun b hb=>h b (List.mem_of_mem_drop hb)
theorem wo{s:Str}{i:Nat}(h:i<s.length): nth s i=some s[i]:=by
 have:=wm (fun x:Nat=>x) s i s[i] (gE h)
 rwa [List.map_id'] at this
theorem Ce{K:FuncId}{A:AW}{s:Str}(hs:small s)(h0:0<s.length)(hl:s.length<9000): aD (ES K) 40 [.str s] A fun r A1=>(∃x,r=.str x∧small x∧x.length≤s.length)∧A1=A:=by
 refine ap rfl rfl rfl ?_;refine sQ ?_;refine ik ?_;refine oP ?_;refine sQ ?_;refine ce (fun l1 B=>∃x,(Kn.put 0 (.str s) (.put 17 (.bool x) .nil)).le l1∧(x=true→2≤s.length)∧B=A) ?_ ?_
 ·intro k' hk';refine gO ?_;by_cases c1:(2:Int)≤(s.length:Int)
  ·refine wT 8 c1 ?_;refine gO ?_;refine bQ (Q:=fun r=>r=.str (s.take 2)) rfl rfl rfl rfl rfl ⟨_,wn (hi:=2) rfl rfl om,rfl⟩ ?_;rintro r rfl;refine gO ?_;by_cases c2:s.take 2=[61,61]
   ·refine wT 12 c2 ?_;refine gO ?_;exact hk' _ _ ⟨true,⟨rfl,rfl,trivial⟩,fun _=>om,rfl⟩
   ·refine wF 12 c2 ?_;refine gO ?_;refine bQ (Q:=fun r=>r=.str (s.take 2)) rfl rfl rfl rfl rfl ⟨_,wn (hi:=2) rfl rfl om,rfl⟩ ?_;rintro r rfl;refine gO ?_;exact hk' _ _ ⟨_,⟨rfl,rfl,trivial⟩,fun _=>om,rfl⟩
  ·refine wF 8 c1 ?_;refine gO ?_;exact hk' _ _ ⟨false,⟨rfl,rfl,trivial⟩,(fun h=>by cases h),rfl⟩
 rintro l1 B ⟨x,hle,hx,rfl⟩;refine bY _ ?_ hle;cases x with
 | true=>
  have h2:=hx rfl;refine rU ?_;refine bQ (Q:=fun r=>r=.str (s.take 2)) rfl rfl rfl rfl rfl ⟨_,wn (hi:=2) rfl rfl h2,rfl⟩ ?_;rintro r rfl;refine gO ?_;exact af rfl ⟨⟨_,rfl,hs.take 2,by rw[List.length_take];omega⟩,rfl⟩
 | false=>
  refine rU ?_;refine aE ?_;refine yL (pv 0 (.str s) (pv 3 (.str [123,125,40,41,91,93,59,44,46,61,60,43,45,42,47,37,126]) (pn 4 0 .nil))) ?_;refine aV (ι:=Nat) (fun i=>17-i) (fun i=>pv 0 (.str s) (pv 3 (.str [123,125,40,41,91,93,59,44,46,61,60,43,45,42,47,37,126]) (pn 4 i .nil))) (fun i B1=>B1=B∧i≤17) ?_ 0 B ⟨rfl,Nat.zero_le _⟩;rintro i B1 ⟨rfl,hi⟩ ih;refine wD (fun hlt=>?_) fun hge=>?_
  ·have hlt:i<17:=by
    have:(i:Int)<17:=hlt;omega
   obtain⟨w,hwd⟩:∃w,nth ([123,125,40,41,91,93,59,44,46,61,60,43,45,42,47,37,126]:List Nat) i=some w:=⟨_,wo (by show i<17;exact hlt)⟩;refine tD ?_;refine ax rfl rfl rfl rfl rfl ?_;refine cn 0 rfl rfl rfl rfl rfl rfl (wo h0) ?_;refine eP ?_;refine dR ?_;refine ax rfl rfl rfl rfl rfl ?_;refine cn i rfl rfl rfl rfl rfl rfl hwd ?_;refine eP ?_;refine eD ?_;refine zG (fun he=>?_) fun hne=>?_
   ·refine gO ?_;refine bQ (Q:=fun r=>r=.str (s.take 1)) rfl rfl rfl rfl rfl ⟨_,wn (hi:=1) rfl rfl h0,rfl⟩ ?_;rintro r rfl;refine gO ?_;exact af rfl ⟨⟨_,rfl,hs.take 1,by rw[List.length_take];omega⟩,rfl⟩
   ·refine wP ?_;refine ai ?_;refine yL (pv 0 (.str s) (pv 3 (.str [123,125,40,41,91,93,59,44,46,61,60,43,45,42,47,37,126]) (pn 4 (i+1:Nat) .nil))) ?_;exact ih (i+1) B1 om ⟨rfl,om⟩
  ·refine ay rfl ?_;refine gO ?_;exact af rfl ⟨⟨[],rfl,fun b hb=>absurd hb (List.not_mem_nil),Nat.zero_le _⟩,rfl⟩
section
variable{E:Env}{C:bC}{k:List Item}{l:Kn}{A:AW}{R:AV→AW→Prop}
theorem iA{c x y:Nat}{t:TypeId}{p v w u:AV}{A1:AW}(hc:C.fn.results.toList=[.cell c t,.tmp x,.tmp y])(h1:l.find c=some p)(hx:l.find x=some w)(hy:l.find y=some u)(hl:fR E t p A=.val v A1)(h:R (.tuple [v,w,u]) A): WG E C (.code .ret::k) l A R:=⟨fun F hF=>by
 have hr:dl E F A C.fn.results.toList=some [v,w,u]:=by
  rw[hc];simp only[dl,ic,hF.get c p h1,hF.get x w hx,hF.get y u hy,hl]
 exact⟨F,A,_,tf hr,h,1,fun n hn=>by
  obtain⟨m,rfl⟩:∃m,n=m+1:=⟨n-1,om⟩;rfl⟩⟩
end
section
variable{E:Env}{C:bC}{all rest:List Oper}{l:Kn}{A:AW}{K:Kn→AW→Prop}{d:Tmp}{ty:TypeId}{pos:String}{after:Array Edge}
theorem tP{a b:Operand}{k:FloatKind}{x y:Nat}{ts:Array TypeId}(hd:Nat.blt d C.N=true)(ha:dw l a=some (.float k x))(hb:dw l b=some (.float k y))(h:WO E C all rest (.put d (.dh k x y) l) A K):
 WO E C all (⟨some d,.call ⟨.builtin .complex,#[a,b],ts⟩,ty,pos,after,none⟩::rest) l A K:=
 bR hd (fun F hF=>by
  show ao (match [ev F a,ev F b] with
   | [.float k a,.float k' b]=>bif decide (k=k') then .val (.dh k a b) A else .fail 122
   | _=>.fail 122)=_
  rw[hF.ev ha,hF.ev hb];show ao (bif decide (k=k) then .val (.dh k x y) A else .fail 122)=_;rw[yT rfl];rfl) h
end
def dig(s:Str)(e:Nat): Prop:=48≤s.getD e 0∧s.getD e 0≤57
instance (s:Str) (e:Nat) : Decidable (dig s e):=by unfold dig;exact inferInstance
theorem gf{s:Str}{i:Nat}(h:i<s.length): nth s i=some (s.getD i 0):=by
 rw[wo h,List.getD_eq_getElem?_getD,gE h];rfl
def EK(A A1:AW)(s:Str)(p:Nat)(r:AV): Prop:=
 ac A A1 ag∧∃(t:Tk) (e z:Int),r=.tuple [.agg (fT t),.int .i64 e,.int .i64 z]∧(z=0→(t.k=3∨t.k=4)∧small t.s∧∃q:Nat,e=(q:Int)∧p<q∧q≤s.length)
set_option maxHeartbeats 8000000 in
theorem xT{K:FuncId}{A:AW}{s:Str}{p:Nat}(hw:Wf A)(hs:small s)(hl:s.length≤8000)(hp:p<s.length)(hd:dig s p):
 aD (ES K) 39 [.str s,.int .i64 (p:Int)] A fun r A1=>EK A A1 s p r:=by
 refine ap rfl rfl rfl ?_;refine gO ?_;refine zA (n:=5) (y:=fT zw) hw ?_;intro A1 o1 c1;generalize hf1:A.aa=f1 at c1;have x1:=o1.wf _ _ c1
 have fin:∀{B:AW} {t:Tk},ac A B ag→(hB:B.heap.get f1=some (.cells 0 false 5 (fT zw)))→ac A (B.put f1 (.cells 0 false 5 (fT t))) ag:=fun o hB=>ac.fresh hw o (ac.put o.wf (o.wf _ _ hB)) nF;refine gO ?_;refine aE ?_;refine yL (pv 0 (.str s) (pn 1 p (pp 4 f1 (pn 7 p (pz 8 0 .nil))))) ?_;refine aV (ι:=Nat×Int) (fun i=>s.length-i.1) (fun i=>pv 0 (.str s) (pn 1 p (pp 4 f1 (pn 7 i.1 (pz 8 i.2 .nil))))) (fun i B=>B=A1∧p≤i.1∧i.1≤s.length) ?_ (p,0) A1 ⟨rfl,Nat.le_refl _,Nat.le_of_lt hp⟩;rintro ⟨e,n⟩ B ⟨rfl,hpe,hel⟩ ih;replace hpe:p≤e:=hpe;replace hel:e≤s.length:=hel;refine sQ ?_;refine bX (pv 0 (.str s) (pn 1 p (pp 4 f1 (pn 7 e (pz 8 n (pb 20 (decide (e<s.length∧dig s e)) .nil)))))) ?_ ?_
 ·refine oP ?_;by_cases h1:(e:Int)<(s.length:Int)
  ·have h1':e<s.length:=om;refine wT 15 h1 ?_;refine oP ?_;refine cn e rfl rfl rfl rfl rfl rfl (gf h1') ?_;refine wC tO ?_;rintro r B ⟨rfl,rfl⟩;refine oP ?_;exact⟨rfl,rfl,rfl,rfl,rfl,rfl,congrArg (fun x=>some (AV.bool x)) (decide_eq_decide.2 ⟨fun h=>⟨h1',h⟩,fun h=>h.2⟩),trivial⟩
  ·refine wF 15 h1 ?_;refine oP ?_;exact⟨rfl,rfl,rfl,rfl,rfl,rfl,congrArg (fun x=>some (AV.bool x)) (yF fun h=>h1 om).symm,trivial⟩
 refine zG (fun hgo=>?_) fun hgo=>?_
 ·refine gO ?_;refine fd rfl rfl rfl om om ?_;refine wD (fun _=>?_) fun _=>?_
  ·refine wS c1 ?_;exact iA rfl rfl rfl rfl (bk rfl rfl (by rw[AW.aw,iP rfl]) rfl) ⟨fin (t:=zw) o1 c1,zw,0,32,rfl,fun h=>absurd h dE⟩
  refine gO ?_;refine jF rfl rfl rfl Eu ?_;refine gO ?_;refine cn e rfl rfl rfl rfl rfl rfl (gf hgo.1) ?_;refine jF rfl rfl rfl AK ?_;refine ED rfl rfl rfl rfl _ rfl ?_;refine jF rfl rfl rfl AJ ?_;refine wP ?_;refine ai ?_;refine yL (pv 0 (.str s) (pn 1 p (pp 4 f1 (pn 7 (e+1:Nat) (pz 8 _ .nil))))) ?_;exact ih (e+1,_) B (by simp only;omega) ⟨rfl,by simp only;omega,by simp only;omega⟩
 have hpe2:p<e:=by
  refine Decidable.byContradiction fun k=>?_;have e1:e=p:=om;exact hgo ⟨om,by rw[e1];exact hd⟩
 clear ih hgo;refine ay rfl ?_;refine gO ?_;refine zM (n:=5) (y:=fT ⟨3,(p:Int),[],n,(0,0)⟩) o1.wf ?_;intro A2 o2 c9;have n19:f1≠B.aa:=om;have l9:A.aa≤B.aa:=o1.aa;generalize hf9:B.aa=f9 at c9 n19 l9;replace c1:=o2.k c1;replace o2:=o1.same o2;refine oP ?_;refine sQ ?_;refine bX (pv 0 (.str s) (pn 1 p (pp 4 f1 (pn 7 e (pz 8 n (pp 9 f9 (.put 54 (.bool (decide (e<s.length∧(s.getD e 0=99∨s.getD e 0=105)))) .nil))))))) ?_ ?_
 ·refine oP ?_;by_cases h1:(e:Int)<(s.length:Int)
  ·have h1':e<s.length:=om;refine wT 43 h1 ?_;refine oP ?_;refine cn e rfl rfl rfl rfl rfl rfl (gf h1') ?_;refine oP ?_;by_cases h2:((s.getD e 0:Nat) : Int)=99
   ·refine wT 48 h2 ?_;refine oP ?_;exact⟨rfl,rfl,rfl,rfl,rfl,rfl,rfl,congrArg (fun x=>some (AV.bool x)) (yT ⟨h1',.inl om⟩).symm,trivial⟩
   ·refine wF 48 h2 ?_;refine oP ?_;refine cn e rfl rfl rfl rfl rfl rfl (gf h1') ?_;refine oP ?_;exact⟨rfl,rfl,rfl,rfl,rfl,rfl,rfl,congrArg (fun x=>some (AV.bool x)) (decide_eq_decide.2 ⟨fun h=>⟨h1',.inr (by have h:((s.getD e 0:Nat) : Int)=105:=h;omega)⟩,fun h=>by show ((s.getD e 0:Nat) : Int)=105;have:=h.2.resolve_left om;omega⟩),trivial⟩
  ·refine wF 43 h1 ?_;refine oP ?_;exact⟨rfl,rfl,rfl,rfl,rfl,rfl,rfl,congrArg (fun x=>some (AV.bool x)) (yF fun h=>h1 om).symm,trivial⟩
 refine ce (fun l1 A3=>∃(e':Nat) (t:Tk),(Kn.put 0 (.str s) (pn 1 p (pp 4 f1 (pn 7 e' (pp 9 f9 .nil))))).le l1∧ac A A3 ag∧A3.heap.get f1=some (.cells 0 false 5 (fT zw))∧A3.heap.get f9=some (.cells 0 false 5 (fT t))∧(t.k=3∨t.k=4)∧e≤e'∧e'≤s.length) ?_ ?_
 ·intro k' hk';refine zG (fun hgo=>?_) fun hgo=>?_
  ·obtain⟨hes,hci⟩:=hgo;refine gO ?_;refine fd rfl rfl rfl om om ?_;refine wD (fun _=>?_) fun _=>?_
   ·refine wL c9 ?_;refine wS c1 ?_;exact iA rfl rfl rfl rfl (bk rfl rfl (by rw[AW.aw,iP rfl]) rfl) ⟨fin (t:=⟨3,(p:Int),[],n,(0,0)⟩) o2 c1,⟨3,(p:Int),[],n,(0,0)⟩,0,32,rfl,fun h=>absurd h dE⟩
   refine gO ?_;refine zS c9 ?_;have put9:∀{B:AW} {t t':Tk},ac A B ag→gt B f1 5 (fT zw)→gt B f9 5 (fT t)→ac A (B.put f9 (.cells 0 false 5 (fT t'))) ag∧(B.put f9 (.cells 0 false 5 (fT t'))).heap.get f1=some (.cells 0 false 5 (fT zw))∧(B.put f9 (.cells 0 false 5 (fT t'))).heap.get f9=some (.cells 0 false 5 (fT t')):=fun {B t t'} o h1 h9=>by
    have op:ac B (B.put f9 (.cells 0 false 5 (fT t'))) (one f9):=ac.put o.wf (o.wf _ _ h9);exact⟨ac.fresh hw o op nF,op.ae _ _ h1 fun e=>n19 e,by rw[AW.aw,iP rfl]⟩
   refine bG (fun A3=>ac A A3 ag∧gt A3 f1 5 (fT zw)∧gt A3 f9 5 (fT ⟨4,(p:Int),[],n,(0,0)⟩)) (put9 (t':=⟨4,(p:Int),[],n,(0,0)⟩) o2 c1 c9) ?_;clear c1 c9 o2;rintro A3 ⟨o2,c1,c9⟩;refine gO ?_;refine zS c9 ?_;refine bG (fun A3=>ac A A3 ag∧gt A3 f1 5 (fT zw)∧gt A3 f9 5 (fT ⟨4,(p:Int),[],0,(0,0)⟩)) (put9 (t':=⟨4,(p:Int),[],0,(0,0)⟩) o2 c1 c9) ?_;clear c1 c9 o2;rintro A4 ⟨o2,c1,c9⟩;refine gO ?_;refine cn e rfl rfl rfl rfl rfl rfl (gf hes) ?_;refine wD (fun _=>?_) fun _=>?_
   ·refine gO ?_;refine tt (A1:=A4) (v:=.float .f64 (FloatKind.f64.nearest n)) rfl rfl rfl ?_;refine oP ?_;refine tP rfl rfl rfl ?_;refine gO ?_;refine zS c9 ?_;refine bG (fun A3=>ac A A3 ag∧gt A3 f1 5 (fT zw)∧gt A3 f9 5 (fT ⟨4,(p:Int),[],0,(FloatKind.f64.nearest n,0)⟩)) (put9 (t':=⟨4,(p:Int),[],0,(FloatKind.f64.nearest n,0)⟩) o2 c1 c9) ?_;clear c1 c9 o2;rintro A5 ⟨o2,c1,c9⟩;refine wP ?_;exact hk' _ _ ⟨e+1,_,⟨rfl,rfl,rfl,rfl,rfl,trivial⟩,o2,c1,c9,.inr rfl,om,om⟩
   ·refine gO ?_;refine tt (A1:=A4) (v:=.float .f64 (FloatKind.f64.nearest n)) rfl rfl rfl ?_;refine oP ?_;refine tP rfl rfl rfl ?_;refine gO ?_;refine zS c9 ?_;refine bG (fun A3=>ac A A3 ag∧gt A3 f1 5 (fT zw)∧gt A3 f9 5 (fT ⟨4,(p:Int),[],0,(0,FloatKind.f64.nearest n)⟩)) (put9 (t':=⟨4,(p:Int),[],0,(0,FloatKind.f64.nearest n)⟩) o2 c1 c9) ?_;clear c1 c9 o2;rintro A5 ⟨o2,c1,c9⟩;refine wP ?_;exact hk' _ _ ⟨e+1,_,⟨rfl,rfl,rfl,rfl,rfl,trivial⟩,o2,c1,c9,.inr rfl,om,om⟩
  ·refine gO ?_;exact hk' _ _ ⟨e,_,⟨rfl,rfl,rfl,rfl,rfl,trivial⟩,o2,c1,c9,.inl rfl,Nat.le_refl _,hel⟩
 clear c1 c9 o2;rintro l1 A3 ⟨e',t,hle,o2,c1,c9,hk,hee,hel'⟩;refine bY _ ?_ hle;refine sQ ?_;refine bX (pv 0 (.str s) (pn 1 p (pp 4 f1 (pn 7 e' (pp 9 f9 (pb 85 (decide (e'<s.length) && nk (s.getD e' 0) false) .nil)))))) ?_ ?_
 ·refine oP ?_;by_cases h1:(e':Int)<(s.length:Int)
  ·have h1':e'<s.length:=om;refine wT 80 h1 ?_;refine oP ?_;refine cn e' rfl rfl rfl rfl rfl rfl (gf h1') ?_;refine wC jf ?_;rintro r B ⟨rfl,rfl⟩;refine oP ?_;exact⟨rfl,rfl,rfl,rfl,rfl,rfl,congrArg (fun x=>some (AV.bool x)) (by rw[yT h1',Bool.true_and]),trivial⟩
  ·refine wF 80 h1 ?_;refine oP ?_;exact⟨rfl,rfl,rfl,rfl,rfl,rfl,congrArg (fun x=>some (AV.bool x)) (by rw[yF (fun h=>h1 om),Bool.false_and]),trivial⟩
 refine fh rfl (fun _=>?_) fun _=>?_
 ·refine wL c9 ?_;refine wS c1 ?_;exact iA rfl rfl rfl rfl (bk rfl rfl (by rw[AW.aw,iP rfl]) rfl) ⟨fin (t:=t) o2 c1,t,0,180,rfl,fun h=>absurd h dE⟩
 ·refine gO ?_;refine bQ (Q:=fun r=>r=.str ((s.drop p).take (e'-p))) rfl rfl rfl rfl rfl ⟨_,AQ rfl rfl om hel',rfl⟩ ?_;rintro r rfl;refine gO ?_;refine zS c9 ?_;have op:ac A3 (A3.put f9 (.cells 0 false 5 (fT ⟨t.k,t.a,(s.drop p).take (e'-p),t.i,t.x⟩))) (one f9):=ac.put o2.wf (o2.wf _ _ c9);refine bG (fun A4=>ac A A4 ag∧A4.heap.get f1=some (.cells 0 false 5 (fT zw))∧A4.heap.get f9=some (.cells 0 false 5 (fT ⟨t.k,t.a,(s.drop p).take (e'-p),t.i,t.x⟩))) ⟨ac.fresh hw o2 op nF,op.ae _ _ c1 fun e=>n19 e,by rw[AW.aw,if_pos rfl];rfl⟩ ?_;clear c1 c9 o2 op;rintro A4 ⟨o2,c1,c9⟩;refine wL c9 ?_;refine wS c1 ?_;exact iA rfl rfl rfl rfl (bk rfl rfl (by rw[AW.aw,iP rfl]) rfl) ⟨fin (t:=⟨t.k,t.a,(s.drop p).take (e'-p),t.i,t.x⟩) o2 c1,⟨t.k,t.a,(s.drop p).take (e'-p),t.i,t.x⟩,(e':Int),0,rfl,fun _=>⟨hk,(hs.drop p).take _,e',rfl,om,hel'⟩⟩
end Go.Proofs.YtafamggbkobcfaaGreat.Ae
