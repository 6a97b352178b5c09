/- A part of the proof of the statement CheckTypes. -/
import Derived.Test.YtafamggbkobcfaaGreatAiSyT17
namespace Go.Proofs.YtafamggbkobcfaaGreat.Ae
open Go.AE
set_option linter.unusedVariables false
set_option maxRecDepth 100000
theorem tC{s:Str}:dC (.str s) (.str s)=true:=tp s
theorem stillB{b:Bool}:dC (.bool b) (.bool b)=true:=by cases b<;>rfl
theorem EG{k:FloatKind}{a b:Nat}:dC (.dh k a b) (.dh k a b)=true:=by
 show (decide (k=k) && Nat.beq a a && Nat.beq b b)=true;rw[Nat.beq_refl,Nat.beq_refl,decide_eq_true rfl];rfl
theorem stillG{K:FuncId}{C:bC}{l:Kn}{A:AW}{d:Option Tmp}{t:Tmp}{pos:String}{ty T:TypeId}{after:Array Edge}{gd:Option (Nat×Bool)}{f s o es:Nat}{ro:Bool}{cs:List AV}{v:AV}{dt:bH}(ht:(ES K).cf.get T=some dt)(hg:dt.agg=false)(hl:l.find t=some (.ptr f s o))(hf:A.heap.get f=some (.cells s ro es cs))(hn:nth cs o=some v)(hv:dC v v=true):
 (∀F,Kf C l F→dr (ES K) F ⟨d,.load T (.tmp t),ty,pos,after,gd⟩ A=.val v A)∧dC v v=true:=by
 refine⟨fun F hF=>?_,hv⟩;show ao (fR (ES K) T (ev F (.tmp t)) A)=_;rw[hF.ev (x:=.tmp t) (v:=.ptr f s o) hl,xO (dt:=dt) ht hg hf hn];rfl
theorem stillA{K:FuncId}{C:bC}{l:Kn}{A:AW}{d:Option Tmp}{t:Tmp}{pos:String}{ty T:TypeId}{after:Array Edge}{gd:Option (Nat×Bool)}{f s o es:Nat}{ro:Bool}{cs vs:List AV}{dt:bH}(ht:(ES K).cf.get T=some dt)(hg:dt.agg=true)(hl:l.find t=some (.ptr f s o))(hf:A.heap.get f=some (.cells s ro es cs))(hn:takeN dt.size (aB o cs)=some vs)(hv:dC (.agg vs) (.agg vs)=true):
 (∀F,Kf C l F→dr (ES K) F ⟨d,.load T (.tmp t),ty,pos,after,gd⟩ A=.val (.agg vs) A)∧dC (.agg vs) (.agg vs)=true:=by
 refine⟨fun F hF=>?_,hv⟩;show ao (fR (ES K) T (ev F (.tmp t)) A)=_;rw[hF.ev (x:=.tmp t) (v:=.ptr f s o) hl,bk (dt:=dt) ht hg hf hn];rfl
theorem dT{α:Type}{A:AW}{es:Nat}{v:AV}{l:List α}{cl:α→List AV}(hcl:∀a,(cl a).length=es)(h:Row A es v l.length (l.flatMap cl)){i:Nat}{x:α}(hx:l[i]?=some x):
 ∃f t o c ex ro all,v=.slice f t o l.length c ex∧A.heap.get f=some (.cells t ro es all)∧i<l.length∧∀k j,j+k≤es→takeN k (aB (Nat.add (Nat.add o (Nat.mul i es)) j) all)=takeN k (aB j (cl x)):=by
 have hi:=(List.getElem?_eq_some_iff.1 hx).1;obtain⟨f,t,o,c,ex,ro,all,rfl,hh,cw⟩:=h.at hi;exact⟨f,t,o,c,ex,ro,all,rfl,hh,hi,fun k j hk=>(cw k j hk).trans (pM hcl hx k j hk)⟩
structure Tk where
 k:Int
 a:Int
 s:Str
 i:Int
 x:Nat×Nat
def fT(t:Tk): List AV:=[.int .i64 t.k,.int .i64 t.a,.str t.s,.int .i64 t.i,.dh .f64 t.x.1 t.x.2]
def zw:Tk:=⟨0,0,[],0,(0,0)⟩
def cur(L:List Tk)(p:Nat): Tk:=L.getD p zw
def kwT(s:Str): Prop:=s=[105,110,116]∨s=[99,112,120]∨s=[105,110,116,115]∨s=[118,111,105,100]
instance (s:Str) : Decidable (kwT s):=by unfold kwT;exact inferInstance
def nm(s:Str): Prop:=rI s∧¬kwT s
structure TkOk (L:List Tk) : Prop where
 len:L.length≤8100
 last:∀i,i+1=L.length→(cur L i).k=6
 name:∀i,i<L.length→(cur L i).k=1→nm (cur L i).s
 sm:∀i,i<L.length→small (cur L i).s
structure PS (A:AW) (fp:Nat) (lv:AV) (L:List Tk) (p:Nat) (dp:Int) (b:Bool) : Prop where
 cell:A.heap.get fp=some (.cells 0 false 4 [lv,.int .i64 (p:Int),.int .i64 dp,.bool b])
 row:Row A 5 lv L.length (L.flatMap fT)
 nv:¬lv.av fp
 ok:TkOk L
 lt:p<L.length
structure PT (A A1:AW) (fp:Nat) (lv:AV) (L:List Tk) (p:Nat) (dp:Int) (b:Bool) (p':Nat) (b':Bool) : Prop where
 ps:PS A1 fp lv L p' dp b'
 Fi:ac A A1 (one fp)
 le:p≤p'
 bad:b=true→b'=true
section
variable{A A1 A2:AW}{fp:Nat}{lv:AV}{L:List Tk}{p q r:Nat}{dp:Int}{b b1 b2:Bool}
theorem PS.ae(h:PS A fp lv L p dp b){T:Nat→Prop}(o:ac A A1 T)(h1:¬T fp)(h2:∀g,lv.av g→¬T g): PS A1 fp lv L p dp b:=
 ⟨o.ae _ _ h.cell h1,h.row.ae o h2,h.nv,h.ok,h.lt⟩
theorem PS.quiet(h:PS A fp lv L p dp b)(o:ac A A1 ag): PS A1 fp lv L p dp b:=h.ae o (fun h=>h) fun _ _ h=>h
theorem PS.fg(hw:Wf A)(h:PS A fp lv L p dp b): fp<A.aa∧∀g,lv.av g→g<A.aa:=⟨hw _ _ h.cell,h.row.under hw⟩
theorem PT.refl(hw:Wf A)(h:PS A fp lv L p dp b): PT A A fp lv L p dp b p b:=⟨h,ac.refl hw _,Nat.le_refl _,fun h=>h⟩
theorem PT.trans(h:PT A A1 fp lv L p dp b q b1)(k:PT A1 A2 fp lv L q dp b1 r b2): PT A A2 fp lv L p dp b r b2:=⟨k.ps,h.Fi.same k.Fi,Nat.le_trans h.le k.le,fun z=>k.bad (h.bad z)⟩
theorem PT.quiet(h:PT A A1 fp lv L p dp b q b1)(o:ac A1 A2 ag): PT A A2 fp lv L p dp b q b1:=⟨h.ps.quiet o,h.Fi.same (o.mono fun _ h=>h.elim),h.le,h.bad⟩
theorem PT.after(o:ac A A1 ag)(h:PT A1 A2 fp lv L p dp b q b1): PT A A2 fp lv L p dp b q b1:=⟨h.ps,(o.mono fun _ h=>h.elim).same h.Fi,h.le,h.bad⟩
theorem PT.fresh{T:Nat→Prop}{p0:Nat}{b0:Bool}{d0:Int}(hw:Wf A)(h0:PS A fp lv L p0 d0 b0)(h:PT A A1 fp lv L p dp b q b1)(o:ac A1 A2 T)(ht:∀g,T g→A.aa≤g): PT A A2 fp lv L p dp b q b1:=by
 obtain⟨l1,l2⟩:=h0.fg hw;have nt:∀g,g<A.aa→¬T g:=fun g hg h=>by
  have:=ht g h;omega
 refine⟨h.ps.ae o (nt _ l1) fun g hg=>nt g (l2 g hg),⟨o.wf,Nat.le_trans h.Fi.aa o.aa,fun g F hg hn=>?_⟩,h.le,h.bad⟩;exact o.ae _ _ (h.Fi.ae _ _ hg hn) (nt g (hw g F hg))
theorem PS.put(hw:Wf A)(h:PS A fp lv L p dp b){q:Nat}{d:Int}{b1:Bool}(hq:q<L.length): PS (A.put fp (.cells 0 false 4 [lv,.int .i64 (q:Int),.int .i64 d,.bool b1])) fp lv L q d b1:=by
 have o:=ac.put (x:=.cells 0 false 4 [lv,.int .i64 (q:Int),.int .i64 d,.bool b1]) hw (hw _ _ h.cell);exact⟨by rw[AW.aw,if_pos rfl],h.row.ae o fun g hg e=>h.nv (by cases e;exact hg),h.nv,h.ok,hq⟩
theorem PT.put(hw:Wf A)(h:PS A fp lv L p dp b){q:Nat}{b1:Bool}(hq:q<L.length)(hle:p≤q)(hb:b=true→b1=true): PT A (A.put fp (.cells 0 false 4 [lv,.int .i64 (q:Int),.int .i64 dp,.bool b1])) fp lv L p dp b q b1:=
 ⟨h.put hw hq,ac.put hw (hw _ _ h.cell),hle,hb⟩
theorem PS.next(h:PS A fp lv L p dp b)(hk:(cur L p).k≠6): p+1<L.length:=by
 have:=h.lt;have:=h.ok.last p;omega
end
theorem cJ{K:FuncId}{A:AW}{fp:Nat}{lv:AV}{L:List Tk}{p:Nat}{dp:Int}{b:Bool}(hw:Wf A)(h:PS A fp lv L p dp b):
 aD (ES K) 15 [.ptr fp 0 0] A fun r A1=>r=.agg (fT (cur L p))∧ac A A1 ag:=by
 refine ap rfl rfl rfl ?_;have hc:=h.cell;obtain⟨x,hx⟩:∃x,L[p]?=some x:=⟨_,List.getElem?_eq_getElem h.lt⟩;have hcur:cur L p=x:=by
  unfold cur;rw[List.getD_eq_getElem?_getD,hx];rfl
 rw[hcur];refine gO ?_;refine zA (n:=5) (y:=fT zw) hw ?_;intro A1 o1 h2;have hn:=(h.fg hw).1;have nf:A.aa≠fp:=by omega
 have l2:A.aa≤A.aa:=Nat.le_refl _;generalize hf2:A.aa=f2 at h2 nf;have hc:=o1.k hc;obtain⟨f,t,o,c,ex,ro,all,rfl,hh,_,cw⟩:=dT (cl:=fT) (fun _=>rfl) (h.row.ae o1 fun _ _ h=>h) hx;refine gO ?_;refine tD ?_;refine ax rfl rfl rfl rfl rfl ?_;refine zI p rfl h.lt ?_;refine eP ?_;refine rD ?_;refine bS (vs:=fT x) rfl rfl rfl rfl hh ?_ ?_
 ·exact (cw 5 0 (Nat.le_refl _)).trans rfl
 refine eR ?_;refine aC ?_;refine zS h2 ?_;refine sA ?_;refine aK ?_;refine gO ?_;refine zR ⟨rfl,?_⟩;exact ac.fresh hw o1 (ac.put o1.wf (o1.wf _ _ h2)) nF
theorem iq{K:FuncId}{A:AW}{fp:Nat}{lv:AV}{L:List Tk}{p:Nat}{dp:Int}{b:Bool}(hw:Wf A)(h:PS A fp lv L p dp b):
 aD (ES K) 17 [.ptr fp 0 0] A fun r A1=>r=.tuple []∧PT A A1 fp lv L p dp b p true:=by
 refine ap rfl rfl rfl ?_;have hc:=h.cell;refine gO ?_;refine zS hc ?_;refine gO ?_;exact bd rfl ⟨rfl,PT.put hw h h.lt (Nat.le_refl _) fun _=>rfl⟩
def np(b:Bool)(t:Tk)(s:Str): Prop:=b=false∧(t.k=2∨t.k=5)∧t.s=s
instance (b:Bool) (t:Tk) (s:Str) : Decidable (np b t s):=by unfold np;exact inferInstance
theorem cj{K:FuncId}{A:AW}{fp:Nat}{lv:AV}{L:List Tk}{p:Nat}{dp:Int}{b:Bool}{s:Str}(hw:Wf A)(h:PS A fp lv L p dp b):
 aD (ES K) 41 [.ptr fp 0 0,.str s] A fun r A1=>r=.bool (decide (np b (cur L p) s))∧ac A A1 ag:=by
 refine ap rfl rfl rfl ?_;refine gO ?_;refine zC rfl (cJ hw h) ?_;rintro r A1 ⟨rfl,o1⟩;generalize cur L p=t;obtain⟨k,a,ts,ti,tx⟩:=t;unfold fT;refine gO ?_;refine zM (n:=5) (y:=fT ⟨k,a,ts,ti,tx⟩) o1.wf ?_;intro A2 o2 h2;generalize A1.aa=f2 at h2;unfold fT at h2;have o12:=o1.same o2;have hc:=o12.k h.cell;refine gO ?_;cases b with
 | true=>
  refine gO ?_;exact af rfl ⟨rfl,o12⟩
 | false=>
  refine gO ?_;by_cases k2:k=2
  ·refine wT 17 k2 ?_;refine gO ?_;exact af rfl ⟨congrArg AV.bool (decide_eq_decide.2 ⟨fun h=>⟨rfl,.inl k2,h⟩,fun h=>h.2.2⟩),o12⟩
  ·refine wF 17 k2 ?_;refine gO ?_;by_cases k5:k=5
   ·refine wT 23 k5 ?_;refine gO ?_;exact af rfl ⟨congrArg AV.bool (decide_eq_decide.2 ⟨fun h=>⟨rfl,.inr k5,h⟩,fun h=>h.2.2⟩),o12⟩
   ·refine wF 23 k5 ?_;refine gO ?_;exact af rfl ⟨congrArg AV.bool (decide_eq_false fun h=>h.2.1.elim k2 k5).symm,o12⟩
theorem Dn{A:AW}{fp:Nat}{lv:AV}{L:List Tk}{p:Nat}{dp:Int}{b:Bool}{s:Str}(h:PS A fp lv L p dp b)(hi:np b (cur L p) s): p+1<L.length:=h.next fun e=>by
 have:=hi.2.1;omega
theorem bz{K:FuncId}{A:AW}{fp:Nat}{lv:AV}{L:List Tk}{p:Nat}{dp:Int}{b:Bool}{s:Str}(hw:Wf A)(h:PS A fp lv L p dp b):
 aD (ES K) 69 [.ptr fp 0 0,.str s] A fun r A1=>(r=.bool true∧np b (cur L p) s∧PT A A1 fp lv L p dp b (p+1) b)∨(r=.bool false∧¬np b (cur L p) s∧PT A A1 fp lv L p dp b p b):=by
 refine ap rfl rfl rfl ?_;refine gO ?_;refine zC rfl (cj hw h) ?_;rintro r A1 ⟨rfl,o1⟩;have h1:=h.quiet o1;have hc:=h1.cell;refine gO ?_;by_cases hi:np b (cur L p) s
 ·refine da (by rw[decide_eq_true hi];rfl) ?_;have hn:=Dn h hi;have hl:=h.ok.len;refine gO ?_;refine zP ?_;refine gO ?_;refine zS hc ?_;refine gO ?_;exact af rfl (.inl ⟨rfl,hi,PT.after o1 (PT.put o1.wf h1 (q:=p+1) hn (Nat.le_succ _) fun h=>h)⟩)
 ·refine lf (by rw[decide_eq_false hi];rfl) ?_;refine gO ?_;exact af rfl (.inr ⟨rfl,hi,(PT.refl hw h).quiet o1⟩)
theorem bn{K:FuncId}{A:AW}{fp:Nat}{lv:AV}{L:List Tk}{p:Nat}{dp:Int}{b:Bool}{s:Str}(hw:Wf A)(h:PS A fp lv L p dp b):
 aD (ES K) 67 [.ptr fp 0 0,.str s] A fun r A1=>r=.int .i64 (cur L p).a∧∃q b1,PT A A1 fp lv L p dp b q b1∧(b1=false→p<q):=by
 refine ap rfl rfl rfl ?_;refine gO ?_;refine zC rfl (cJ hw h) ?_;rintro r A1 ⟨rfl,o1⟩;have h1:=h.quiet o1;refine gO ?_;refine dx rfl rfl rfl ?_;refine gO ?_;refine zC rfl (bz o1.wf h1) ?_;rintro r A2 (⟨rfl,hi,t2⟩|⟨rfl,hi,t2⟩)
 ·refine gO ?_;refine da rfl ?_;refine gO ?_;exact af rfl ⟨rfl,p+1,b,PT.after o1 t2,fun _=>Nat.lt_succ_self _⟩
 ·refine gO ?_;refine lf rfl ?_;refine gO ?_;refine zC rfl (iq t2.Fi.wf t2.ps) ?_;rintro r A3 ⟨rfl,t3⟩;refine gO ?_;exact af rfl ⟨rfl,p,true,(PT.after o1 t2).trans t3,fun h=>by cases h⟩
theorem dK{K:FuncId}{A:AW}{fp:Nat}{lv:AV}{L:List Tk}{p:Nat}{dp:Int}{b:Bool}(hw:Wf A)(h:PS A fp lv L p dp b):
 aD (ES K) 68 [.ptr fp 0 0] A fun r A1=>∃s q b1,r=.str s∧PT A A1 fp lv L p dp b q b1∧(b1=false→p<q∧nm s):=by
 refine ap rfl rfl rfl ?_;have hl:=h.ok.len;refine gO ?_;refine zC rfl (cJ hw h) ?_;rintro r A1 ⟨rfl,o1⟩;have hnm:=h.ok.name p h.lt;have hnx:=fun hk=>h.next hk;generalize cur L p=t at hnm hnx;obtain⟨k,a,ts,ti,tx⟩:=t;unfold fT;refine gO ?_;refine zM (n:=5) (y:=fT ⟨k,a,ts,ti,tx⟩) o1.wf ?_;intro A2 o2 h2;have nf:A1.aa≠fp:=by
  have:=(h.fg hw).1;have:=o1.aa;omega
 generalize A1.aa=f2 at h2 nf;unfold fT at h2;have o12:=o1.same o2;have h1:=h.quiet o12;have hc:=h1.cell;refine oP ?_;refine sQ ?_;refine bX (pp 0 fp (pp 3 f2 (.put 14 (.bool (decide (b=true∨k≠1))) .nil))) ?_ ?_
 ·refine oP ?_;cases b with
  | true=>
   refine oP ?_;exact⟨rfl,rfl,rfl,congrArg (fun x=>some (AV.bool x)) (decide_eq_true (.inl rfl)).symm,trivial⟩
  | false=>
   refine oP ?_;exact⟨rfl,rfl,rfl,congrArg (fun x=>some (AV.bool x)) (decide_eq_decide.2 ⟨fun h=>.inr h,fun h=>h.resolve_left (by decide)⟩),trivial⟩
 refine zG (fun hb=>?_) fun hb=>?_
 ·refine gO ?_;refine zC rfl (iq o12.wf h1) ?_;rintro r A3 ⟨rfl,t3⟩;refine gO ?_;exact af rfl ⟨[],p,true,rfl,PT.after o12 t3,fun h=>by cases h⟩
 ·have hk:k=1:=Decidable.byContradiction fun k=>hb (.inr k);have hn:=hnx (by show k≠6;omega);refine gO ?_;refine zP ?_;refine gO ?_;refine zS hc ?_;have t3:=PT.put o12.wf h1 (q:=p+1) (b1:=b) hn (Nat.le_succ _) fun h=>h;refine bG (fun A3=>PT A2 A3 fp lv L p dp b (p+1) b) t3 ?_;intro A3 t3;have h2:=t3.Fi.k h2;refine gO ?_;exact af rfl ⟨ts,p+1,b,rfl,PT.after o12 t3,fun _=>⟨Nat.lt_succ_self _,hnm hk⟩⟩
theorem gv{K:FuncId}{A:AW}{fp:Nat}{lv:AV}{L:List Tk}{p:Nat}{dp:Int}{b:Bool}(hw:Wf A)(h:PS A fp lv L p dp b)(h0:0≤dp)(h1:dp≤100):
 aD (ES K) 117 [.ptr fp 0 0] A fun r A1=>r=.tuple []∧∃b1,PS A1 fp lv L p (dp+1) b1∧ac A A1 (one fp)∧(b=true→b1=true)∧(b1=false→dp+1≤12):=by
 refine ap rfl rfl rfl ?_;have hc:=h.cell;refine gO ?_;refine zP ?_;refine gO ?_;refine zS hc ?_;refine bG (fun A1=>PS A1 fp lv L p (dp+1) b∧ac A A1 (one fp)) ⟨h.put hw h.lt,ac.put hw (hw _ _ hc)⟩ ?_;rintro A1 ⟨s1,o1⟩;have hc:=s1.cell;refine gO ?_;refine zG (fun hd=>?_) fun hd=>?_
 ·refine gO ?_;refine zC rfl (iq o1.wf s1) ?_;rintro r A2 ⟨rfl,t2⟩;refine gO ?_;exact bd rfl ⟨rfl,true,t2.ps,o1.same t2.Fi,fun _=>rfl,fun h=>by cases h⟩
 ·refine gO ?_;exact bd rfl ⟨rfl,b,s1,o1,fun h=>h,fun _=>om⟩
theorem kd{K:FuncId}{A:AW}{fp:Nat}{lv:AV}{L:List Tk}{p:Nat}{dp:Int}{b:Bool}(hw:Wf A)(h:PS A fp lv L p (dp+1) b)(h0:0≤dp)(h1:dp≤100):
 aD (ES K) 119 [.ptr fp 0 0] A fun r A1=>r=.tuple []∧PS A1 fp lv L p dp b∧ac A A1 (one fp):=by
 refine ap rfl rfl rfl ?_;have hc:=h.cell;refine gO ?_;refine fd rfl rfl rfl om om ?_;refine gO ?_;refine zS hc ?_;refine gO ?_;refine bd rfl ⟨rfl,?_,ac.put hw (hw _ _ hc)⟩;rw[show dp+1-1=dp by omega];exact h.put hw h.lt
theorem tJ{n b:Nat}(h:n≤1000000)(hb:b≤1000): eL n b=true:=by
 have h1:Nat.ble n ju=true:=Nat.ble_eq_true_of_le (Nat.le_trans h dE);have h2:Nat.ble (Nat.mul n b) ju=true:=Nat.ble_eq_true_of_le (Nat.le_trans (Nat.mul_le_mul h hb) dE);unfold eL;rw[h1,h2];rfl
def Cut(A:AW)(es:Nat)(r:AV)(n:Nat)(cs:List AV): Prop:=
 (n=0∧cs=[]∧(r=.aj∨r=.emp true))∨∃f t o ro all,r=.slice f t o n n true∧A.heap.get f=some (.cells t ro es all)∧takeN (n*es) (aB o all)=some cs∧0<n
theorem dY{k:IntKind}{n m d:Nat}(h:n≤m): bound (some (.int k (n:Int))) m d=some n:=by
 show (bif Nat.ble n m then some n else none)=_;rw[Nat.ble_eq_true_of_le h];rfl
theorem tK{E:Env}{A:AW}{t e:TypeId}{d de:bH}{v:AV}{n:Nat}{cs:List AV}{k1 k2:IntKind}(ht:E.cf.get t=some d)(hs:d.desc=.slice e)(he:E.cf.get e=some de)(h:Row A de.size v n cs):
 ∃r,cQ E t v none (some (.int k1 (n:Int))) (some (.int k2 (n:Int))) A=.val r A∧Cut A de.size r n cs∧dC r r=true:=by
 unfold cQ;rcases h with ⟨rfl|⟨z,rfl⟩,rfl,rfl⟩|⟨f,u,o,c,ex,ro,all,rfl,h1,h0,h2⟩
 ·simp only[ht,hs,he,fc,dY (Nat.le_refl 0)];exact⟨_,rfl,.inl ⟨rfl,rfl,.inl rfl⟩,rfl⟩
 ·simp only[ht,hs,he,fc,dY (Nat.le_refl 0)];exact⟨_,rfl,.inl ⟨rfl,rfl,.inr rfl⟩,rfl⟩
 ·simp only[ht,hs,he,eU,h1,Nat.beq_refl,Bool.and_self,cond_true,dY h0,dY (Nat.le_refl n),show bound none n 0=some 0 from rfl];by_cases hn:n=0
  ·subst hn;have hcs:cs=[]:=List.eq_nil_of_length_eq_zero (by have:=(eA _ _ _ h2).2;simpa using this);exact⟨.emp true,rfl,.inl ⟨rfl,hcs,.inr rfl⟩,rfl⟩
  ·have e3:Nat.beq 0 n=false:=by rw[beq_eq];exact yF om
   simp only[e3,cond_false];refine⟨_,rfl,.inr ⟨f,u,o,ro,all,?_,h1,h2,om⟩,?_⟩
   ·show AV.slice f u (o+0*de.size) (n-0) (n-0) true=_;rw[Nat.zero_mul,Nat.add_zero,Nat.sub_zero]
   ·show (Nat.beq f f && Nat.beq u u && Nat.beq (o+0*de.size) (o+0*de.size) && Nat.beq (n-0) (n-0) && Nat.beq (n-0) (n-0) && (true == true))=true;simp only[Nat.beq_refl,beq_self_eq_true,Bool.and_self]
theorem od{E:Env}{A:AW}{t e:TypeId}{d de:bH}{z:List AV}{v:AV}{n:Nat}{cs xs:List AV}(ht:E.cf.get t=some d)(hs:d.desc=.slice e)(he:E.cf.get e=some de)(hz:de.zero=some z)
 (hw:Wf A) (hb:Cut A de.size v n cs) (hl:xs.length=de.size) (h1:1≤de.size) (hr:eL (n+1) de.bytes=true) :
 ∃v' A1,dP E t v (.slice A.aa 0 0 1 1 true) (A.add (.cells 0 false de.size xs))=.val v' A1∧ac A A1 ag∧eH A1 de.size v' (n+1) (cs++xs)∧∀g,v'.av g→A.aa≤g:=by
 have o1:ac A (A.add (.cells 0 false de.size xs)) ag:=ac.add hw _;have hx:kl (A.add (.cells 0 false de.size xs)) de.size (.slice A.aa 0 0 1 1 true)=some (1,xs):=by
  have e:takeN (Nat.mul 1 de.size) xs=some xs:=by
   have:Nat.mul 1 de.size=de.size:=Nat.one_mul _;rw[this,br _ _ om,←hl,tL]
  simp only[kl,bU,aB];rw[AW.add_get,iP rfl];simp only[Nat.beq_refl,cond_true,e]
 have e1:Nat.ble 1 de.size=true:=Nat.ble_eq_true_of_le h1;have e0:Nat.beq 1 0=false:=rfl;unfold dP;simp only[ht,hs,he,hz,hx,e0,cond_false,e1,cond_true];have hnx:(A.add (.cells 0 false de.size xs)).aa=A.aa+1:=rfl;rcases hb with ⟨rfl,rfl,rfl|rfl⟩|⟨f,u,o,ro,all,rfl,g1,g2,g3⟩
 ·simp only[ia];rw[Nat.zero_add] at hr;rw[hr];simp only[cond_true];refine⟨_,(A.add (.cells 0 false de.size xs)).add (.cells 0 false de.size xs),rfl,o1.same (ac.add o1.wf _),.inr ⟨_,0,rfl,by rw[AW.add_get,iP rfl];rfl,by simp [hl],om⟩,fun g hg=>?_⟩;cases hg;rw[hnx];omega
 ·simp only[ia];rw[Nat.zero_add] at hr;rw[hr];simp only[cond_true];refine⟨_,(A.add (.cells 0 false de.size xs)).add (.cells 0 false de.size xs),rfl,o1.same (ac.add o1.wf _),.inr ⟨_,0,rfl,by rw[AW.add_get,iP rfl];rfl,by simp [hl],om⟩,fun g hg=>?_⟩;cases hg;rw[hnx];omega
 ·have g1:=o1.k g1;have e2:Nat.ble (Nat.add n 1) n=false:=by
   rw[cT];exact yF (by show ¬n+1≤n;omega)
  have hr':eL (Nat.add n 1) de.bytes=true:=hr;have g2':takeN (Nat.mul n de.size) (aB o all)=some cs:=g2;simp only[gr,g1,Nat.beq_refl,Bool.and_self,cond_true,e2,cond_false,hr',g2'];refine⟨_,(A.add (.cells 0 false de.size xs)).add (.cells 0 false de.size (cs++xs)),rfl,o1.same (ac.add o1.wf _),.inr ⟨_,0,rfl,by rw[AW.add_get,iP rfl],?_,om⟩,fun g hg=>?_⟩
  ·have:=(eA _ _ _ g2).2;rw[lA,this,hl,Nat.add_mul,Nat.one_mul]
  ·cases hg;rw[hnx];omega
def Nd.push:Nd→Nd→Nd
 | .mk k a s i x l,u=>.mk k a s i x (l++[u])
theorem zx(t u:Nd): (t.push u).l=t.l++[u]:=by cases t;rfl
theorem Do(t u:Nd)(kv:AV): au (t.push u) kv=[.int .i64 t.k,.int .i64 t.a,.str t.s,.int .i64 t.i,.dh .f64 t.x.1 t.x.2,kv]:=by cases t;rfl
theorem aI.cells{A:AW}{S:Nat→Prop}{t:Nd}{kv:AV}(h:aI A S t kv): cellsOf kv=some [kv]:=by
 cases h with
 | mk h1 h2 h3 h4=>rcases h1 with ⟨rfl|⟨z,rfl⟩,_,_⟩|⟨f,t,o,c,ex,ro,all,rfl,_,_⟩<;>rfl
set_option maxHeartbeats 1000000 in
theorem bf{K:FuncId}{A:AW}{S:Nat→Prop}{t u:Nd}{kv ku:AV}(hw:Wf A)(h:aI A S t kv)(hu:aI A S u ku)(hS:∀g,A.aa≤g→S g)(hl:t.l.length<9000):
 aD (ES K) 42 [.agg (au t kv),.agg (au u ku)] A fun r A1=>∃kv',r=.agg (au (t.push u) kv')∧aI A1 S (t.push u) kv'∧ac A A1 ag:=by
 obtain⟨cs,h1,h2,h3,h4⟩:∃cs,Row A 6 kv t.l.length cs∧(∀g,kv.av g→S g)∧t.l.length≤9000∧lz A S t.l cs:=by
  cases h with
  | mk h1 h2 h3 h4=>exact⟨_,h1,h2,h3,h4⟩
 refine ap rfl rfl rfl ?_;refine gO ?_;refine zB (n:=6) (y:=au t kv) hw ?_;intro A1 o1 c1;have l1:A.aa≤A.aa:=Nat.le_refl _;generalize hf1:A.aa=f1 at c1;refine zB (n:=6) (y:=au u ku) o1.wf ?_;intro A2 o2 c2;have n1:=o1.aa;have n12:f1≠A1.aa:=fun e=>by
  have:=o1.wf _ _ c1;omega
 generalize A1.aa=f2 at c2 n1 n12;have c1:=o2.k c1;have o12:=o1.same o2;refine zA (n:=6) (y:=au (nd 0 0 [] []) .aj) o2.wf ?_;intro A3 o3 c3;have n2:=o12.aa;have n13:f1≠A2.aa:=fun e=>by
  have:=o2.wf _ _ c1;omega
 have n23:f2≠A2.aa:=fun e=>by
  have:=o2.wf _ _ c2;omega
 generalize A2.aa=f3 at c3 n2 n13 n23;obtain⟨c1,c2⟩:=o3.k2 c1 c2;have o13:=o12.same o3;have hR:=h1.k o13;have c1':=c1;unfold au at c1;refine tD ?_;refine rD ?_;refine zJ hR.bm ?_;refine eR ?_;refine rD ?_;refine zJ hR.bm ?_;refine eR ?_;refine rD ?_;refine bQ (Q:=fun r=>Cut A3 6 r t.l.length cs∧dC r r=true) rfl rfl rfl rfl rfl (tK (t:=24) (d:=d24) (de:=d26) rfl rfl rfl hR) ?_;rintro r ⟨hcut,hrs⟩;refine eR ?_;refine rD ?_;refine zL c2 ?_;refine eR ?_;refine bW rfl rfl rfl rfl ?_;refine bq rfl rfl rfl ?_;refine oP ?_;refine aC ?_;refine bE rfl rfl rfl rfl rfl (od (n:=t.l.length) (de:=d26) rfl rfl rfl rfl o3.wf hcut rfl dE (tJ om dE)) ?_;rintro kv' A4 ⟨o4,hb,hfr⟩;obtain⟨c1,c3⟩:=o4.k2 c1 c3;refine sA ?_;refine aC ?_;refine bx rfl rfl hb.cells rfl rfl rfl c1 rfl ?_
 have o5:=ac.put (x:=.cells 0 false 6 [.int .i64 t.k,.int .i64 t.a,.str t.s,.int .i64 t.i,.dh .f64 t.x.1 t.x.2,kv']) o4.wf (o4.wf _ _ c1);refine bG (fun A5=>ac A4 A5 (one f1)∧A5.heap.get f1=some (.cells 0 false 6 (au (t.push u) kv'))) ⟨o5,by rw[AW.aw,if_pos rfl,Do]⟩ ?_;rintro A5 ⟨o5,c1⟩;have c3:=o5.k c3;refine sA ?_;refine eD ?_;refine zL c1 ?_;refine zS c3 ?_;have o6:=ac.put (x:=.cells 0 false 6 (au (t.push u) kv')) o5.wf (o5.wf _ _ c3);have oA:ac A (A5.put f3 (.cells 0 false 6 (au (t.push u) kv'))) ag:=ac.fresh hw (ac.fresh hw (o13.same o4) o5 nF) o6 nF;have n3:=o13.aa;have hfr':∀g,kv'.av g→g≠f1∧g≠f3:=fun g hg=>by
  have:=hfr g hg;have a1:=o13.wf _ _ c1';have a3:=o3.wf _ _ (show A3.heap.get f3=some _ from by assumption);omega
 refine gO ?_;refine zR ⟨kv',rfl,?_,oA⟩;have hb6:=(hb.row.ae o5 fun g hg e=>(hfr' g hg).1 e).ae o6 fun g hg e=>(hfr' g hg).2 e;have hlen:(t.push u).l.length=t.l.length+1:=by rw[zx,lA,lS]
 have hS':∀{v:Nd} {w:AV},aI A S v w→aI (A5.put f3 (.cells 0 false 6 (au (t.push u) kv'))) S v w:=fun k=>by
  have k1:aI A (fun g=>S g∧g<A.aa) _ _:=k.mono fun g hg ⟨F,hF⟩=>⟨hg,hw g F hF⟩;exact (k1.ae oA fun g hg h=>h).mono fun g hg _=>hg.1
 refine .mk (cs:=cs++au u ku) (by rw[hlen];exact hb6) (fun g hg=>hS g (Nat.le_trans n3 (hfr g hg))) (by rw[hlen];omega) ?_;rw[zx];refine lz.snoc (hS' hu) ?_;have k1:lz A (fun g=>S g∧g<A.aa) t.l cs:=h4.mono fun g hg ⟨F,hF⟩=>⟨hg,hw g F hF⟩;exact (k1.ae oA fun g hg h=>h).mono fun g hg _=>hg.1
theorem tM{K:FuncId}{A:AW}{S:Nat→Prop}{fp:Nat}{t u:Nd}{kv ku:AV}{a:Int}{s:Str}(hw:Wf A)(h:aI A S t kv)(hu:aI A S u ku)(hS:∀g,A.aa≤g→S g):
 aD (ES K) 45 [.ptr fp 0 0,.int .i64 a,.str s,.agg (au t kv),.agg (au u ku)] A fun r A1=>∃kv',r=.agg (au (.mk 34 a s 0 (0,0) [t,u]) kv')∧aI A1 S (.mk 34 a s 0 (0,0) [t,u]) kv'∧ac A A1 ag:=by
 refine ap rfl rfl rfl ?_;refine gO ?_;refine zB (n:=6) (y:=au t kv) hw ?_;intro A1 o1 c1;generalize hf1:A.aa=f1 at c1;refine zB (n:=6) (y:=au u ku) o1.wf ?_;intro A2 o2 c2;have n1:=o1.aa;generalize A1.aa=f2 at c2 n1;have c1:=o2.k c1;have o12:=o1.same o2;refine zA (n:=6) (y:=au (nd 0 0 [] []) .aj) o2.wf ?_;intro A3 o3 c3;have n2:=o12.aa;generalize A2.aa=f3 at c3 n2;obtain⟨c1,c2⟩:=o3.k2 c1 c2;have o13:=o12.same o3;have n3:=o13.aa;refine wL c1 ?_;refine wL c2 ?_;refine bG (fun A4=>ac A3 A4 ag∧A4.heap.get A3.aa=some (.cells 0 false 6 (au t kv++au u ku))) ⟨ac.add o3.wf _,by rw[AW.add_get,iP rfl];rfl⟩ ?_;rintro A4 ⟨o4,c4⟩;have l3:=o3.wf _ _ c3;have c3:=o4.k c3;generalize A3.aa=f4 at c4 n3 l3;refine gO ?_;refine zS c3 ?_;have o6:=ac.put (x:=.cells 0 false 6 (au (nd 34 a s [t,u]) (.slice f4 0 0 2 2 true))) o4.wf (o4.wf _ _ c3)
 have oA:ac A (A4.put f3 (.cells 0 false 6 (au (nd 34 a s [t,u]) (.slice f4 0 0 2 2 true)))) ag:=ac.fresh hw (o13.same o4) o6 nF;refine gO ?_;refine zR ⟨_,rfl,?_,oA⟩;have hS':∀{v:Nd} {w:AV},aI A S v w→aI (A4.put f3 (.cells 0 false 6 (au (nd 34 a s [t,u]) (.slice f4 0 0 2 2 true)))) S v w:=fun k=>by
  have k1:aI A (fun g=>S g∧g<A.aa) _ _:=k.mono fun g hg ⟨F,hF⟩=>⟨hg,hw g F hF⟩;exact (k1.ae oA fun g hg h=>h).mono fun g hg _=>hg.1
 have c4:=o6.k c4;refine .mk (cs:=au t kv++(au u ku++[])) (.inr ⟨f4,0,0,2,true,false,au t kv++au u ku,rfl,c4,Nat.le_refl _,rfl⟩) (fun g hg=>hS g (by cases hg;omega)) dE (.cons (hS' h) (.cons (hS' hu) .nil))
theorem uA{K:FuncId}{A:AW}{fp:Nat}{lv:AV}{L:List Tk}{p:Nat}{dp:Int}{b:Bool}(hw:Wf A)(h:PS A fp lv L p dp b):
 aD (ES K) 116 [.ptr fp 0 0] A fun r A1=>∃x,r=.bool x∧(x=true→b=false∧(cur L p).k≠6)∧ac A A1 ag:=by
 refine ap rfl rfl rfl ?_;refine wC (cJ hw h) ?_;rintro r A1 ⟨rfl,o1⟩;have h1:=h.quiet o1;have hi:∀s,np b (cur L p) s→b=false∧(cur L p).k≠6:=fun s hs=>⟨hs.1,fun e=>by
  have:=hs.2.1;omega⟩
 refine gO ?_;refine zM (n:=5) (y:=fT (cur L p)) o1.wf ?_;intro A2 o2 h2;generalize A1.aa=f2 at h2;have o12:=o1.same o2;have h1:=h.quiet o12;unfold fT at h2;refine wC (cj o12.wf h1) ?_;rintro r A3 ⟨rfl,o3⟩;have o13:=o12.same o3;have h2:=o3.k h2;have h1:=h.quiet o13;refine gO ?_;by_cases i1:np b (cur L p) [105,110,116]
 ·refine wT 8 i1 ?_;refine gO ?_;exact af rfl ⟨true,rfl,fun _=>hi _ i1,o13⟩
 refine wF 8 i1 ?_;refine wC (cj o13.wf h1) ?_;rintro r A4 ⟨rfl,o4⟩;have o14:=o13.same o4;have h2:=o4.k h2;have h1:=h.quiet o14;refine gO ?_;by_cases i2:np b (cur L p) [99,112,120]
 ·refine wT 12 i2 ?_;refine gO ?_;exact af rfl ⟨true,rfl,fun _=>hi _ i2,o14⟩
 refine wF 12 i2 ?_;refine wC (cj o14.wf h1) ?_;rintro r A5 ⟨rfl,o5⟩;have o15:=o14.same o5;have h2:=o5.k h2;have h1:=h.quiet o15;have hc:=h1.cell;refine gO ?_;by_cases i3:np b (cur L p) [105,110,116,115]
 ·refine wT 16 i3 ?_;refine gO ?_;exact af rfl ⟨true,rfl,fun _=>hi _ i3,o15⟩
 refine wF 16 i3 ?_;refine gO ?_;cases b with
 | true=>
  refine gO ?_;exact af rfl ⟨false,rfl,(fun h=>by cases h),o15⟩
 | false=>
  refine gO ?_;exact af rfl ⟨decide ((cur L p).k=1),rfl,fun hk=>⟨rfl,by have:=of_decide_eq_true hk;omega⟩,o15⟩
theorem ph{K:FuncId}{A:AW}{fp:Nat}{lv:AV}{L:List Tk}{p:Nat}{dp:Int}{b vo:Bool}(hw:Wf A)(h:PS A fp lv L p dp b):
 aD (ES K) 97 [.ptr fp 0 0,.bool vo] A fun r A1=>∃t q b1,r=.agg (au t .aj)∧t.l=[]∧small t.s∧PT A A1 fp lv L p dp b q b1∧(b1=false→p<q):=by
 refine ap rfl rfl rfl ?_;have hlen:=h.ok.len;refine gO ?_;refine aq rfl rfl rfl ?_;refine bG (fun A1=>ac A A1 ag∧A1.heap.get A.aa=some (.cells 0 false 6 (au (nd 0 0 [] []) .aj))) ⟨ac.add hw _,by rw[AW.add_get,iP rfl];rfl⟩ ?_;rintro A1 ⟨o1,c1⟩;have n1:=(h.fg hw).1;have nf1:A.aa≠fp:=om;generalize hf1:A.aa=f1 at c1 nf1;have h1:=h.quiet o1;refine gO ?_;refine cY rfl rfl bF rfl (cJ o1.wf h1) ?_;rintro r A2 ⟨rfl,o2⟩;have c1:=o2.k c1;have o12:=o1.same o2;refine gO ?_;refine zM (n:=5) (y:=fT (cur L p)) o2.wf ?_;intro A3 o3 c2;have n2:=o12.aa;have nf2:A2.aa≠fp:=om;have nf12:A2.aa≠f1:=fun e=>by
  have:=o2.wf _ _ c1;omega
 generalize A2.aa=f2 at c2 nf2 nf12;have c1:=o3.k c1;have o13:=o12.same o3;have h1:=h.quiet o13;unfold fT at c2;have hi:∀s,np b (cur L p) s→b=false∧(cur L p).k≠6:=fun s hs=>⟨hs.1,fun e=>by
  have:=hs.2.1;omega⟩
 refine oP ?_;refine sQ ?_;refine ce (fun l1 A5=>∃y,(pp 0 fp (pp 4 f1 (pp 5 f2 (pb 18 y .nil)))).le l1∧(y=false→b=false∧(cur L p).k≠6)∧ac A3 A5 ag) ?_ ?_
 ·intro k' hk';refine wC (uA o13.wf h1) ?_;rintro r A4 ⟨x,rfl,hx,o4⟩;have h1:=h1.quiet o4;cases x with
  | true=>
   refine gO ?_;exact hk' _ _ ⟨false,⟨rfl,rfl,rfl,rfl,trivial⟩,fun _=>hx rfl,o4⟩
  | false=>
   refine gO ?_;cases vo with
   | false=>
    refine gO ?_;exact hk' _ _ ⟨true,⟨rfl,rfl,rfl,rfl,trivial⟩,(fun h=>by cases h),o4⟩
   | true=>
    refine wC (cj o4.wf h1) ?_;rintro r A5 ⟨rfl,o5⟩;refine gO ?_;exact hk' _ _ ⟨!decide (np b (cur L p) [118,111,105,100]),⟨rfl,rfl,rfl,rfl,trivial⟩,fun h=>hi [118,111,105,100] (by simpa using h),o4.same o5⟩
 rintro l1 A5 ⟨y,hle,hy,o5⟩;refine bY _ ?_ hle;have h1:=h1.quiet o5;obtain⟨c1,c2⟩:=o5.k2 c1 c2;have o15:=o13.same o5;refine ce (fun l1 A6=>∃b1,(pp 0 fp (pp 4 f1 (pp 5 f2 .nil))).le l1∧(b1=false→b=false∧(cur L p).k≠6)∧PT A5 A6 fp lv L p dp b p b1) ?_ ?_
 ·intro k' hk';cases y with
  | true=>
   refine rU ?_;refine zC rfl (iq o5.wf h1) ?_;rintro r A6 ⟨rfl,t6⟩;refine gO ?_;exact hk' _ _ ⟨true,⟨rfl,rfl,rfl,trivial⟩,fun h=>(by cases h),t6⟩
  | false=>
   refine rU ?_;exact hk' _ _ ⟨b,⟨rfl,rfl,rfl,trivial⟩,fun _=>hy rfl,PT.refl o5.wf h1⟩
 rintro l2 A6 ⟨b1,hle2,hb1,t6⟩;refine bY _ ?_ hle2;obtain⟨c1,c2⟩:=t6.Fi.k2 c1 c2;have hc:=t6.ps.cell;refine gO ?_;refine fh rfl (fun hb=>?_) fun hb=>?_
 ·subst hb;refine gO ?_;refine zS c1 ?_;have o7:=ac.put (x:=.cells 0 false 6 (au (nd 0 0 [] []) .aj)) t6.Fi.wf (t6.Fi.wf _ _ c1);refine gO ?_;exact zR ⟨.mk 0 0 [] 0 (0,0) [],p,true,rfl,rfl,(fun b hb=>absurd hb (List.not_mem_nil)),(PT.after o15 t6).fresh hw h o7 nF,fun h=>by cases h⟩
 ·subst hb;have hn:=t6.ps.next (hb1 rfl).2;refine wP ?_;refine zS hc ?_;refine bG (fun A7=>PT A6 A7 fp lv L p dp false (p+1) false) (PT.put t6.Fi.wf t6.ps (q:=p+1) hn (Nat.le_succ _) fun h=>h) ?_;intro A7 t7;obtain⟨c1,c2⟩:=t7.Fi.k2 c1 c2;refine gO ?_;refine zS c1 ?_;have o8:=ac.put (x:=.cells 0 false 6 (au (nd 6 (cur L p).a (cur L p).s []) .aj)) t7.Fi.wf (t7.Fi.wf _ _ c1);refine gO ?_;exact zR ⟨.mk 6 (cur L p).a (cur L p).s 0 (0,0) [],p+1,false,rfl,rfl,h.ok.sm p h.lt,((PT.after o15 t6).trans t7).fresh hw h o8 nF,fun _=>Nat.lt_succ_self _⟩
end Go.Proofs.YtafamggbkobcfaaGreat.Ae
