/- A part of the proof of the statement CheckTypes. -/
import Derived.Test.YtafamggbkobcfaaGreatAiSyR18
import Derived.Test.YtafamggbkobcfaaGreatAiSyP18
namespace Go.Proofs.YtafamggbkobcfaaGreat.Ae
open Go.AE
set_option linter.unusedVariables false
set_option maxRecDepth 100000
theorem tySame{K:FuncId}{A:AW}{x:bM}:kj (ES K) .eql 30 (tv x) (tv x) A=.val (.bool true) A:=by
 obtain⟨a,s⟩:=x;have h:fY Tryz.prog (do Go.eqGuard .eql 30 (.tmp 0) (.tmp 0) (.agg #[.int .i64 a,.string (jR s)]) (.agg #[.int .i64 a,.string (jR s)]);Go.binOp .eql 30 (.agg #[.int .i64 a,.string (jR s)]) (.agg #[.int .i64 a,.string (jR s)]))=some (.bool true):=by
  rw[dJ,show fY Tryz.prog (Go.eqGuard .eql 30 (.tmp 0) (.tmp 0) (.agg #[.int .i64 a,.string (jR s)]) (.agg #[.int .i64 a,.string (jR s)]))=some () from by kernel_rfl];dsimp only [Option.bind_some];show fY Tryz.prog (do pure (Value.bool (←Go.Op.equalIn (9998+2) 30 (.agg #[.int .i64 a,.string (jR s)]) (.agg #[.int .i64 a,.string (jR s)]))))=_;rw[dJ,eqTy,show (jR s == jR s)=true from by rw[tH];exact beq_self_eq_true _,beq_self_eq_true];rfl
 show quiet (ES K) (do Go.eqGuard .eql 30 (.tmp 0) (.tmp 0) (.agg #[.int .i64 a,.string (jR s)]) (.agg #[.int .i64 a,.string (jR s)]);Go.binOp .eql 30 (.agg #[.int .i64 a,.string (jR s)]) (.agg #[.int .i64 a,.string (jR s)])) A=_;exact tI _ _ _ h rfl
section
variable{K:FuncId}{C:bC}{all rest:List Oper}{l:Kn}{A:AW}{Q:Kn→AW→Prop}{d:Tmp}{ty:TypeId}{pos:String}{after:Array Edge}
theorem mS{t':TypeId}{x y:Operand}{a:bM}(hd:Nat.blt d C.N=true)(hx:dw l x=some (tv a))(hy:dw l y=some (tv a))
 (h:WO (ES K) C all rest (.put d (.bool true) l) A Q) : WO (ES K) C all (⟨some d,.binOp .eql 30 x y t',ty,pos,after,none⟩::rest) l A Q:=by
 refine bR hd (fun F hF=>?_) h;show ao (kj (ES K) .eql 30 (ev F x) (ev F y) A)=_;rw[hF.ev hx,hF.ev hy,tySame];rfl
end
theorem Ai.mono{cs:List Nd}{n k:Nat}(h:Ai cs n)(hk:n≤k): Ai cs k:=⟨h.two,h.Cv,h.cls,h.sup,h.mem,h.sm,fun c hc m hm h4=>by
 obtain⟨u,h1,h2,h3⟩:=h.wU c hc m hm h4;exact⟨u,h1,h2,om⟩⟩
theorem Cu{cs:List Nd}{c m:Str}{d mm:Nd}{p:Nat}(hc:bp cs c=some d)(hp:0<p)(hm:d.l[p]?=some mm)(h4:mm.k=4)(hs:mm.s=m)
 (nm:∀(i:Nat) (x:Nd),(d.l.drop 1)[i]?=some x→((d.l.drop 1).take i).find? (fun o=>decide (o.s=x.s))=none) : Ae.own cs c m 4=some mm:=by
 unfold Ae.own;rw[hc];show (d.l.drop 1).find? (fun x=>decide (x.s=m∧x.k=4))=some mm;have hm':(d.l.drop 1)[p-1]?=some mm:=by
  rw[List.getElem?_drop,show 1+(p-1)=p from by omega];exact hm
 generalize d.l.drop 1=ms at hm' nm;generalize p-1=i at hm';have hi:=(List.getElem?_eq_some_iff.1 hm').1;have hx:ms[i]=mm:=by
  rw[gE hi] at hm';exact Option.some.inj hm'
 have e:ms=ms.take i++mm::ms.drop (i+1):=by
  rw[←hx,←List.drop_eq_getElem_cons hi,List.take_append_drop]
 have hn:=nm i mm hm';rw[e,List.find?_append,List.find?_eq_none.2 (fun o ho=>?_),List.find?_cons,yT ⟨hs,h4⟩]
 ·rfl
 ·rw[List.find?_eq_none] at hn;have:=hn o ho;intro h;have h:=of_decide_eq_true h;exact this (yT (h.1.trans hs.symm))
theorem Ed{cs:List Nd}{c m:Str}{d:Nd}(hc:bp cs c=some d)(h:∀(j:Nat) (x:Nd),1≤j→d.l[j]?=some x→¬(x.k=4∧x.s=m)): Ae.own cs c m 4=none:=by
 unfold Ae.own;rw[hc];show (d.l.drop 1).find? (fun x=>decide (x.s=m∧x.k=4))=none;rw[List.find?_eq_none];intro x hx k;obtain⟨i,hi⟩:=List.getElem?_of_mem hx;rw[List.getElem?_drop] at hi;have k:=of_decide_eq_true k;exact h (1+i) x om hi ⟨k.2,k.1⟩
set_option maxHeartbeats 8000000 in
theorem qY{A:AW}{s c m e:Str}(hw:Wf A)(hs:small s)(he:small e):
 aD (ES 4) 3 [.str s,.str c,.str m,.str e] A fun r A1=>r=.bool true:=by
 refine ap rfl rfl rfl ?_;refine gO ?_;refine wo_orc rfl rfl rfl rfl ?_;refine rU ?_;by_cases q1:(4000:Int)<(s.length:Int)
 ·refine wT 28 q1 ?_;refine rU ?_;exact af rfl rfl
 refine wF 28 q1 ?_;refine gO ?_;by_cases q2:(60:Int)<(c.length:Int)
 ·refine wT 33 q2 ?_;refine rU ?_;exact af rfl rfl
 refine wF 33 q2 ?_;refine gO ?_;by_cases q3:(60:Int)<(m.length:Int)
 ·refine wT 38 q3 ?_;refine rU ?_;exact af rfl rfl
 refine wF 38 q3 ?_;refine wD (fun q4=>?_) fun q4=>?_
 ·refine rU ?_;exact af rfl rfl
 refine wC (qO hw hs om) ?_;rintro r45 A1 ⟨o1,t,kv,a1,e1,rfl,h1⟩;refine gO ?_;refine zM (n:=6) (y:=au t kv) o1.wf ?_;intro A2 o2 c9;have l9:=o2.wf _ _ c9;generalize A1.aa=f9 at c9 l9;refine wC (wq o2.wf he om) ?_;rintro r51 A3 ⟨o3,x,kx,a2,e2,rfl,h2⟩;replace c9:=o3.k c9;refine gO ?_;refine aq rfl rfl rfl ?_;refine bx rfl rfl rfl rfl rfl rfl (by rw[AW.add_get,iP rfl]) rfl ?_;refine bG (fun A4=>ac A3 A4 ag∧A4.heap.get A3.aa=some (.cells 0 false 6 (au x kx))) ⟨made o3.wf,by rw[AW.aw,iP rfl];rfl⟩ ?_;rintro A4 ⟨o4,c12⟩;have l12:=o4.wf _ _ c12;generalize A3.aa=f12 at c12 l12;replace c9:=o4.k c9;refine gO ?_;by_cases z1:e1=0;rotate_left
 ·refine wT 57 z1 ?_;refine rU ?_;exact af rfl rfl
 refine aF 57 false rfl (yF fun h=>h z1) ?_;refine wD (fun z2=>?_) fun z2=>?_
 ·refine rU ?_;exact af rfl rfl
 have z2:e2=0:=Decidable.not_not.1 z2;obtain⟨N,hPr⟩:=h1 z1;obtain⟨Nx,hEx⟩:=h2 z2;clear h1 h2;have N4:aI A4 (fun g=>g<A4.aa) t kv:=(((N.ae o2 fun _ _ h=>h).ae o3 fun _ _ h=>h).ae o4 fun _ _ h=>h).mono fun g _ ⟨F,hF⟩=>o4.wf g F hF;have X4:aI A4 (fun g=>g<A4.aa) x kx:=(Nx.ae o4 fun _ _ h=>h).mono fun g _ ⟨F,hF⟩=>o4.wf g F hF;clear N Nx;obtain⟨n,hn1,hn2⟩:∃n,sz t≤n∧sz x≤n:=⟨sz t+sz x,Nat.le_add_right _ _,Nat.le_add_left _ _⟩;have hok:=(pr_ok hPr).mono hn1;have h34:=pr_34 hPr;obtain⟨z,hz⟩:∃z:Option bM,(¬iv t.l n→z=none)∧(iv t.l n→z=match Ae.own t.l c m 4 with
  | none=>none
  | some k=>cW ⟨t.l,cI t.l,c,cL k⟩ n x):=by
  by_cases hp:iv t.l n
  ·exact⟨_,fun h=>absurd hp h,fun _=>rfl⟩
  ·exact⟨none,fun _=>rfl,fun h=>absurd h hp⟩
 refine wL c9 ?_;refine wL c12 ?_;refine zC rfl (yp (n:=n) (z:=z) o4.wf N4 X4 hok ⟨hEx,hn2⟩ hz) ?_;rintro r66 A5 ⟨o5,hr⟩;have hy:∃(y:bM) (cd:Int),r66=.tuple [.agg (bc y),.int .i64 cd]∧match (generalizing:=false) z with
  | none=>y=(0,[])∧cd=200
  | some w=>y=w∧cd=0:=by
  cases z with
  | none=>exact⟨_,_,hr,rfl,rfl⟩
  | some w=>exact⟨_,_,hr,rfl,rfl⟩
 obtain⟨y,cd,rfl,hy⟩:=hy;clear hr;obtain⟨c9,c12⟩:=o5.k2 c9 c12;refine gO ?_;refine zM (n:=2) (y:=bc y) o5.wf ?_;intro A6 o6 c15;have l15:=o6.wf _ _ c15;generalize A5.aa=f15 at c15 l15;obtain⟨c9,c12⟩:=o6.k2 c9 c12;have l12':=o6.wf _ _ c12;have N6:aI A6 (fun g=>g<A6.aa) t kv:=((N4.ae o5 fun _ _ h=>h).ae o6 fun _ _ h=>h).mono fun g _ ⟨F,hF⟩=>o6.wf g F hF;have X6:aI A6 (fun g=>g<A6.aa) x kx:=((X4.ae o5 fun _ _ h=>h).ae o6 fun _ _ h=>h).mono fun g _ ⟨F,hF⟩=>o6.wf g F hF;clear N4 X4;refine wL c9 ?_;refine zC rfl (uC (n:=n) o6.wf N6 hok h34) ?_;rintro r70 A7 ⟨o7,dc,rfl,hdc,hr⟩;have hq:∃b hv more,RC A7 dc t kv hv b more∧(b=true→¬iv t.l n)∧(b=false→iv t.l n∧∃Y:DY,Y.X.M=A6.aa∧Y.X.dc=dc∧Y.X.t=t∧Y.X.kv=kv∧Y.X.hs=cI t.l∧DC A7 Y false):=by
  rcases hr with ⟨g1,hv,more,g2⟩|⟨g1,Y,g2,g3,g4,g5,g6,D⟩
  ·exact⟨true,hv,more,g2,fun _=>g1,fun h=>(by cases h)⟩
  ·exact⟨false,.ptr Y.X.fr 0 0,Y.more,by rw[←g3,←g4,←g5];exact D.cell,fun h=>(by cases h),fun _=>⟨g1,Y,g2,g3,g4,g5,g6,D⟩⟩
 clear hr;obtain⟨b,hv,more,hRC,hbt,hbf⟩:=hq;have m7:=o7.aa;have hld:=hRC.lt o7.wf;obtain⟨c12,c15⟩:=o7.k2 c12 c15;have N7:aI A7 (fun g=>g<A6.aa) t kv:=N6.ae o7 fun _ _ h=>h;have X7:aI A7 (fun g=>g<A6.aa) x kx:=X6.ae o7 fun _ _ h=>h;clear N6 X6 c9;refine wC (kh o7.wf hRC N7 fun g hg=>Nat.lt_of_lt_of_le hg m7) ?_;rintro r74 A8 ⟨o8,hr⟩;have hu:∃cl kc ok,r74=.tuple [.agg (au cl kc),.bool ok]∧match bp t.l c with
  | none=>ok=false
  | some d=>ok=true∧d=cl∧aI A8 (fun g=>g<A6.aa) cl kc:=by
  cases hcl:bp t.l c with
  | none=>
   rw[hcl] at hr;exact⟨_,_,_,hr,rfl⟩
  | some d=>
   rw[hcl] at hr;obtain⟨kc,g1,g2⟩:=hr;exact⟨_,_,_,g1,rfl,rfl,g2⟩
 obtain⟨cl,kc,ok,rfl,hcl⟩:=hu;clear hr;refine gO ?_;refine zM (n:=6) (y:=au cl kc) o8.wf ?_;intro A9 o9 c18;obtain⟨f18,hf18⟩:∃f18,A8.aa=f18:=⟨_,rfl⟩;rw[hf18] at c18;rw[hf18];have o79:ac A7 A9 ag:=o8.same o9;replace hRC:=hRC.quiet o79;obtain⟨c12,c15⟩:=o79.k2 c12 c15;have X9:aI A9 (fun g=>g<A6.aa) x kx:=X7.ae o79 fun _ _ h=>h;clear N7 X7;have hcl:match bp t.l c with
  | none=>ok=false
  | some d=>ok=true∧d=cl∧aI A9 (fun g=>g<A6.aa) cl kc:=by
  cases hc':bp t.l c with
  | none=>
   rw[hc'] at hcl;exact hcl
  | some d=>
   rw[hc'] at hcl;exact⟨hcl.1,hcl.2.1,hcl.2.2.ae o9 fun _ _ h=>h⟩
 refine oP ?_;refine sQ ?_;refine ik ?_;refine oP ?_;refine sQ ?_;refine ik ?_;refine oP ?_;refine sQ ?_;refine ce (fun l1 B=>∃a:Int,(pv 1 (.str c) (pp 12 f12 (pp 15 f15 (pz 16 cd (pp 17 dc (pp 18 f18 (pz 20 a .nil)))))) : Kn).le l1∧B=A9∧((a = -1∧Ae.own t.l c m 4=none)∨∃(p:Nat) (mm d:Nd),a=(p:Int)∧bp t.l c=some d∧d=cl∧0<p∧cl.l[p]?=some mm∧mm.k=4∧mm.s=m)) ?_ ?_
 ·intro k' hk';cases hc':bp t.l c with
  | none=>
   rw[hc'] at hcl;have hcl:ok=false:=hcl;subst hcl;refine ma ?_;refine aE ?_;refine rU ?_;refine ay rfl ?_;refine sQ ?_;refine hk' _ _ ⟨-1,⟨rfl,rfl,rfl,rfl,rfl,rfl,rfl,trivial⟩,rfl,.inl ⟨rfl,?_⟩⟩;unfold Ae.own;rw[hc']
  | some d=>
   rw[hc'] at hcl;obtain⟨rfl,rfl,Nc⟩:=hcl;have hlc:bm kc=some d.l.length:=Nc.bm;have hl9:d.l.length≤9000:=Nc.len;refine ma ?_;refine aE ?_;refine yL (pv 1 (.str c) (pv 2 (.str m) (pp 12 f12 (pp 15 f15 (pz 16 cd (pp 17 dc (pp 18 f18 (pb 19 true (pz 20 (-1) (pn 21 (1:Nat) .nil)))))))))) ?_;refine aV (ι:=Nat×Int) (fun i=>d.l.length-i.1) (fun i=>(pv 1 (.str c) (pv 2 (.str m) (pp 12 f12 (pp 15 f15 (pz 16 cd (pp 17 dc (pp 18 f18 (pb 19 true (pz 20 i.2 (pn 21 i.1 .nil)))))))))))
    (fun i B=>B=A9∧1≤i.1∧((i.2 = -1∧∀(j:Nat) (mm:Nd),1≤j→j<i.1→d.l[j]?=some mm→¬(mm.k=4∧mm.s=m))∨∃(p:Nat) (mm:Nd),i.2=(p:Int)∧0<p∧d.l[p]?=some mm∧mm.k=4∧mm.s=m)) ?_ (1,-1) A9 ⟨rfl,Nat.le_refl _,.inl ⟨rfl,fun j mm h1 h2=>absurd h2 (by show ¬j<1;omega)⟩⟩
   rintro ⟨i,a⟩ B ⟨eB,hi,hp⟩ ih;obtain rfl:A9=B:=eB.symm;replace hi:1≤i:=hi;replace hp:(a = -1∧∀(j:Nat) (mm:Nd),1≤j→j<i→d.l[j]?=some mm→¬(mm.k=4∧mm.s=m))∨∃(p:Nat) (mm:Nd),a=(p:Int)∧0<p∧d.l[p]?=some mm∧mm.k=4∧mm.s=m:=hp;refine gO ?_;refine aF 78 true rfl rfl ?_;refine gO ?_
   try refine aM rfl ?_
   refine wJ hlc ?_;refine zG (fun hlt=>?_) fun hge=>?_
   ·have hlt:i<d.l.length:=Int.ofNat_lt.1 hlt;have hu:d.l[i]?=some d.l[i]:=gE hlt;generalize d.l[i]=u at hu;obtain⟨f,s',o,cc,ex,ro,all,ku,hvu,hsu,hh,hl,Nu,cw⟩:=bv Nc hu;have htx:=aR ((cw 1 2 dE).trans rfl);have htk:=aR ((cw 1 0 dE).trans rfl);refine wI hvu hl ?_;refine aZ rfl rfl rfl rfl hh (v:=.int .i64 u.k) htk ?_;refine oP ?_;refine dU 9 (pv 1 (.str c) (pv 2 (.str m) (pp 12 f12 (pp 15 f15 (pz 16 cd (pp 17 dc (pp 18 f18 (pb 19 true (pz 20 a (pn 21 i (pb 103 (decide (u.k=4∧u.s=m)) .nil))))))))))) ?_ ?_
    ·by_cases h4:u.k=4
     ·refine wT 94 h4 ?_;refine oP ?_
      try refine aM rfl ?_
      refine wI hvu hl ?_
      try refine aM rfl ?_
      refine aZ rfl rfl rfl rfl hh (v:=.str u.s) htx ?_;refine oP ?_;exact⟨rfl,rfl,rfl,rfl,rfl,rfl,rfl,rfl,rfl,rfl,rfl,congrArg (fun x=>some (AV.bool x)) (decide_eq_decide.2 ⟨fun k=>⟨h4,k⟩,fun k=>k.2⟩),trivial⟩
     ·refine wF 94 h4 ?_;refine oP ?_;exact⟨rfl,rfl,rfl,rfl,rfl,rfl,rfl,rfl,rfl,rfl,rfl,congrArg (fun x=>some (AV.bool x)) (yF fun k=>h4 k.1).symm,trivial⟩
    refine wD (fun hP=>?_) fun hP=>?_
    ·refine wP ?_;refine ai ?_;refine yL (pv 1 (.str c) (pv 2 (.str m) (pp 12 f12 (pp 15 f15 (pz 16 cd (pp 17 dc (pp 18 f18 (pb 19 true (pn 20 i (pn 21 (i+1:Nat) .nil)))))))))) ?_;exact ih (i+1,(i:Int)) A9 (by simp only;omega) ⟨rfl,by show 1≤i+1;omega,.inr ⟨i,u,rfl,om,hu,hP.1,hP.2⟩⟩
    ·refine wP ?_;refine ai ?_;refine yL (pv 1 (.str c) (pv 2 (.str m) (pp 12 f12 (pp 15 f15 (pz 16 cd (pp 17 dc (pp 18 f18 (pb 19 true (pz 20 a (pn 21 (i+1:Nat) .nil)))))))))) ?_;refine ih (i+1,a) A9 (by simp only;omega) ⟨rfl,by show 1≤i+1;omega,hp.imp (fun h=>⟨h.1,fun j mm h1 h2 h3=>?_⟩) fun h=>h⟩;by_cases e:j=i
     ·subst e;rw[hu] at h3;cases h3;exact hP
     ·exact h.2 j mm h1 (by have h2:j<i+1:=h2;omega) h3
   ·refine ay rfl ?_;refine sQ ?_;refine hk' _ _ ⟨a,⟨rfl,rfl,rfl,rfl,rfl,rfl,rfl,trivial⟩,rfl,?_⟩;rcases hp with ⟨rfl,hp⟩|⟨p,mm,rfl,h1,h2,h3,h4⟩
    ·refine .inl ⟨rfl,Ed hc' fun j x h1 h2=>hp j x h1 ?_ h2⟩;have:=(List.getElem?_eq_some_iff.1 h2).1;omega
    ·exact .inr ⟨p,mm,d,rfl,hc',rfl,h1,h2,h3,h4⟩
 rintro l1 B ⟨a,hl,eB,cw⟩;obtain rfl:A9=B:=eB.symm;refine bY (pv 1 (.str c) (pp 12 f12 (pp 15 f15 (pz 16 cd (pp 17 dc (pp 18 f18 (pz 20 a .nil))))))) ?_ hl;clear hl;obtain⟨a0,hc⟩:=hRC;refine gO ?_;cases b with
 | true=>
  have ez:=hz.1 (hbt rfl);rw[ez] at hy;obtain⟨rfl,rfl⟩:=hy;refine aF 109 true rfl rfl ?_;refine rU ?_;refine wT 115 rfl ?_;refine oP ?_
  try refine aM rfl ?_
  refine wL c15 ?_
  try refine aM rfl ?_
  refine mS (a:=(0,[])) rfl rfl rfl ?_;refine oP ?_;refine rU ?_;exact af rfl rfl
 | false=>
  obtain⟨hPO,Y,eM,rfl,rfl,rfl,eh,D⟩:=hbf rfl;have ez:=hz.2 hPO;refine aF 109 false rfl rfl ?_;refine gO ?_;rcases cw with ⟨rfl,hno⟩|⟨p,mm,d,rfl,hcd,rfl,hp0,hmm,hk4,hms⟩
  ·rw[hno] at ez;have ez:z=none:=ez;rw[ez] at hy;obtain⟨rfl,rfl⟩:=hy;refine cD rfl (fun _=>?_) fun h=>absurd dE h;refine gO ?_;refine wT 115 rfl ?_;refine oP ?_
   try refine aM rfl ?_
   refine wL c15 ?_
   try refine aM rfl ?_
   refine mS (a:=(0,[])) rfl rfl rfl ?_;refine oP ?_;refine rU ?_;exact af rfl rfl
  refine zG (fun h=>?_) fun _=>?_
  ·omega
  have hdm:=jP hcd;rw[hcd] at hcl;obtain⟨_,_,Nc⟩:=hcl;have hmd:mm∈d.l.drop 1:=mG (i:=p-1) (by
   rw[List.getElem?_drop,show 1+(p-1)=p from by omega];exact hmm)
  obtain⟨di,hdi,hdx⟩:=List.getElem_of_mem hdm.1;have hMO:=hPO.Cq di d (by rw[gE hdi,hdx]);have hown:=Cu hcd hp0 hmm hk4 hms fun i x hx=>(hMO i x hx).nm;rw[hown] at ez;have ez:z=cW ⟨Y.X.t.l,cI Y.X.t.l,c,cL mm⟩ n x:=ez;have hmo:=(hok.mem d hdm.1 mm hmd).2 hk4;have hcn:=hok.cls d hdm.1;rw[hdm.2] at hcn;have D9:DC A9 Y false:=D.quiet o79;obtain⟨f,s',o,cc,ex,ro,all,km,hvm,hsm,hh,hl,Nm,hatm⟩:=bv Nc hmm;refine wI hvm hl ?_;refine zK hh ((hatm 6 0 (Nat.le_refl _)).trans rfl) ?_;refine oP ?_;obtain⟨pj,hpj⟩:∃j,(d.l.drop 1)[j]?=some mm:=List.getElem?_of_mem hmd;refine zC rfl (yw (b:=false) o79.wf D9 (by rw[eM];exact Nm) hmo hcn fun _=>mP ((hMO pj mm hpj).par hk4)) ?_;rintro r127 B1 ⟨t1,vv,D1,_⟩;replace c12:=t1.k c12;replace c15:=t1.ae _ _ c15 fun e=>by have e:f15=Y.X.dc:=e;have:=o6.aa;omega
  have X10:aI B1 (fun g=>g<Y.X.M) x kx:=by
   rw[eM];exact X9.ae t1 fun g hg e=>by have e:g=Y.X.dc:=e;omega
  refine wL c12 ?_;have hE:=cq (K:=4) n t1.wf D1 X10 hEx hn2;refine zC rfl hE ?_;rintro r130 B2 ⟨y2,b2,rfl,t2,z2⟩;have z2:=z2 rfl;have ecx:(⟨Y.X,c,mm,km,vv,(cL mm).map un,0⟩:DY).cx=⟨Y.X.t.l,cI Y.X.t.l,c,cL mm⟩:=by
   unfold DY.cx DY.vars;rw[←eh]
   congr 1
   exact Bn _
  rw[ecx,←ez] at z2;replace c15:=t2.Fi.ae _ _ c15 fun e=>by have e:f15=Y.X.dc:=e;have:=o6.aa;omega
  refine gO ?_;refine zM (n:=2) (y:=bc y2) t2.Fi.wf ?_;intro B3 o11 c22;generalize B2.aa=f22 at c22;replace c15:=o11.k c15;obtain⟨a9,hc9⟩:=t2.ps.cell;replace hc9:=o11.k hc9;clear hc;refine gO ?_;cases hzz:z with
  | none=>
   rw[hzz] at z2 hy;have z2:b2=true:=z2;subst z2;obtain⟨rfl,rfl⟩:=hy;refine rU ?_;refine wT 137 rfl ?_;refine oP ?_
   try refine aM rfl ?_
   refine wL c15 ?_
   try refine aM rfl ?_
   refine mS (a:=(0,[])) rfl rfl rfl ?_;refine oP ?_;refine rU ?_;exact af rfl rfl
  | some w=>
   rw[hzz] at z2 hy;obtain⟨rfl,rfl⟩:b2=false∧y2=w:=z2;obtain⟨rfl,rfl⟩:=hy;refine rU ?_;refine wT 144 rfl ?_;refine oP ?_
   try refine aM rfl ?_
   refine wL c15 ?_
   try refine aM rfl ?_
   refine wL c22 ?_
   try refine aM rfl ?_
   refine mS (a:=y) rfl rfl rfl ?_;refine oP ?_;refine rU ?_;exact af rfl rfl
end Go.Proofs.YtafamggbkobcfaaGreat.Ae
namespace Go.Proofs.YtafamggbkobcfaaGreat.Ae
open Go.AE Go.ChangeShapes Go.RowKit
set_option linter.unusedVariables false
set_option maxRecDepth 100000
instance rho0:bu:=⟨fun _=>0,fun _=>false,fun _=>[],fun _=>Nat.zero_le _⟩
def bs(s:ByteArray): Str:=s.data.toList.map UInt8.toNat
theorem yx(s:ByteArray): small (bs s):=fun b hb=>by
 obtain⟨c,_,rfl⟩:=List.mem_map.1 hb;exact c.toNat_lt
theorem checkTypes(a b c d:ByteArray)(_:a.size≤140737488351232)(_:b.size≤140737488351232)(_:c.size≤140737488351232)(_:d.size≤140737488351232)(W:World):
 Calls Tryz.prog 3 #[.string a,.string b,.string c,.string d] W fun e W'=>e=.returned (.bool true)∧Below W.heap.size W W':=by
 have h1:=xG W.heap.size W (Nat.le_refl _);exact topP (ES_ok Dg) (qY (s:=bs a) (c:=bs b) (m:=bs c) (e:=bs d) h1.lt (yx a) (yx d)) (fun _ _ h=>h) (fun f F hF=>by simp [Tr.get] at hF) h1
  (.cons (.str _) (.cons (.str _) (.cons (.str _) (.cons (.str _) (.nil _)))))
end Go.Proofs.YtafamggbkobcfaaGreat.Ae
