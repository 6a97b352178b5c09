/- A part of the proof of the statement CheckTypes. -/
import Derived.Test.YtafamggbkobcfaaGreatAiGo
namespace Go.AE
set_option linter.unusedVariables false
set_option linter.unusedSimpArgs false
variable[bu]
def kW(E:Env)(μ:Mp)(w:World)(s:Sem Value)(mk:Nat→AV)(F:eI): Prop:=
 ∃cv w1 p,s.run E.P w=.ok cv w1∧(∀g,aQ (μ.put g 0 p) (mk g) cv)∧ur w w1∧p.c=w.heap.size∧w1.heap.size=w.heap.size+1∧
  (∀b,b<w.heap.size→w1.heap[b]?=w.heap[b]?)∧F.cur=0∧F.ro=false∧CR μ F p w1
section
variable{E:Env}{base:Nat}{μ:Mp}{A:AW}{w w1:World}
theorem Step.late(h:Rel base μ A w){g:Nat}{F:eI}{p:Pl}(hg:A.heap.get g=some F)(hn:∀t,μ g t=none)(hs:ur w w1)(hc:p.c=w.heap.size)(hz:w1.heap.size=w.heap.size+1)
 (hold:∀b,b<w.heap.size→w1.heap[b]?=w.heap[b]?) (hcur:F.cur=0) (hCR:CR μ F p w1) :
 Rel base (μ.put g 0 p) A w1∧(∀f t q,μ f t=some q→(μ.put g 0 p) f t=some q):=by
 have hkeep:∀f t q,μ f t=some q→(μ.put g 0 p) f t=some q:=fun f t q hq=>by
  rw[Mp.kQ]
  ·exact hq
  ·by_cases e:f=g
   ·subst e;rw[hn t] at hq;cases hq
   ·exact .inl e
 have hinv:∀f t q,(μ.put g 0 p) f t=some q→(f=g∧t=0∧q=p)∨(f≠g∧μ f t=some q):=fun f t q hq=>by
  unfold Mp.put at hq;split at hq
  ·rename_i e;cases hq;exact .inl ⟨e.1,e.2,rfl⟩
  ·rename_i e;refine .inr ⟨fun e'=>?_,hq⟩;subst e';rw[hn t] at hq;cases hq
 refine⟨⟨by have:=h.iy;omega,h.lt,?_,?_,?_,?_⟩,hkeep⟩
 ·intro f t q hq;rcases hinv f t q hq with ⟨rfl,rfl,rfl⟩|⟨e,hq⟩
  ·exact⟨by omega,F,hg,by omega⟩
  ·obtain⟨a,F',b,c⟩:=h.rd _ _ _ hq;exact⟨by omega,F',b,c⟩
 ·intro f f' F' t t' q q' hF' hro hq hq' hcc;rcases hinv f t q hq with ⟨rfl,rfl,rfl⟩|⟨e,hq1⟩<;>rcases hinv f' t' q' hq' with ⟨rfl,rfl,rfl⟩|⟨e',hq1'⟩
  ·rfl
  ·have:=(h.rd _ _ _ hq1').1;omega
  ·have:=(h.rd _ _ _ hq1).1;omega
  ·exact h.inj f f' F' t t' q q' hF' hro hq1 hq1' hcc
 ·intro f F' t q hF' hq hro;rcases hinv f t q hq with ⟨rfl,rfl,rfl⟩|⟨e,hq1⟩
  ·have:=h.iy;omega
  ·exact h.own f F' t q hF' hq1 hro
 ·intro f F' q hF' hq;rcases hinv f F'.cur q hq with ⟨rfl,e0,rfl⟩|⟨e,hq1⟩
  ·rw[hg] at hF';cases hF';exact hCR.mono hkeep rfl
  ·exact (h.yC f F' q hF' hq1).mono hkeep (hold _ (h.rd _ _ _ hq1).1)
theorem jc{cs:List AV}{vs:List Value}(elem:TypeId)(es:Nat)(hr:bK μ cs vs)(h1:∀x∈cs,x.one=true):
 ur w (w.alloc (.cells vs.toArray elem))∧(w.alloc (.cells vs.toArray elem)).heap.size=w.heap.size+1∧(∀b,b<w.heap.size→(w.alloc (.cells vs.toArray elem)).heap[b]?=w.heap[b]?)∧
  (eI.cells 0 false es cs).cur=0∧(eI.cells 0 false es cs).ro=false∧CR μ (.cells 0 false es cs) ⟨w.heap.size,0,0,vs.length,es⟩ (w.alloc (.cells vs.toArray elem)):=by
 refine⟨⟨rfl,rfl,rfl⟩,jv w _,fun b hb=>ks w _ b hb,rfl,rfl,vs.toArray,elem,(0,0),kA w _,by simp,rfl,fun _=>rfl,fun i v hv _=>?_⟩;have:=pu hr h1 [] i v hv;simpa using this
theorem yP(hE:dS E){t:TypeId}{d:bH}{z:List AV}(hd:E.cf.get t=some d)(hz:d.zero=some z)(μ:Mp)(w:World):
 kW E μ w (Instr.alloc t true (.tuple #[])) (fun g=>.ptr g 0 0) (.cells 0 false (kO E d) z):=by
 have ht:=hE t d hd;obtain⟨zv,h1,h2,h3,_⟩:=ht.iF w hz μ;refine⟨.pointer (some ⟨w.heap.size,0,none⟩),w.alloc (.cells zv.cells.toList.toArray t),⟨w.heap.size,0,0,zv.cells.toList.length,kO E d⟩,?_,fun g=>.ptr (Mp.eC _ _ _ _) rfl,?_⟩
 ·simp only[Instr.alloc,Sem.run_bind,h1,Result.andThen_ok,newVar,newRow,gi,Sem.run_pure]
 ·obtain⟨a,b,c,d',e,f⟩:=jc (w:=w) t (kO E d) h2 h3;exact⟨a,rfl,b,c,d',e,f⟩
theorem CP(hE:dS E){t:TypeId}{d:bH}{x:AV}{cs:List AV}{cx:Value}(hx:aQ μ x cx)(hc:cellsOf x=some cs)(w:World):
 kW E μ w (Instr.box t cx) (fun g=>.ptr g 0 0) (.cells 0 false (kO E d) cs):=by
 obtain⟨h2,h3⟩:=jW hx hc;refine⟨.pointer (some ⟨w.heap.size,0,none⟩),w.alloc (.cells cx.cells.toList.toArray t),⟨w.heap.size,0,0,cx.cells.toList.length,kO E d⟩,?_,fun g=>.ptr (Mp.eC _ _ _ _) rfl,?_⟩
 ·simp only[Instr.box,Sem.run_bind,newVar,newRow,gi,Result.andThen_ok,Sem.run_pure]
 ·obtain⟨a,b,c,d',e,f⟩:=jc (w:=w) t (kO E d) h2 h3;exact⟨a,rfl,b,c,d',e,f⟩
theorem qL(hE:dS E){t:TypeId}{n:Nat}{ps:List (Nat×AV)}{v:AV}{A':AW}(hl:fw E t n ps A=.val v A'):
 ∃F,A'=⟨A.heap.set A.aa F,Nat.succ A.aa⟩∧
  ∀μ w (qs:Array (Nat×Value)),BB μ ps qs.toList→∃mk,v=mk A.aa∧kW E μ w (Instr.buildSlice t n qs) mk F:=by
 unfold fw at hl;split at hl
 ·rename_i d hd;split at hl
  ·rename_i e hdd;split at hl
   ·rename_i de hde;split at hl
    ·rename_i z hz;cases hb:Nat.ble (Nat.mul n de.size) 4096
     ·rw[hb] at hl;cases hl
     ·cases hb1:Nat.ble 1 de.size
      ·rw[hb,hb1] at hl;cases hl
      ·rw[hb,hb1] at hl;simp only[cond_true] at hl;have hle:n*de.size≤4096:=Nat.le_of_ble_eq_true hb;have hpos:1≤de.size:=Nat.le_of_ble_eq_true hb1;split at hl
       ·rename_i cs hcs;cases hl;refine⟨.cells 0 false de.size cs,rfl,fun μ w qs hp=>⟨fun g=>.slice g 0 0 n n true,rfl,?_⟩⟩;have ht:=hE t d hd;have hte:=hE e de hde;obtain⟨zv,h1,h2,h3,hsz,_⟩:=hte.iF w hz μ;have hr:=kS (n:=n) h2 (by omega);rw[hsz] at hr;obtain⟨cells',a,b,c⟩:=jz (pl':=fun i=>some (i*de.size,de.size)) (fun i q hq=>hq) hcs hp hr (jA h3 n);have hlen:cells'.toList.length=n*de.size:=by rw[←b.1,pA hcs,iG,hsz]
        obtain⟨p1,p2,p3,p4,p5,p6⟩:=jc (w:=w) e de.size b c;refine⟨.slice (some ⟨w.heap.size,0,none⟩) n n,w.alloc (.cells cells'.toList.toArray e),⟨w.heap.size,0,0,cells'.toList.length,de.size⟩,?_,fun g=>mC (Nat.le_refl _) (by rw[hlen];exact Nat.le_refl _),p1,rfl,p2,p3,p4,p5,p6⟩;simp only[Instr.buildSlice,Sem.run_bind,ht.cX,hdd,Result.andThen_ok,hte.du];rw[Sem.run_ite,if_neg (by omega)];by_cases h0:n*de.size=0
        ·have e0:((Array.range (n*de.size)).map fun x=>(#[]:Array Value)[x % (#[]:Array Value).size]!)=((Array.range (n*de.size)).map fun i=>zv.cells[i % zv.cells.size]!):=by rw[h0];simp
         rw[Sem.run_ite,if_pos h0];simp only[Sem.run_bind,Sem.run_pure,Result.andThen_ok];rw[e0,a];simp only[Sem.run_bind,newRow,gi,Result.andThen_ok,Sem.run_pure]
        ·rw[Sem.run_ite,if_neg h0];simp only[Sem.run_bind,h1,Result.andThen_ok,Sem.run_pure];rw[a];simp only[Sem.run_bind,newRow,gi,Result.andThen_ok,Sem.run_pure]
       ·cases hl
    ·cases hl
   ·cases hl
  ·cases hl
 ·cases hl
theorem sO(hE:dS E){t:TypeId}{l c v:AV}{A':AW}(hl:jt E t l c A=.val v A'):
 ∃F,A'=⟨A.heap.set A.aa F,Nat.succ A.aa⟩∧
  ∀μ w cl cc,aQ μ l cl→aQ μ c cc→∃mk,v=mk A.aa∧kW E μ w (Instr.makeSlice t cl cc) mk F:=by
 unfold jt at hl;split at hl
 ·rename_i k l k' c;split at hl
  ·rename_i d hd;split at hl
   ·rename_i e hdd;split at hl
    ·rename_i de hde;split at hl
     ·rename_i z hz;cases hb1:Nat.ble l c<;>rw[hb1] at hl<;>try (cases hl;done)
      cases hb2:Nat.ble c 1048576<;>rw[hb2] at hl<;>try (cases hl;done)
      cases hb3:Nat.ble de.bytes 1048576<;>rw[hb3] at hl<;>try (cases hl;done)
      cases hb4:Nat.ble 1 de.size<;>rw[hb4] at hl<;>try (cases hl;done)
      simp only[cond_true] at hl;cases hl;refine⟨.cells 0 false de.size (gh z c),rfl,fun μ w cl cc q1 q2=>⟨fun g=>.slice g 0 0 l c true,rfl,?_⟩⟩;cases q1;cases q2;have i1:l≤c:=Nat.le_of_ble_eq_true hb1;have i2:c≤1048576:=Nat.le_of_ble_eq_true hb2;have i3:de.bytes≤1048576:=Nat.le_of_ble_eq_true hb3;have i4:1≤de.size:=Nat.le_of_ble_eq_true hb4;have ht:=hE t d hd;have hte:=hE e de hde;obtain⟨zv,z1,z2,z3,hsz,_⟩:=hte.iF w hz μ;obtain⟨i,j1,j2,j3⟩:=hte.wZ w;have hr:=kS (n:=c) z2 (by omega);rw[hsz] at hr;obtain⟨p1,p2,p3,p4,p5,p6⟩:=jc (w:=w) e de.size hr (jA z3 c);have hmul:de.bytes*c≤1099511627776:=by
       have:=Nat.mul_le_mul i3 i2;omega
      have hmul':(i.bytes:Int)*(c:Int)≤281474976710656:=by
       rw[j3];omega
      have hmul2:(i.bytes:Int)*(l:Int)≤281474976710656:=by
       have:=Nat.mul_le_mul_left de.bytes i1;rw[j3];omega
      have wl:IntKind.i64.wrap (Int.ofNat l)=(l:Int):=IntWalk.i64_in _ (by simp only[Int.ofNat_eq_natCast];omega);have wc:IntKind.i64.wrap (Int.ofNat c)=(c:Int):=IntWalk.i64_in _ (by simp only[Int.ofNat_eq_natCast];omega);refine⟨.slice (some ⟨w.heap.size,0,none⟩) l c,_,_,?_,fun g=>mC i1 (by simp),p1,rfl,p2,p3,p4,p5,p6⟩;simp only[Instr.makeSlice,Sem.run_bind,ht.cX,hdd,Result.andThen_ok,asInt,asIntOf,Sem.run_pure,j1,wl,wc];rw[Sem.run_ite,if_neg (by simp;omega)];simp only[Sem.run_bind,run_askRoom,Result.andThen_ok,hte.du,Int.toNat_natCast];by_cases h0:c*de.size=0
      ·have e0:((Array.range (c*de.size)).map fun x=>(#[]:Array Value)[x % (#[]:Array Value).size]!)=((Array.range (c*de.size)).map fun i=>zv.cells[i % zv.cells.size]!):=by rw[h0];simp
       rw[Sem.run_ite,if_pos h0];simp only[Sem.run_bind,Sem.run_pure,Result.andThen_ok,newRow,gi];rw[e0]
      ·rw[Sem.run_ite,if_neg h0];simp only[Sem.run_bind,Sem.run_pure,Result.andThen_ok,newRow,gi,z1]
     ·cases hl
    ·cases hl
   ·cases hl
  ·cases hl
 ·cases hl
theorem vR(t:TypeId)(μ:Mp)(w:World): kW E μ w (Instr.makeMap t none) (fun g=>.map g) (.map []):=
 ⟨.map (some w.heap.size),w.alloc (.map #[] 0),⟨w.heap.size,0,0,0,0⟩,rfl,fun g=>aQ.map (Mp.eC _ _ _ _),⟨rfl,rfl,rfl⟩,rfl,jv w _,fun b hb=>ks w _ b hb,rfl,rfl,#[],0,kA w _,rfl,by simp⟩
theorem kX(hE:dD E){o:Oper}{F:Fr}{v:AV}{A':AW}(hm:makes o.op=true)(hl:dr E F o A=.val v A'):
 ∃Fm,A'=⟨A.heap.set A.aa Fm,Nat.succ A.aa⟩∧∀(F2:Fr),(∀x∈o.op.operands,ev F2 x=ev F x)→
  ∀(μ:Mp) (w:World) (a:Act),(∀x,aQ μ (ev F2 x) (a.eval x))→∃mk s,v=mk A.aa∧kW E μ w s mk Fm∧execOp a.eval o=(do pure (.value (←s))):=by
 unfold dr at hl;split at hl
 ·rename_i c ho;simp [ho,makes] at hm
 rename_i hnc;clear hnc;replace hl:=jn hl;obtain⟨dst,op,type,pos,after,guard⟩:=o;cases op<;>simp only[makes,reduceCtorEq,Bool.false_eq_true] at hm
 case alloc t=>
  simp only[lQ] at hl;split at hl
  ·rename_i d hd;split at hl
   ·rename_i z hz;cases hl;exact⟨_,rfl,fun F2 _ μ w a _=>⟨fun g=>.ptr g 0 0,_,rfl,yP hE.ty hd hz μ w,by simp only[execOp]⟩⟩
   ·cases hl
  ·cases hl
 case box t x=>
  simp only[lQ] at hl;split at hl
  ·rename_i d cs hd hc;cases hl;refine⟨_,rfl,fun F2 hF2 μ w a ha=>⟨fun g=>.ptr g 0 0,_,rfl,CP (t:=t) hE.ty (ha x) ?_ w,by simp only[execOp]⟩⟩;rw[hF2 x (by simp [Op.operands])];exact hc
  ·cases hl
 case buildSlice t n ps=>
  simp only[lQ] at hl;obtain⟨Fm,h1,h2⟩:=qL hE.ty hl;refine⟨Fm,h1,fun F2 hF2 μ w a ha=>?_⟩;have e:fV F ps.toList=fV F2 ps.toList:=by
   have:∀l:List (Nat×Operand),(∀p∈l,p∈ps.toList)→fV F l=fV F2 l:=fun l=>by
    induction l with
    | nil=>intro _;rfl
    | cons p l ih=>
     intro hp;obtain⟨i,x⟩:=p;simp only[fV];rw[ih (fun q hq=>hp q (List.mem_cons_of_mem _ hq)),hF2 x (by
      have h0:(i,x)∈ps:=by simpa using hp (i,x) (List.mem_cons_self ..)
      simp [Op.operands];exact⟨i,h0⟩)]
   exact this _ fun p hp=>hp
  obtain⟨mk,h3,h4⟩:=h2 μ w (ps.map fun (i,x)=>(i,a.eval x)) (by rw[Array.toList_map,e];exact kR ha ps.toList);exact⟨mk,_,h3,h4,by simp only[execOp]⟩
 case makeMap t r=>
  cases r with
  | none=>
   simp only[lQ] at hl;cases hl;exact⟨_,rfl,fun F2 _ μ w a _=>⟨fun g=>.map g,_,rfl,vR t μ w,by simp only[execOp,Option.map_none]⟩⟩
  | some _=>simp [lQ] at hl
 case makeSlice t l c=>
  simp only[lQ] at hl;obtain⟨Fm,h1,h2⟩:=sO hE.ty hl;refine⟨Fm,h1,fun F2 hF2 μ w a ha=>?_⟩;obtain⟨mk,h3,h4⟩:=h2 μ w _ _ (by rw[←hF2 l (by simp [Op.operands])];exact ha l) (by rw[←hF2 c (by simp [Op.operands])];exact ha c);exact⟨mk,_,h3,h4,by simp only[execOp]⟩
end
end Go.AE
namespace Go.AE
set_option linter.unusedVariables false
set_option linter.unusedSimpArgs false
variable[bu]
def iY.ii:iY→AW→iY
 | .fail n,_=>.fail n
 | .val v _,B=>.val v B
section
variable{E:Env}{A B:AW}
omit [bu] in
theorem jo(k:IntKind)(n:Int): nJ k n B=(nJ k n A).ii B:=by
 unfold nJ;cases n<;>simp only[]<;>(rename_i m;cases Nat.ble 0 m<;>rfl)
omit [bu] in
theorem kD(b:Bool): iZ b B=(iZ b A).ii B:=by cases b<;>rfl
omit [bu] in
theorem kY(s:Sem Value): quiet E s B=(quiet E s A).ii B:=by
 unfold quiet;cases fY E.P s with
 | none=>rfl
 | some v=>simp only[];cases back v<;>rfl
omit [bu] in
theorem yQ(op:BinOp)(k:IntKind)(a:Int)(k':IntKind)(b:Int): eK E op k a k' b B=(eK E op k a k' b A).ii B:=by
 unfold eK;cases aT k k'
 ·exact kY _
 ·cases op<;>first|exact jo _ _|exact kD _|exact kY _
omit [bu] in
theorem yR(op:BinOp)(a b:List Nat): uD op a b B=(uD op a b A).ii B:=by
 unfold uD;cases op<;>first|exact kD _|rfl|(cases Nat.ble (Nat.add (len a) (len b)) 4611686018427387904<;>rfl)
omit [bu] in
theorem uO(op:BinOp)(k:IntKind)(lo hi:Nat)(k':IntKind)(b:Nat): wV op k lo hi k' b B=(wV op k lo hi k' b A).ii B:=by
 unfold wV;cases op<;>simp only[Bool.cond_eq_ite]<;>(repeat' split)<;>rfl
omit [bu] in
theorem yS(op:BinOp)(k:IntKind)(l:List Bt)(k':IntKind)(b:Nat): js op k l k' b B=(js op k l k' b A).ii B:=by
 cases op
 case shr=>simp only[js,Bool.cond_eq_ite]<;>(repeat' split)<;>rfl
 case shl=>simp only[js,Bool.cond_eq_ite]<;>(repeat' split)<;>rfl
 case and=>simp only[js,Bool.cond_eq_ite]<;>(repeat' split)<;>rfl
 case or=>simp only[js,Bool.cond_eq_ite]<;>(repeat' split)<;>rfl
 case xor=>simp only[js,Bool.cond_eq_ite]<;>(repeat' split)<;>rfl
 all_goals (simp only[js];exact uO ..)
omit [bu] in
theorem yU(op:BinOp)(x y:AV): uE op x y B=(uE op x y A).ii B:=by
 unfold uE;split
 ·rename_i k m r k' b;split
  ·cases (aT k k' && (Nat.blt 0 b && Nat.beq (Nat.mod m b) 0))
   ·rfl
   ·simp only[cond_true];exact jo _ _
  ·rfl
 all_goals first
  | exact uO ..
  | exact yS ..
  | rfl
  | (cases op<;>simp only[Bool.cond_eq_ite]<;>(repeat' split)<;>first|rfl|exact jo _ _)
  | (cases op<;>simp only[Bool.cond_eq_ite]<;>(repeat' split)<;>rfl)
omit [bu] in
theorem sR(d:TypeDesc)(x:AV): wW d x B=(wW d x A).ii B:=by
 unfold wW Av;simp only[Bool.cond_eq_ite]
 repeat' split
 all_goals rfl
omit [bu] in
theorem uP(op:BinOp)(t:TypeId)(x y:AV): kj E op t x y B=(kj E op t x y A).ii B:=by
 unfold kj;split
 ·exact yQ _ _ _ _ _
 ·exact yR _ _ _
 ·repeat' split
  all_goals first|exact kD _|rfl
 ·split
  ·split
   ·rename_i k b hn _ d hd;cases Nat.beq (mV d.desc) k
    ·rfl
    ·simp only[cond_true];split<;>first|exact kD _|rfl
   ·rfl
  ·split
   ·exact kY _
   ·exact yU ..
omit [bu] in
theorem xA(op:UnOp)(x:AV): unA E op x B=(unA E op x A).ii B:=by
 unfold unA;split
 ·exact kD _
 ·exact jo _ _
 ·split
  ·exact kY _
  ·rfl
omit [bu] in
theorem qt(t:TypeId)(ps:List (Nat×AV)): kP E t ps B=(kP E t ps A).ii B:=by
 unfold kP
 repeat' split
 all_goals rfl
omit [bu] in
theorem lx(s:TypeId)(x:AV)(i:Nat): aX E s x i B=(aX E s x i A).ii B:=by
 unfold aX
 repeat' split
 all_goals first|rfl|(rename_i df _;cases Nat.ble 1 df.size<;>rfl)
omit [bu] in
theorem sS(t:TypeId)(cs:List AV)(off:Nat): qd E t cs off B=(qd E t cs off A).ii B:=by
 unfold qd;split
 ·rename_i d _;cases d.agg<;>simp only[cond_true,cond_false]<;>split<;>rfl
 ·rfl
omit [bu] in
theorem qu(t:TypeId)(x:AV)(i:Nat): lO E t x i B=(lO E t x i A).ii B:=by
 unfold lO
 repeat' split
 all_goals first|rfl|exact sS _ _ _
omit [bu] in
theorem ly(t:TypeId)(x i:AV): aO E t x i B=(aO E t x i A).ii B:=by
 unfold aO;split
 ·rename_i i d hi;split
  ·split
   ·rename_i n _ _ _ _ _;cases Nat.blt i _<;>rfl
   ·rfl
  ·split
   ·cases Nat.blt i _<;>rfl
   ·rfl
  ·rfl
 ·rfl
omit [bu] in
theorem qv(t:TypeId)(x i:AV): iM E t x i B=(iM E t x i A).ii B:=by
 unfold iM;split
 ·rename_i i d hi;split
  ·split
   ·split<;>rfl
   ·rfl
  ·split
   ·cases Nat.blt i _
    ·rfl
    ·exact sS _ _ _
   ·rfl
  ·rfl
 ·rfl
omit [bu] in
theorem kE{r s:iY}{v:AV}{A':AW}(h:s=r.ii B)(hr:r=.val v A'): s=.val v B:=by
 subst hr;exact h
def Ext(A B:AW): Prop:=∀f x,A.heap.get f=some x→B.heap.get f=some x
omit [bu] in
theorem ng(hx:Ext A B){f s o n:Nat}{l:List AV}(h:bU A f s o n=some l): bU B f s o n=some l:=by
 unfold bU at h ⊢;split at h
 ·rename_i hf;rw[hx _ _ hf];exact h
 ·cases h
omit [bu] in
theorem BG(hx:Ext A B){t:TypeId}{a v:AV}{A':AW}(h:fR E t a A=.val v A'): fR E t a B=.val v B∧A'=A:=by
 unfold fR at h ⊢;split at h
 ·split at h
  ·rename_i d hd;cases hb:d.agg<;>rw[hb] at h<;>simp only[cond_true,cond_false,hb] at h ⊢
   ·split at h
    ·rename_i cur ro es cs hf;simp only[hx _ _ hf];cases hc:Nat.beq cur _<;>rw[hc] at h<;>simp only[cond_true,cond_false,reduceCtorEq] at h ⊢;split at h
     ·cases h;exact⟨rfl,rfl⟩
     ·cases h
    ·cases h
   ·split at h
    ·rename_i cs hr;cases h;rw[ng hx hr];exact⟨rfl,rfl⟩
    ·cases h
  ·cases h
 ·cases h
omit [bu] in
theorem sT(hx:Ext A B){m:AV}{es:List (AV×AV)}:(match m with
 | .gC=>some []
 | .map f=>(match A.heap.get f with
  | some (.map es)=>some es
  | _=>none)
 | _=>none)=some es→(match m with
 | .gC=>some []
 | .map f=>(match B.heap.get f with
  | some (.map es)=>some es
  | _=>none)
 | _=>none)=some es:=by
 intro h;cases m<;>simp only[reduceCtorEq] at h
 ·exact h
 rename_i f;simp only;cases hf:A.heap.get f with
 | none=>rw[hf] at h;cases h
 | some x=>
  rw[hf] at h;rw[hx _ _ hf];exact h
omit [bu] in
theorem xB(hx:Ext A B){t:TypeId}{m k v:AV}{ok:Bool}{A':AW}(h:iw E t m k ok A=.val v A'): iw E t m k ok B=.val v B∧A'=A:=by
 unfold iw at h ⊢;split at h
 ·split at h
  ·rename_i kt vt hdd;cases hb:mX E kt k<;>rw[hb] at h<;>simp only[cond_true,cond_false,reduceCtorEq] at h ⊢;split at h
   ·rename_i es hes;split
    ·rename_i es2 h2;have e2:some es=some es2:=Eq.trans (sT hx hes).symm h2;cases e2;split at h
     ·cases h;exact⟨by simp only[*],rfl⟩
     ·split at h
      ·split at h
       ·cases h;exact⟨by simp only[*],rfl⟩
       ·cases h
      ·cases h
     ·cases h
    ·rename_i h2;exact absurd (Eq.trans (sT hx hes).symm h2) (by simp)
   ·cases h
  ·cases h
 ·cases h
omit [bu] in
theorem CQ(hx:Ext A B){t:TypeId}{x v:AV}{A':AW}(h:eo E t x A=.val v A'): eo E t x B=.val v B∧A'=A:=by
 unfold eo at h ⊢;split at h
 ·split at h<;>try (cases h;exact⟨rfl,rfl⟩)
  ·rename_i lo hi _;cases hb:Nat.beq lo hi<;>rw[hb] at h<;>simp only[cond_true,cond_false] at h ⊢<;>cases h<;>exact⟨rfl,rfl⟩
  ·split at h
   ·rename_i hf;rw[hx _ _ hf];cases h;exact⟨rfl,rfl⟩
   ·cases h
  ·cases h
 ·cases h
omit [bu] in
theorem nh(s:List Nat)(lo hi:Option AV): iC s lo hi B=(iC s lo hi A).ii B:=by
 unfold iC
 repeat' split
 all_goals rfl
omit [bu] in
theorem gL(x y:AV)(lo hi mx:Option AV): fc x y lo hi mx B=(fc x y lo hi mx A).ii B:=by
 unfold fc
 repeat' split
 all_goals rfl
omit [bu] in
theorem vS(hx:Ext A B){f s o n es:Nat}{lo hi:Option AV}{v:AV}{A':AW}(h:lL f s o n es lo hi A=.val v A'): lL f s o n es lo hi B=.val v B∧A'=A:=by
 unfold lL at h ⊢;split at h
 ·rename_i cur ro es' cs hf;rw[hx _ _ hf];cases hb:(Nat.beq es' es && (Nat.beq cur s && (Nat.ble 1 es && Nat.ble (Nat.add o (Nat.mul n es)) (len cs))))<;>rw[hb] at h<;>simp only[cond_true,cond_false,reduceCtorEq,hb] at h ⊢;split at h
  ·split at h
   ·rename_i l hl;cases hb2:Nat.beq l n<;>rw[hb2] at h<;>simp only[cond_true,cond_false] at h ⊢<;>cases h<;>exact⟨rfl,rfl⟩
   ·cases h
  ·cases h
 ·cases h
omit [bu] in
theorem vT(hx:Ext A B){f s o n c es:Nat}{ex:Bool}{lo hi mx:Option AV}{v:AV}{A':AW}(h:eU f s o n c es ex lo hi mx A=.val v A'): eU f s o n c es ex lo hi mx B=.val v B∧A'=A:=by
 unfold eU at h ⊢;split at h
 ·rename_i cur ro es' cs hf;rw[hx _ _ hf];cases hb:(Nat.beq es' es && Nat.beq cur s)<;>rw[hb] at h<;>simp only[cond_true,cond_false,reduceCtorEq,hb] at h ⊢;split at h
  ·split at h
   ·split at h
    ·rename_i l hl;cases hb2:Nat.beq l c<;>rw[hb2] at h<;>simp only[cond_true,cond_false] at h ⊢<;>cases h<;>exact⟨rfl,rfl⟩
    ·cases h
   ·cases h
  ·split at h
   ·split at h
    ·split at h
     ·rename_i m hi' heq1 _ _ _ _ l hl;cases hb2:Nat.beq l m<;>rw[hb2] at h<;>simp only[cond_true,cond_false] at h ⊢<;>cases h<;>exact⟨rfl,rfl⟩
     ·cases h
    ·cases h
   ·cases h
 ·cases h
omit [bu] in
theorem jp{r:iY}{v:AV}{A':AW}(h:r=r.ii A)(hr:r=.val v A'): A'=A:=by
 subst hr;simp only[iY.ii,iY.val.injEq,true_and] at h;exact h
omit [bu] in
theorem yV(hx:Ext A B){t:TypeId}{x v:AV}{lo hi mx:Option AV}{A':AW}(h:cQ E t x lo hi mx A=.val v A'): cQ E t x lo hi mx B=.val v B∧A'=A:=by
 unfold cQ at h ⊢;split at h
 ·cases h
 ·split at h
  ·split at h
   ·exact⟨kE (nh ..) h,jp (nh ..) h⟩
   ·cases h
  ·split at h
   ·exact vS hx h
   ·cases h
  ·split at h
   ·split at h
    ·exact vT hx h
    ·cases h
   ·split at h
    ·exact⟨kE (gL ..) h,jp (gL ..) h⟩
    ·cases h
   ·split at h
    ·exact⟨kE (gL ..) h,jp (gL ..) h⟩
    ·cases h
   ·cases h
  ·cases h
omit [bu] in
theorem vU(hx:Ext A B){src dst:TypeId}{x v:AV}{A':AW}(h:fZ E src dst x A=.val v A')(hn:A'.aa=A.aa): fZ E src dst x B=.val v B∧A'=A:=by
 unfold fZ at h ⊢;split at h
 ·split at h
  ·exact⟨kE (jo ..) h,jp (jo ..) h⟩
  ·cases h;exact⟨rfl,rfl⟩
  ·rename_i e s hd;cases hb:oz E e<;>rw[hb] at h<;>simp only[cond_true,cond_false,reduceCtorEq] at h;cases h;exact absurd hn (by simp)
  ·split at h
   ·rename_i e he;cases hb:oz E e<;>rw[hb] at h<;>simp only[cond_true,cond_false,reduceCtorEq] at h ⊢;cases h;exact⟨rfl,rfl⟩
   ·cases h
  ·split at h
   ·rename_i e he;cases hb:oz E e<;>rw[hb] at h<;>simp only[cond_true,cond_false,reduceCtorEq] at h ⊢;cases h;exact⟨rfl,rfl⟩
   ·cases h
  ·split at h
   ·rename_i e he;cases hb:oz E e<;>rw[hb] at h<;>simp only[cond_true,cond_false,reduceCtorEq] at h ⊢;split at h
    ·rename_i cs hr;rw[ng hx hr];simp only;split at h
     ·cases h;exact⟨rfl,rfl⟩
     ·cases ha:mr cs<;>rw[ha] at h<;>simp only[cond_true,cond_false,reduceCtorEq] at h ⊢;cases h;exact⟨rfl,rfl⟩
    ·cases h
   ·cases h
  ·cases h;exact⟨rfl,rfl⟩
  ·exact⟨kE (sR ..) h,jp (sR ..) h⟩
 ·cases h
end
section
variable{E:Env}{A B:AW}
omit [bu] in
theorem kF{F:Fr}{o:Oper}{v:AV}{A':AW}(ha:ib o.op=false)(hm:makes o.op=false)(h:dr E F o A=.val v A')(hn:A'.aa=A.aa)(hx:reads o.op=true→Ext A B): dr E F o B=.val v B∧A'=A:=by
 obtain⟨dst,op,type,pos,after,guard⟩:=o;have lift:∀{r:iY},(r=.val v B∧A'=A)→(ao r=.val v B∧A'=A):=fun h=>⟨by rw[h.1];rfl,h.2⟩;have two:∀{r s:iY},s=r.ii B→r=r.ii A→r=.val v A'→(s=.val v B∧A'=A):=fun h1 h2 h3=>⟨kE h1 h3,jp h2 h3⟩;cases op<;>simp only[ib,makes,reads,reduceCtorEq,Bool.true_eq_false] at ha hm hx<;>simp only[dr] at h ⊢
 case call c=>
  obtain⟨callee,args,argTypes⟩:=c;simp only[sc] at h ⊢;cases callee with
  | value x=>simp at ha
  | invoke r m=>simp at ha
  | builtin b=>
   simp only at h ⊢ ha hx;refine lift ?_;replace h:=jn h;unfold aH at h ⊢;cases b<;>simp only[reduceCtorEq,Bool.true_eq_false] at h ⊢ ha hx
   case len=>
    split at h
    ·exact CQ (hx trivial) h
    ·cases h
   case complex=>
    split at h
    ·rename_i k a k' b hargs;cases hb:decide (k=k')<;>rw[hb] at h<;>simp only[cond_true,cond_false,reduceCtorEq] at h ⊢;cases h;exact⟨rfl,rfl⟩
    ·cases h
   case real=>
    split at h
    ·cases h;exact⟨rfl,rfl⟩
    ·cases h
   case imag=>
    split at h
    ·cases h;exact⟨rfl,rfl⟩
    ·cases h
   case min=>
    split at h
    ·split at h
     ·cases h;exact⟨rfl,rfl⟩
     ·cases h
    ·cases h
   case max=>
    split at h
    ·split at h
     ·cases h;exact⟨rfl,rfl⟩
     ·cases h
    ·cases h
 all_goals (refine lift ?_;replace h:=jn h;simp only[lQ,reduceCtorEq] at h ⊢)
 case move x=>cases h;exact⟨rfl,rfl⟩
 case pick c a b=>
  split at h
  ·cases h;exact⟨rfl,rfl⟩
  ·cases h;exact⟨rfl,rfl⟩
  ·cases h
 case build t ps=>exact two (qt ..) (qt ..) h
 case load t x=>exact BG (hx trivial) h
 case nilCheck x=>
  split at h
  ·cases h;exact⟨rfl,rfl⟩
  ·cases h;exact⟨rfl,rfl⟩
  ·cases h
 case binOp op t x y z=>exact two (uP ..) (uP ..) h
 case unOp op t x=>exact two (xA ..) (xA ..) h
 case convert s d x=>exact vU (hx trivial) h hn
 case slice t x lo hi mx=>exact yV (hx trivial) h
 case fieldAddr s x i=>exact two (lx ..) (lx ..) h
 case field t x i=>exact two (qu ..) (qu ..) h
 case indexAddr t x i=>exact two (ly ..) (ly ..) h
 case index t x i=>exact two (qv ..) (qv ..) h
 case lookup t x i ok=>exact xB (hx trivial) h
 case extract x i=>
  split at h
  ·split at h
   ·cases h;exact⟨rfl,rfl⟩
   ·cases h
  ·cases h
 case makeFunc f a b=>cases f<;>simp only[reduceCtorEq] at h<;>(cases h;exact⟨rfl,rfl⟩)
 all_goals first|cases h|skip
omit [bu] in
theorem mD{F F2:Fr}:∀l:List Operand,(∀x∈l,ev F2 x=ev F x)→qH F2 l=qH F l
 | [],_=>rfl
 | x::l,h=>by simp only[qH];rw[h x (List.mem_cons_self ..),mD l fun y hy=>h y (List.mem_cons_of_mem _ hy)]
omit [bu] in
theorem kZ{F F2:Fr}:∀l:List (Nat×Operand),(∀p∈l,ev F2 p.2=ev F p.2)→fV F2 l=fV F l
 | [],_=>rfl
 | (i,x)::l,h=>by simp only[fV];rw[h (i,x) (List.mem_cons_self ..),kZ l fun y hy=>h y (List.mem_cons_of_mem _ hy)]
omit [bu] in
theorem xC{F F2:Fr}{o:Oper}(h:∀x∈o.op.operands,ev F2 x=ev F x): dr E F2 o A=dr E F o A:=by
 obtain⟨dst,op,type,pos,after,guard⟩:=o;cases op<;>simp only[Op.operands] at h<;>simp only[dr,lQ]
 case call c=>
  obtain⟨callee,args,argTypes⟩:=c;have ha:qH F2 args.toList=qH F args.toList:=mD _ fun x hx=>h x (by simp only[Call.operands];exact Array.mem_append_right _ (by simpa using hx));cases callee with
  | value x=>simp only[sc,ha,h x (by simp [Call.operands])]
  | invoke r m=>rfl
  | builtin b=>simp only[sc,ha]
 case build t ps=>rw[kZ ps.toList fun p hp=>h p.2 (by simp;exact⟨p.1,by simpa using hp⟩)]
 case buildSlice t n ps=>rw[kZ ps.toList fun p hp=>h p.2 (by simp;exact⟨p.1,by simpa using hp⟩)]
 case makeFunc f a b=>
  have h1:=mD a.toList fun x hx=>h x (by simp;exact .inl (by simpa using hx));have h2:=mD b.toList fun x hx=>h x (by simp;exact .inr (by simpa using hx));cases f<;>simp only[h1,h2]
 case slice t x lo hi mx=>
  cases lo<;>cases hi<;>cases mx<;>simp [vD] at h ⊢<;>simp only[h]
 case makeMap t r=>cases r<;>rfl
 all_goals first|rfl|(simp at h;simp only[h])
omit [bu] in
theorem oQ{F F2:Fr}{ops:Array Oper}{o:Oper}(h:∀t∈o.looksAt ops,F2.get t=F.get t): ∀x∈o.op.operands,ev F2 x=ev F x:=fun x hx=>by
 cases x with
 | tmp t=>
  have:=h t (List.mem_append_left _ (List.mem_filterMap.2 ⟨.tmp t,by simpa using hx,rfl⟩));simp only[ev,this]
 | _=>rfl
omit [bu] in
theorem fJ{F F2:Fr}{ops:Array Oper}{o:Oper}(h:∀t∈o.looksAt ops,F2.get t=F.get t): bV ops.toList F2 o=bV ops.toList F o:=by
 unfold bV;cases hg:o.guard with
 | none=>rfl
 | some gw=>
  obtain⟨g,want⟩:=gw;simp only;cases ho:nth ops.toList g with
  | none=>rfl
  | some oj=>
   simp only;cases hd:oj.dst with
   | none=>rfl
   | some d=>
    simp only;rw[h d];rw[fB] at ho;have ho':ops[g]?=some oj:=by simpa using ho
    simp [Oper.looksAt,hg,ho',hd]
omit [bu] in
theorem ij{F F2:Fr}{ops:Array Oper}{o:Oper}(h:∀t∈o.looksAt ops,F2.get t=F.get t)(A:AW): dr E F2 o A=dr E F o A:=xC (oQ h)
omit [bu] in
theorem pF:∀{a b:List Nat},dW a b=true→a=b
 | [],[],_=>rfl
 | [],_::_,h=>by simp [dW,isNil] at h
 | _::_,[],h=>by simp [dW] at h
 | x::xs,y::ys,h=>by
  simp only[dW,beq_eq] at h;by_cases e:x=y
  ·simp [e] at h;rw[e,pF h]
  ·simp [e] at h
omit [bu] in
theorem AD{a b:AV}(h:oI a b=true): a=b:=by
 unfold oI at h;split at h<;>(try simp only[Bool.and_eq_true,beq_eq,decide_eq_true_eq,bt,nL,beq_iff_eq,reduceCtorEq,Bool.false_eq_true] at h)<;>try rfl
 ·rw[h]
 ·rw[h.1,h.2]
 ·rw[h.1,h.2]
 ·rw[h.1.1,h.1.2,h.2]
 ·rw[pF h]
 ·rw[h.1.1,h.1.2,h.2]
 ·rw[h]
 ·obtain⟨⟨⟨⟨⟨rfl,rfl⟩,rfl⟩,rfl⟩,rfl⟩,rfl⟩:=h;rfl
 ·rw[h]
 ·rw[h]
 ·rw[h.1.1,h.1.2,h.2]
 ·rw[h.1.1,h.1.2,h.2]
 ·rw[h.1.1,h.1.2,h.2]
 ·rw[h.1.1.1,h.1.1.2,h.1.2,h.2]
 ·rw[pF h.1,h.2]
 ·rw[h]
 ·rw[h.1,my h.2]
 ·rw[h.1,my h.2]
 ·rw[h.1.1,h.1.2,h.2]
 ·rw[h.1,h.2]
 ·rw[h.1.1,my h.1.2,h.2]
omit [bu] in
theorem sU:∀{a b:List AV},lR a b=true→a=b
 | [],[],_=>rfl
 | [],_::_,h=>by simp [lR,isNil] at h
 | _::_,[],h=>by simp [lR] at h
 | x::xs,y::ys,h=>by
  simp only[lR,Bool.and_eq_true] at h;rw[AD h.1,sU h.2]
omit [bu] in
theorem CS{a b:AV}(h:dC a b=true): a=b:=by
 unfold dC at h;split at h
 ·rw[sU h]
 ·rw[sU h]
 ·exact AD h
omit [bu] in
theorem nU{F:Fr}{b:Nat}:∀{l:List Seen},fS E F A b l=true→∀s∈l,bit b s.i=false→∃B,dr E F s.o A=.val s.v B∧B.aa=A.aa
 | [],_,s,hs,_=>by cases hs
 | x::l,h,s,hs,hb=>by
  simp only[fS] at h;cases hx:bit b x.i
  ·rw[hx] at h;simp only[cond_false] at h;split at h
   ·rename_i v B he;cases hn:Nat.beq B.aa A.aa<;>rw[hn] at h<;>simp only[cond_true,cond_false,reduceCtorEq,Bool.false_eq_true] at h;cases hv:dC v x.v<;>rw[hv] at h<;>simp only[cond_true,cond_false,reduceCtorEq,Bool.false_eq_true] at h;rcases List.mem_cons.1 hs with rfl|hs
    ·refine⟨B,?_,by rw[beq_eq] at hn;simpa using hn⟩;rw[he,CS hv]
    ·exact nU h s hs hb
   ·cases h
  ·rw[hx] at h;simp only[cond_true] at h;rcases List.mem_cons.1 hs with rfl|hs
   ·rw[hx] at hb;cases hb
   ·exact nU h s hs hb
end
end Go.AE
