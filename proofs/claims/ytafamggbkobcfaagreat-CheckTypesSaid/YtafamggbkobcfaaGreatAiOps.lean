/- A part of the proof of the statement CheckTypes. -/
import Derived.Test.YtafamggbkobcfaaGreatAiWorld
import Derived.Laws.Strings
import Derived.Laws.StructEq
import Derived.IntWalk
namespace Go.AE
variable[bu]
structure pt (P:Program) (t:TypeId) (d:bH) : Prop where
 yy:P.underlying t=some d.desc
 agg:d.agg=CD d.desc
 info:∃i,P.info? t=some i∧i.size=d.size∧i.bytes=d.bytes∧∀z,d.zero=some z→∃zv,i.zero=some zv∧z=zv.cells.toList.map hZ∧z.length=d.size∧d.zv=ofConst zv∧∀x∈z,x.one=true
def dS(E:Env): Prop:=∀t d,E.cf.get t=some d→pt E.P t d
section
variable{P:Program}{t:TypeId}{d:bH}
omit [bu] in
theorem pt.cX(h:pt P t d)(w:World): (underlying t).run P w=.ok d.desc w:=run_underlying h.yy w
omit [bu] in
theorem pt.du(h:pt P t d)(w:World): (sizeOf t).run P w=.ok d.size w:=by
 obtain⟨i,hi,hs,_⟩:=h.info;simp [sizeOf,typeInfo,hi,hs]
omit [bu] in
theorem pt.wZ(h:pt P t d)(w:World): ∃i,(typeInfo t).run P w=.ok i w∧i.size=d.size∧i.bytes=d.bytes:=by
 obtain⟨i,hi,hs,hb,_⟩:=h.info;exact⟨i,by simp [typeInfo,hi],hs,hb⟩
omit [bu] in
theorem pt.rf(h:pt P t d)(w:World): (isAgg t).run P w=.ok d.agg w:=by
 rw[h.agg];unfold isAgg;rw[Sem.run_bind,h.cX];simp only[Result.andThen_ok];cases d.desc<;>rfl
theorem pt.iF(h:pt P t d)(w:World){z:List AV}(hz:d.zero=some z)(μ:Mp): ∃zv,(zeroValue t).run P w=.ok zv w∧bK μ z zv.cells.toList∧(∀x∈z,x.one=true)∧z.length=d.size∧aQ μ d.zv zv:=by
 obtain⟨i,hi,_,_,hzz⟩:=h.info;obtain⟨zv,h1,rfl,h4,h5,h3⟩:=hzz z hz;refine⟨zv,by simp [zeroValue,typeInfo,hi,h1],?_,h3,h4,by rw[h5];exact qh μ zv⟩;generalize zv.cells.toList=l
 induction l with
 | nil=>exact bK.nil μ
 | cons a l ih=>exact bK.cons (nK μ a) ih
end
omit [bu] in
theorem jv(w:World)(o:Obj): (w.alloc o).heap.size=w.heap.size+1:=by
 show (w.heap.push o).size=_;simp
omit [bu] in
theorem ks(w:World)(o:Obj)(b:Nat)(h:b<w.heap.size): (w.alloc o).heap[b]?=w.heap[b]?:=heap_alloc_old w o b h
omit [bu] in
theorem kA(w:World)(o:Obj): (w.alloc o).heap[w.heap.size]?=some o:=heap_alloc_new w o
section
variable{E:Env}{base:Nat}{μ:Mp}{A:AW}{w:World}
theorem Step.newRow(h:Rel base μ A w){w1:World}(hs:ur w w1)(hh:w1.heap=w.heap){cs:List AV}{arr:Array Value}(elem:TypeId)(es:Nat)(ro:Bool)(fz:Nat×Nat)
 (hfz:ro=false→fz=(0,0)) (hrel:∀(i:Nat) v,cs[i]?=some v→v.one=true∧∃cv,arr[i]?=some cv∧aQ μ v cv) :
 Step base μ A w (μ.put A.aa 0 ⟨w.heap.size,0,0,arr.size,es⟩) ⟨A.heap.set A.aa (.cells 0 ro es cs),Nat.succ A.aa⟩ (w1.alloc (.cells arr elem fz)):=by
 refine Step.new h _ _ ⟨hs.os,hs.tape,hs.output⟩ rfl (by rw[jv,hh]) (fun b hb=>by rw[ks _ _ _ (by rw[hh];exact hb),hh]) rfl ?_;refine⟨arr,elem,fz,by rw[←hh];exact kA w1 _,rfl,rfl,hfz,fun i v hv _=>?_⟩;simpa using hrel i v hv
theorem pu{μ:Mp}{cs:List AV}{vs:List Value}(h:bK μ cs vs)(h1:∀x∈cs,x.one=true)(rest:List Value):
 ∀(i:Nat) v,cs[i]?=some v→v.one=true∧∃cv,(vs++rest).toArray[i]?=some cv∧aQ μ v cv:=fun i v hv=>by
 obtain⟨y,hy,hr⟩:=h.get hv;refine⟨h1 v (List.mem_of_getElem? hv),y,?_,hr⟩;have hlt:i<vs.length:=by rcases Nat.lt_or_ge i vs.length with h|h;exact h;simp [List.getElem?_eq_none h] at hy
 simp only[List.getElem?_toArray];rw[List.getElem?_append_left hlt];exact hy
theorem Az(h:Rel base μ A w){f o cur es off:Nat}{ro:Bool}{cs:List AV}{p:Pl}{v:AV}(hF:A.heap.get f=some (.cells cur ro es cs))(hp:μ f cur=some p)
 (e:off+p.down=o+p.up) (hv:cs[o]?=some v) : v.one=true∧∃cv,w.cell? ⟨p.c,off,none⟩=some cv∧aQ μ v cv:=by
 obtain⟨arr,elem,fz,h1,h2,h3,h4,h5⟩:=h.yC f _ p hF hp;obtain⟨ho,cv,a,b⟩:=h5 o v hv (by omega);refine⟨ho,cv,?_,b⟩;have:o+p.up-p.down=off:=by omega
 rw[this] at a;simp [World.cell?,h1,a]
theorem kB(h:Rel base μ A w){f s o n off:Nat}{p:Pl}{l:List AV}(hr:bU A f s o n=some l)(hp:μ f s=some p)(e:off+p.down=o+p.up):
 ∃cvs:List Value,bK μ l cvs∧cvs.length=n∧(∀x∈l,x.one=true)∧∀(j:Nat) v,cvs[j]?=some v→w.cell? ((⟨p.c,off,none⟩:Addr).add j)=some v:=by
 unfold bU at hr;split at hr
 ·rename_i cur ro es cs hF;cases hb:Nat.beq cur s
  ·simp [hb] at hr
  ·simp only[hb,cond_true] at hr;have hcs:cur=s:=Nat.eq_of_beq_eq_true hb;subst hcs;obtain⟨h1,h2⟩:=eA _ _ _ hr;rw[cF] at h1;have hcell:∀j,j<n→∃v cv,l[j]?=some v∧v.one=true∧w.cell? ⟨p.c,off+j,none⟩=some cv∧aQ μ v cv:=fun j hj=>by
    have hl:l[j]?=some l[j]:=List.getElem?_eq_getElem (by omega);have hcsj:cs[o+j]?=some l[j]:=by
     rw[←hl,h1,List.getElem?_take_of_lt hj,List.getElem?_drop]
    obtain⟨ho,cv,a,b⟩:=Az h (o:=o+j) (off:=off+j) hF hp (by omega) hcsj;exact⟨_,cv,hl,ho,a,b⟩
   refine⟨(List.range n).map fun j=>(w.cell? ⟨p.c,off+j,none⟩).getD undef,⟨by simp [h2],fun i x y hx hy=>?_⟩,by simp,fun x hx=>?_,fun j v hv=>?_⟩
   ·have hi:i<n:=by rcases Nat.lt_or_ge i n with h|h;exact h;rw[List.getElem?_eq_none (by omega)] at hx;cases hx
    obtain⟨v,cv,a,_,b,c⟩:=hcell i hi;rw[hx] at a;cases a;simp [List.getElem?_map,List.getElem?_range hi,b] at hy;subst hy;exact c
   ·obtain⟨i,hi⟩:=List.mem_iff_getElem?.1 hx;have hin:i<n:=by rcases Nat.lt_or_ge i n with h|h;exact h;rw[List.getElem?_eq_none (by omega)] at hi;cases hi
    obtain⟨v,cv,a,b,_⟩:=hcell i hin;rw[hi] at a;cases a;exact b
   ·have hj:j<n:=by rcases Nat.lt_or_ge j n with h|h;exact h;rw[List.getElem?_eq_none (by simp;omega)] at hv;cases hv
    obtain⟨v',cv,a,_,b,c⟩:=hcell j hj;simp [List.getElem?_map,List.getElem?_range hj,b] at hv;rw[Addr.add_lit,b,hv]
 ·cases hr
theorem sn(hE:dS E)(h:Rel base μ A w){t:TypeId}{a v:AV}{A':AW}{ca:Value}(hl:fR E t a A=.val v A')(ha:aQ μ a ca):
 A'=A∧∃cv,(Instr.loadAt t ca).run E.P w=.ok cv w∧aQ μ v cv:=by
 unfold fR at hl;split at hl
 ·rename_i f s o;cases ha with
  | ptr hp he=>
   rename_i p off;split at hl
   ·rename_i d hd;have ht:=hE t d hd;cases hagg:d.agg
    ·simp only[hagg,cond_false] at hl;split at hl
     ·rename_i cur ro es cs hF;cases hb:Nat.beq cur s
      ·simp [hb] at hl
      ·have hcs:cur=s:=Nat.eq_of_beq_eq_true hb;subst hcs;simp only[hb,cond_true] at hl;split at hl
       ·rename_i v' hv';cases hl;rw[fB] at hv';obtain⟨_,cv,a,b⟩:=Az h hF hp he hv';refine⟨rfl,cv,?_,b⟩;simp [Instr.loadAt,Instr.sureAddr,loadVar,ht.rf,hagg,a]
       ·cases hl
     ·cases hl
    ·simp only[hagg,cond_true] at hl;split at hl
     ·rename_i cs hcs;cases hl;obtain⟨cvs,a,b,c,e⟩:=kB h hcs hp he;refine⟨rfl,.agg cvs.toArray,?_,iE a c⟩;have:=run_loadCells_list (P:=E.P) w _ cvs e;rw[b] at this;simp [Instr.loadAt,Instr.sureAddr,loadVar,ht.rf,hagg,ht.du,this]
     ·cases hl
   ·cases hl
 ·cases hl
theorem uH(h:Rel base μ A w){f cur es o off:Nat}{cs cs' xs:List AV}{vs:List Value}{p:Pl}(hF:A.heap.get f=some (.cells cur false es cs))(hp:μ f cur=some p)
 (e:off+p.down=o+p.up) (hxs:bK μ xs vs) (h1:∀x∈xs,x.one=true) (hput:iL o xs cs=some cs') (hpos:0<xs.length) :
 ∃w',(storeCells ⟨p.c,off,none⟩ vs).run E.P w=.ok () w'∧Step base μ A w (μ.put f cur p) ⟨A.heap.set f (.cells cur false es cs'),A.aa⟩ w':=by
 obtain⟨arr,elem,fz,b1,b2,b3,b4,b5⟩:=h.yC f _ p hF hp;have hfz:=b4 rfl;subst hfz;have hlen:=hxs.1;have hvone:∀v∈vs,v.oneCell'=true:=fun v hv=>by
  obtain⟨i,hi⟩:=List.mem_iff_getElem?.1 hv;have hlt:i<xs.length:=by rw[hxs.1];rcases Nat.lt_or_ge i vs.length with h|h;exact h;rw[List.getElem?_eq_none h] at hi;cases hi
  have hx:xs[i]?=some xs[i]:=List.getElem?_eq_getElem hlt;exact (hxs.2 i _ v hx hi).one (h1 _ (List.mem_of_getElem? hx))
 have hfit:off+0+vs.length≤arr.size:=by
  rw[←hxs.1];obtain⟨q1,_⟩:=mw _ _ _ _ hput;have hl:cs[o+xs.length-1]?=some cs[o+xs.length-1]:=List.getElem?_eq_getElem (by omega);obtain⟨_,cv,a,_⟩:=b5 _ _ hl (by omega);have:=(Array.getElem?_eq_some_iff.1 a).1;omega
 have hrun:=run_storeCells_at E.P p.c off elem vs 0 arr w b1 hfit hvone;refine⟨_,hrun,?_⟩;refine Step.write (F':=.cells cur false es cs') (w1:=w.setRow p.c (arr.toList.take (off+0)++vs++arr.toList.drop (off+0+vs.length)).toArray) h hF rfl hp rfl (.inl rfl) ⟨rfl,rfl,rfl⟩ (by simp) (fun b hb=>setRow_other w p.c b _ hb) ?_;refine⟨_,elem,(0,0),setRow_heap w p.c arr _ elem _ b1,?_,b3,fun _=>rfl,fun i v hv hd=>?_⟩
 ·simp only[List.size_toArray,List.length_append,List.length_take,List.length_drop,Array.length_toList];omega
 ·rw[sg hput] at hv;simp only[List.getElem?_toArray,Nat.add_zero];by_cases hin:o≤i∧i<o+xs.length
  ·rw[if_pos hin] at hv;obtain⟨y,hy,hr⟩:=hxs.get hv;refine⟨h1 v (List.mem_of_getElem? hv),y,?_,hr⟩;rw[List.append_assoc,List.getElem?_append_right (by simp;omega),List.getElem?_append_left (by simp;omega)];rw[←hy]
   congr 1
   simp;omega
  ·rw[if_neg hin] at hv;obtain⟨ho,cv,a,b⟩:=b5 i v hv hd;refine⟨ho,cv,?_,b⟩;have hlt:=(Array.getElem?_eq_some_iff.1 a).1;have a':arr.toList[i+p.up-p.down]?=some cv:=by simpa using a
   by_cases hlo:i<o
   ·rw[List.append_assoc,List.getElem?_append_left (by simp;omega),List.getElem?_take_of_lt (by omega)];exact a'
   ·rw[List.getElem?_append_right (by simp;omega),List.getElem?_drop,←a']
    congr 1
    simp;omega
theorem xa(hE:dS E)(h:Rel base μ A w){t:TypeId}{a x v:AV}{A':AW}{ca cx:Value}(hl:rY E t a x A=.val v A')(ha:aQ μ a ca)(hx:aQ μ x cx):
 v=.undef∧∃w' μ',(Instr.storeAt t ca cx).run E.P w=.ok () w'∧Step base μ A w μ' A' w':=by
 unfold rY at hl;split at hl
 ·rename_i f s o;cases ha with
  | ptr hp he=>
   rename_i p off;split at hl
   ·rename_i d xs hd hxs;have ht:=hE t d hd;obtain⟨hrel,hone⟩:=jW hx hxs;cases hb:Nat.beq (len xs) d.size
    ·simp [hb] at hl
    ·simp only[hb,cond_true] at hl;have hsz:=Nat.eq_of_beq_eq_true hb;rw[ey] at hsz;cases hnil:isNil xs
     ·simp only[hnil,cond_false] at hl;have hpos:0<xs.length:=by
       rcases xs with _|⟨y,ys⟩
       ·simp [isNil] at hnil
       ·simp
      split at hl
      ·rename_i A2 hst;cases hl;refine⟨rfl,?_⟩;unfold lK at hst;split at hst
       ·rename_i cur ro es cs hF;cases hro:ro
        ·subst hro;simp only[cond_false] at hst;cases hb2:Nat.beq cur s
         ·simp [hb2] at hst
         ·have hcs:cur=s:=Nat.eq_of_beq_eq_true hb2;subst hcs;simp only[hb2,cond_true] at hst;split at hst
          ·rename_i cs' hput;cases hst;obtain⟨w',hw,hstep⟩:=uH (E:=E) h hF hp he hrel hone hput hpos;refine⟨w',_,?_,hstep⟩;have hcl:cx.cells.size=d.size:=by rw[←hsz,hrel.1];simp
           simp [Instr.storeAt,Instr.sureAddr,storeVar,ht.du,hcl,hw]
          ·cases hst
        ·simp [hro] at hst
       ·cases hst
      ·cases hl
     ·simp [hnil] at hl
   ·cases hl
 ·cases hl
end
end Go.AE
namespace Go.AE
variable[bu]
omit [bu] in
theorem AA(x y:Int): iadd x y=x+y:=by
 unfold iadd;split
 ·rfl
 ·rfl
omit [bu] in
theorem vI(x y:Int): Eh x y=x-y:=by
 unfold Eh;split
 ·rename_i a b;cases h:Nat.ble b a
  ·have hb:¬b≤a:=fun hle=>by rw[Nat.ble_eq_true_of_le hle] at h;cases h
   simp only[cond_false];have e1:Nat.sub (Nat.sub b a) 1=b-a-1:=rfl;rw[e1];simp only[Int.ofNat_eq_natCast,Int.negSucc_eq];omega
  ·have hb:b≤a:=Nat.le_of_ble_eq_true h;simp only[cond_true];have e1:Nat.sub a b=a-b:=rfl;rw[e1];simp only[Int.ofNat_eq_natCast];omega
 ·rfl
omit [bu] in
theorem blt_eq(a b:Nat): Nat.blt a b=decide (a<b):=by
 by_cases h:a<b
 ·simp only[h,decide_true];exact Nat.ble_eq_true_of_le h
 ·simp only[h,decide_false];cases hb:Nat.blt a b
  ·rfl
  ·exact absurd (Nat.le_of_ble_eq_true hb) h
omit [bu] in
theorem beq_eq(a b:Nat): Nat.beq a b=decide (a=b):=by
 by_cases h:a=b
 ·subst h;simp
 ·simp only[h,decide_false];cases hb:Nat.beq a b
  ·rfl
  ·exact absurd (Nat.eq_of_beq_eq_true hb) h
omit [bu] in
theorem iQ(x y:Int): Bp x y=decide (x<y):=by
 cases x with
 | ofNat a=>
  cases y with
  | ofNat b=>simp [Bp,blt_eq]
  | negSucc b=>simp only[Bp];exact (decide_eq_false (by simp only[Int.ofNat_eq_natCast,Int.negSucc_eq];omega)).symm
 | negSucc a=>
  cases y with
  | ofNat b=>simp only[Bp];exact (decide_eq_true (by simp only[Int.ofNat_eq_natCast,Int.negSucc_eq];omega)).symm
  | negSucc b=>
   simp only[Bp,blt_eq];apply decide_eq_decide.2;simp only[Int.negSucc_eq];omega
omit [bu] in
theorem nL(x y:Int): Cz x y=decide (x=y):=by
 cases x with
 | ofNat a=>
  cases y with
  | ofNat b=>simp only[Cz,beq_eq,Int.ofNat_eq_natCast];exact decide_eq_decide.2 (by omega)
  | negSucc b=>simp [Cz]
 | negSucc a=>
  cases y with
  | ofNat b=>simp [Cz]
  | negSucc b=>simp [Cz,beq_eq]
omit [bu] in
theorem bt(a b:IntKind): aT a b=decide (a=b):=by
 cases a<;>cases b<;>rfl
omit [bu] in
theorem AB{α:Type}(m N:Nat)(a b:α): (bif Nat.blt m N then a else b)=if m<N then a else b:=by
 rw[blt_eq];by_cases h:m<N<;>simp [h]
omit [bu] in
theorem Bv(n:Int): lI .i64 n=IntKind.i64.wrap n:=by
 cases n with
 | ofNat m=>
  refine (AB m 9223372036854775808 (Int.ofNat m) (IntKind.wrap .i64 (.ofNat m))).trans ?_;split
  ·exact (IntWalk.i64_in _ (by simp only[Int.ofNat_eq_natCast];omega)).symm
  ·rfl
 | negSucc m=>
  refine (AB m 9223372036854775808 (Int.negSucc m) (IntKind.wrap .i64 (.negSucc m))).trans ?_;split
  ·exact (IntWalk.i64_in _ (by simp only[Int.negSucc_eq];omega)).symm
  ·rfl
omit [bu] in
theorem CG(n:Int): lI .u8 n=IntKind.u8.wrap n:=by
 cases n with
 | ofNat m=>
  simp only[lI,IntKind.wrap_u8,Int.ofNat_eq_natCast];rfl
 | negSucc m=>rfl
omit [bu] in
theorem Bw(n:Int): lI .u64 n=IntKind.u64.wrap n:=by
 cases n with
 | ofNat m=>
  simp only[lI,IntKind.wrap,IntKind.bits,IntKind.signed,Int.ofNat_eq_natCast,Bool.false_and,Bool.false_eq_true,if_false];rfl
 | negSucc m=>rfl
omit [bu] in
theorem gJ(k:IntKind)(n:Int): lI k n=k.wrap n:=by
 cases k with
 | i64=>exact Bv n
 | u8=>exact CG n
 | u64=>exact Bw n
 | i8=>rfl
 | i16=>rfl
 | i32=>rfl
 | u16=>rfl
 | u32=>rfl
omit [bu] in
theorem jx{k:IntKind}{n:Int}{A A':AW}{v:AV}(h:nJ k n A=.val v A'): v=.int k n∧A'=A:=by
 unfold nJ at h;split at h
 ·rename_i m;have e:Nat.ble 0 m=true:=Nat.ble_eq_true_of_le (Nat.zero_le m);rw[e] at h;cases h;exact⟨rfl,rfl⟩
 ·rename_i m;have e:Nat.ble 0 m=true:=Nat.ble_eq_true_of_le (Nat.zero_le m);rw[e] at h;cases h;exact⟨rfl,rfl⟩
omit [bu] in
theorem eW{b:Bool}{A A':AW}{v:AV}(h:iZ b A=.val v A'): v=.bool b∧A'=A:=by
 cases b<;>(cases h;exact⟨rfl,rfl⟩)
omit [bu] in
theorem CH{α:Type}(P:Program): ∀(s:Sem α) (a:α),fY P s=some a→∀w,s.run P w=.ok a w:=by
 intro s
 induction s with
 | pure a=>intro b h w;simp only[fY,Option.some.injEq] at h;subst h;rfl
 | program k ih=>intro b h w;exact ih P b h w
 | _=>intro b h;cases h
theorem CI{μ:Mp}{x:Value}{v:AV}(h:back x=some v): aQ μ v x:=by
 unfold back at h;split at h<;>cases h
 ·exact .bool _
 ·exact .int _ _
 ·exact .float _ _
 ·exact .dh _ _ _
 ·exact .str _
theorem Bx{E:Env}{s:Sem Value}{A A':AW}{v:AV}(h:quiet E s A=.val v A'): A'=A∧∃x,(∀w,s.run E.P w=.ok x w)∧∀μ,aQ μ v x:=by
 unfold quiet at h;split at h
 ·rename_i x hx;split at h
  ·rename_i a ha;cases h;exact⟨rfl,x,CH _ _ _ hx,fun μ=>CI ha⟩
  ·cases h
 ·cases h
omit [bu] in
theorem yD(l:List UInt8): (l.map UInt8.toNat).map UInt8.ofNat=l:=by
 induction l with
 | nil=>rfl
 | cons a l ih=>simp [ih]
theorem sp{μ:Mp}{v:AV}{x y:Value}(h:mq v=some y)(hr:aQ μ v x): x=y:=by
 cases hr<;>simp only[mq,Option.some.injEq,reduceCtorEq] at h<;>try exact h
 case str s=>
  rw[←h,yD]
theorem qi{μ:Mp}:∀{l:List AV} {vs ys:List Value},lJ l=some ys→bK μ l vs→vs=ys
 | [],vs,ys,h,hr=>by simp only[lJ,Option.some.injEq] at h;subst h;exact hr.fH
 | v::l,vs,ys,h,hr=>by
  obtain⟨y,ys',rfl,h1,h2⟩:=hr.inv;simp only[lJ] at h;split at h
  ·rename_i a as ha has;cases h;rw[sp ha h1,qi has h2]
  ·cases h
theorem sq{μ:Mp}{v:AV}{x y:Value}(h:rX v=some y)(hr:aQ μ v x): x=y:=by
 unfold rX at h;split at h
 ·rename_i cs;obtain⟨us,rfl,h1,_⟩:=si hr;split at h
  ·rename_i vs hvs;cases h;rw[←qi hvs h1]
  ·cases h
 ·exact sp h hr
omit [bu] in
theorem pw{v:AV}{y:Value}(h:mq v=some y): y≠.nilIface:=by
 cases v<;>simp [mq] at h<;>subst h<;>simp
omit [bu] in
theorem sr{v:AV}{y:Value}(h:rX v=some y): y≠.nilIface:=by
 unfold rX at h;split at h
 ·split at h
  ·cases h;simp
  ·cases h
 ·exact pw h
omit [bu] in
theorem toNat_inj{a b:UInt8}:a.toNat=b.toNat↔a=b:=by
 constructor
 ·intro h;exact UInt8.toNat_inj.1 h
 ·rintro rfl;rfl
omit [bu] in
theorem st:∀(a b:List UInt8),dW (a.map UInt8.toNat) (b.map UInt8.toNat)=(a == b)
 | [],[]=>rfl
 | [],_::_=>rfl
 | _::_,[]=>rfl
 | x::a,y::b=>by
  simp only[List.map_cons,dW,beq_eq];by_cases h:x=y
  ·subst h;simp [st a b]
  ·have:x.toNat≠y.toNat:=fun e=>h (toNat_inj.1 e);simp [this,h]
omit [bu] in
theorem xb:∀(a b:List UInt8),strLt (a.map UInt8.toNat) (b.map UInt8.toNat)=Op.bytesLess a b
 | [],[]=>rfl
 | [],_::_=>rfl
 | _::_,[]=>rfl
 | x::a,y::b=>by
  simp only[List.map_cons,strLt,blt_eq,beq_eq,Op.bytesLess];by_cases h:x=y
  ·subst h;simp [xb a b]
  ·have h1:x.toNat≠y.toNat:=fun e=>h (toNat_inj.1 e);simp only[h1,decide_false,cond_false,UInt8.lt_iff_toNat_lt];by_cases h2:x.toNat<y.toNat<;>simp [h2,h]
end Go.AE
namespace Go.AE
variable[bu]
theorem jb(b:Bt): eJ b≤1:=by
 cases b<;>simp only[eJ]<;>(try (rename_i i;cases bu.b i))<;>simp
theorem Ej(b:Bt): Bo b≤eJ b:=by
 cases b<;>simp [eJ,Bo]
theorem Ek(b:Bt): eJ b≤Ee b:=by
 have:=jb b;cases b<;>simp_all [eJ,Ee]
theorem uI:∀l:List Bt,nH l≤aP l
 | []=>Nat.le_refl _
 | b::l=>by
  have h1:=uI l;have h2:=Ej b;show Bo b+2*nH l≤eJ b+2*aP l;omega
theorem px:∀l:List Bt,aP l≤rV l
 | []=>Nat.le_refl _
 | b::l=>by
  have h1:=px l;have h2:=Ek b;show eJ b+2*aP l≤Ee b+2*rV l;omega
theorem qj:∀l:List Bt,lG l=true→aP l=nH l
 | [],_=>rfl
 | b::l,h=>by
  simp only[lG] at h;cases hb:isConst b<;>rw[hb] at h<;>simp only[cond_true,cond_false,Bool.false_eq_true] at h;have h1:=qj l h;show eJ b+2*aP l=Bo b+2*nH l;rw[h1];cases b<;>simp_all [isConst,eJ,Bo]
theorem xc:∀l:List Bt,aP l<2 ^ gB l
 | []=>by simp [aP,gB]
 | b::l=>by
  have h1:=xc l;have h2:=jb b;show eJ b+2*aP l<2 ^ (gB l+1);rw[Nat.pow_succ];omega
theorem dm{l:List Bt}{n:Nat}(h:gB l≤n): aP l<2 ^ n:=
 Nat.lt_of_lt_of_le (xc l) (Nat.pow_le_pow_right (by decide) h)
theorem su:∀(c:Nat) (l:List Bt),aP (aB c l)=aP l / 2 ^ c
 | 0,l=>by cases l<;>simp [aB]
 | c+1,[]=>by simp [aB,aP]
 | c+1,b::l=>by
  have h:=su c l;have hb:=jb b;show aP (aB c l)=(eJ b+2*aP l) / 2 ^ (c+1);rw[h,Nat.pow_succ,Nat.mul_comm (2 ^ c) 2,←Nat.div_div_eq_div_mul];have e:(eJ b+2*aP l) / 2=aP l:=by omega
  rw[e]
theorem ie:∀(c:Nat) (l:List Bt),aP (gY c l)=aP l % 2 ^ c
 | 0,l=>by cases l<;>simp [gY,aP,Nat.mod_one]
 | c+1,[]=>by simp [gY,aP]
 | c+1,b::l=>by
  have h:=ie c l;have hb:=jb b;show eJ b+2*aP (gY c l)=(eJ b+2*aP l) % 2 ^ (c+1);rw[h,Nat.pow_succ,Nat.mul_comm (2 ^ c) 2,Nat.mod_mul];have e1:(eJ b+2*aP l) % 2=eJ b:=by omega
  have e2:(eJ b+2*aP l) / 2=aP l:=by omega
  rw[e1,e2]
theorem qk:∀(c:Nat) (l:List Bt),aP (nI c l)=2 ^ c*aP l
 | 0,l=>by simp [nI]
 | c+1,l=>by
  have h:=qk c l;show 0+2*aP (nI c l)=2 ^ (c+1)*aP l;rw[h,Nat.pow_succ,Nat.mul_comm (2 ^ c) 2,Nat.mul_assoc,Nat.zero_add]
theorem kC:∀(c:Nat) (l:List Bt),aP (lH c l)=aP l
 | 0,l=>by simp [lH]
 | c+1,[]=>by
  have h:=kC c [];show 0+2*aP (lH c [])=0;rw[h];rfl
 | c+1,b::l=>by
  have h:=kC c l;show eJ b+2*aP (lH c l)=eJ b+2*aP l;rw[h]
omit [bu] in
theorem lT:∀(c:Nat) (l:List Bt),gB l≤c→gB (lH c l)=c
 | 0,[],_=>rfl
 | 0,b::l,h=>by simp [gB] at h
 | c+1,[],_=>congrArg Nat.succ (lT c [] (Nat.zero_le _))
 | c+1,b::l,h=>congrArg Nat.succ (lT c l (Nat.le_of_succ_le_succ h))
omit [bu] in
theorem uJ:∀(c:Nat) (l:List Bt),gB (gY c l)≤c
 | 0,l=>by cases l<;>simp [gY,gB]
 | c+1,[]=>Nat.zero_le _
 | c+1,b::l=>Nat.succ_le_succ (uJ c l)
theorem CJ(b:Bt): eJ (Ef b)=1-eJ b:=by
 cases b<;>simp only[eJ,Ef]<;>(rename_i i;cases bu.b i)<;>rfl
theorem lU:∀l:List Bt,aP (ot l)+aP l+1=2 ^ gB l
 | []=>rfl
 | b::l=>by
  have h:=lU l;have hb:=jb b;show (eJ (Ef b)+2*aP (ot l))+(eJ b+2*aP l)+1=2 ^ (gB l+1);rw[CJ,Nat.pow_succ];omega
theorem sw(b:Bt): ∀l:List Bt,aP (l++[b])=aP l+2 ^ gB l*eJ b
 | []=>by simp [aP,gB]
 | a::l=>by
  have h:=sw b l;show eJ a+2*aP (l++[b])=(eJ a+2*aP l)+2 ^ (gB l+1)*eJ b;rw[h,Nat.pow_succ,Nat.mul_comm (2 ^ gB l) 2,Nat.mul_assoc,Nat.mul_add];omega
omit [bu] in
theorem El(b c m n:Nat)(hb:b≤1)(hc:c≤1): (b+2*m) ||| (c+2*n)=(b ||| c)+2*(m ||| n):=by
 have h1:((b+2*m) ||| (c+2*n)) / 2=m ||| n:=by
  rw[Nat.or_div_two];have e1:(b+2*m) / 2=m:=by omega
  have e2:(c+2*n) / 2=n:=by omega
  rw[e1,e2]
 have h2:((b+2*m) ||| (c+2*n)) % 2=b ||| c:=by
  have:=@Nat.or_mod_two_pow (b+2*m) (c+2*n) 1;rw[Nat.pow_one] at this;rw[this];have e1:(b+2*m) % 2=b:=by omega
  have e2:(c+2*n) % 2=c:=by omega
  rw[e1,e2]
 omega
theorem Em{a b c:Bt}(h:orB a b=some c): eJ c=eJ a ||| eJ b:=by
 have ha:=jb a;have hb:=jb b;have one:∀x,x≤1→1 ||| x=1∧x ||| 1=1∧0 ||| x=x∧x ||| 0=x:=by
  intro x hx;have:x=0∨x=1:=by omega
  rcases this with rfl|rfl<;>decide
 unfold orB at h;split at h
 ·cases h;exact ((one _ hb).2.2.1).symm
 ·cases h;exact ((one _ ha).2.2.2).symm
 ·cases h;exact ((one _ hb).1).symm
 ·cases h;exact ((one _ ha).2.1).symm
 ·cases h
theorem oJ:∀{l m r:List Bt},qb l m=some r→aP r=aP l ||| aP m
 | [],m,r,h=>by
  simp only[qb,Option.some.injEq] at h;subst h;show aP m=0 ||| aP m
  rw[Nat.zero_or]
 | a::l,[],r,h=>by
  simp only[qb,Option.some.injEq] at h;subst h;show aP (a::l)=aP (a::l) ||| 0
  rw[Nat.or_zero]
 | a::l,b::m,r,h=>by
  simp only[qb] at h;split at h
  ·rename_i c q hc hq;cases h;show eJ c+2*aP q=(eJ a+2*aP l) ||| (eJ b+2*aP m)
   rw[El _ _ _ _ (jb a) (jb b),Em hc,oJ hq]
  ·cases h
omit [bu] in
theorem xd{a b:Bt}(h:Eg a b=true): a=b:=by
 unfold Eg at h;split at h<;>(try simp only[beq_eq,decide_eq_true_eq,Bool.false_eq_true] at h)<;>(try rfl)
 ·rw[h]
 ·rw[h]
theorem nN:∀{l:List Bt},noBits l=true→aP l=0
 | [],_=>rfl
 | b::l,h=>by
  cases b<;>simp only[noBits,Bool.false_eq_true] at h;show 0+2*aP l=0;rw[nN h]
theorem gk:∀{l m:List Bt},jr l m=true→aP l=aP m
 | [],m,h=>by
  simp only[jr] at h;show 0=aP m;rw[nN h]
 | a::l,[],h=>by
  simp only[jr] at h;exact nN h
 | a::l,b::m,h=>by
  simp only[jr,Bool.and_eq_true] at h;rw[xd h.1];show eJ b+2*aP l=eJ b+2*aP m;rw[gk h.2]
omit [bu] in
theorem my:∀{l m:List Bt},qc l m=true→l=m
 | [],[],_=>rfl
 | [],_::_,h=>by simp [qc,Cy] at h
 | _::_,[],h=>by simp [qc] at h
 | a::l,b::m,h=>by
  simp only[qc,Bool.and_eq_true] at h;rw[xd h.1,my h.2]
theorem sB:∀(n b:Nat),aP (toBits n b)=b % 2 ^ n
 | 0,b=>by simp [toBits,aP,Nat.mod_one]
 | n+1,b=>by
  have h:=sB n (b / 2);show eJ (bif Nat.beq (b % 2) 1 then .one else .zero)+2*aP (toBits n (b / 2))=b % 2 ^ (n+1);rw[h,Nat.pow_succ,Nat.mul_comm (2 ^ n) 2,Nat.mod_mul,beq_eq];have e:b % 2=0∨b % 2=1:=by omega
  rcases e with e|e<;>simp [e,eJ]
theorem cR(μ:Mp)(k:IntKind)(l:List Bt): aQ μ (fU k l) (.int k (Int.ofNat (aP l))):=by
 unfold fU;cases h:lG l with
 | true=>rw[qj l h];exact .int _ _
 | false=>exact .bits _ _
end Go.AE
namespace Go.AE
variable[bu]
section
variable{E:Env}{base:Nat}{μ:Mp}{A:AW}{w:World}
def bw(E:Env)(base:Nat)(μ:Mp)(A:AW)(w:World)(s:Sem Value)(v:AV)(A':AW): Prop:=
 ∃cv w' μ',s.run E.P w=.ok cv w'∧aQ μ' v cv∧Step base μ A w μ' A' w'
theorem bw.same(h:Rel base μ A w){s:Sem Value}{v:AV}{cv:Value}(hr:s.run E.P w=.ok cv w)(hv:aQ μ v cv): bw E base μ A w s v A:=⟨cv,w,μ,hr,hv,Step.refl h⟩
theorem bw.quiet(h:Rel base μ A w){s:Sem Value}{v:AV}{A':AW}(hq:quiet E s A=.val v A'): bw E base μ A w s v A':=by
 obtain⟨rfl,x,hx,hv⟩:=Bx hq;exact bw.same h (hx w) (hv μ)
theorem xe(h:Rel base μ A w){op:BinOp}{t:TypeId}{k k':IntKind}{a b:Int}{v:AV}{A':AW}(hl:eK E op k a k' b A=.val v A'):
 bw E base μ A w (binOp op t (.int k a) (.int k' b)) v A':=by
 have hq:∀op',quiet E (binOp op' 0 (.int k a) (.int k' b)) A=.val v A'→bw E base μ A w (binOp op' t (.int k a) (.int k' b)) v A':=fun op' hq=>by
  have e:binOp op' t (.int k a) (.int k' b)=binOp op' 0 (.int k a) (.int k' b):=by cases op'<;>rfl
  rw[e];exact bw.quiet h hq
 unfold eK at hl;rw[bt] at hl;by_cases hk:k=k'
 ·subst hk;simp only[decide_true,cond_true] at hl;cases op
  case add=>
   obtain⟨rfl,rfl⟩:=jx hl;rw[gJ,AA];exact bw.same h (by simp [binOp,Op.intArith]) (.int _ _)
  case sub=>
   obtain⟨rfl,rfl⟩:=jx hl;rw[gJ,vI];exact bw.same h (by simp [binOp,Op.intArith]) (.int _ _)
  case mul=>
   obtain⟨rfl,rfl⟩:=jx hl;rw[gJ];exact bw.same h (by simp [binOp,Op.intArith]) (.int _ _)
  case eql=>
   obtain⟨rfl,rfl⟩:=eW hl;rw[nL];exact bw.same h (by simp [binOp,Op.intCmp];rfl) (.bool _)
  case neq=>
   obtain⟨rfl,rfl⟩:=eW hl;rw[nL];exact bw.same h (by simp [binOp,Op.intCmp];rfl) (.bool _)
  case lss=>
   obtain⟨rfl,rfl⟩:=eW hl;rw[iQ];exact bw.same h (by simp [binOp,Op.intCmp]) (.bool _)
  case leq=>
   obtain⟨rfl,rfl⟩:=eW hl;rw[iQ];exact bw.same h (by simp [binOp,Op.intCmp];by_cases h:a≤b<;>simp [h]<;>omega) (.bool _)
  case gtr=>
   obtain⟨rfl,rfl⟩:=eW hl;rw[iQ];exact bw.same h (by simp [binOp,Op.intCmp]) (.bool _)
  case geq=>
   obtain⟨rfl,rfl⟩:=eW hl;rw[iQ];exact bw.same h (by simp [binOp,Op.intCmp];by_cases h:b≤a<;>simp [h]<;>omega) (.bool _)
  all_goals exact hq _ hl
 ·simp only[hk,decide_false,cond_false] at hl;exact hq _ hl
theorem xf(h:Rel base μ A w){op:BinOp}{t:TypeId}{a b:ByteArray}{v:AV}{A':AW}
 (hl:uD op (a.data.toList.map UInt8.toNat) (b.data.toList.map UInt8.toNat) A=.val v A') : bw E base μ A w (binOp op t (.string a) (.string b)) v A':=by
 have hs:∀s:ByteArray,s.data.toList.length=s.size:=fun s=>by rw[Array.length_toList];rfl
 unfold uD at hl;cases op<;>simp only[] at hl<;>try (cases hl;done)
 case add=>
  simp only[ey,List.length_map,hs] at hl;cases hb:Nat.ble (Nat.add a.size b.size) 4611686018427387904
  ·rw[hb] at hl;cases hl
  ·rw[hb] at hl;cases hl;have hle:a.size+b.size≤4611686018427387904:=Nat.le_of_ble_eq_true hb;refine bw.same h (cv:=.string (a++b)) ?_ ?_
   ·have hm:IntKind.i64.max=9223372036854775807:=by decide
    simp only[binOp,Op.stringOp,hm];rw[Sem.run_ite,if_neg (by omega)];rfl
   ·have e:a.data.toList.map UInt8.toNat++b.data.toList.map UInt8.toNat=(a++b).data.toList.map UInt8.toNat:=by
     rw[ByteArray.data_append];simp
    rw[e];exact .str _
 all_goals
  obtain⟨rfl,rfl⟩:=eW hl;refine bw.same h (cv:=.bool _) ?_ (.bool _);simp only[binOp,Op.stringOp,ByteArray.toList_eq,st,xb];rfl
omit [bu] in
theorem xg(d:TypeDesc): (mV d=0→∃e,d=.pointer e)∧(mV d=1→∃e,d=.slice e)∧(mV d=2→∃a b,d=.map a b)∧(mV d=3→∃a b c,d=.func a b c):=by
 cases d<;>simp [mV]
theorem xh(hE:dS E){t:TypeId}{d:bH}{x y:AV}{k:Nat}{b:Bool}{cx cy:Value}(hn:CA x y=some (k,b))(hd:E.cf.get t=some d)(hk:mV d.desc=k)
 (hx:aQ μ x cx) (hy:aQ μ y cy) : (Op.equal t cx cy).run E.P w=.ok b w∧binOp .eql t cx cy=(do pure (.bool (←Op.equal t cx cy)))∧binOp .neq t cx cy=(do pure (.bool (!(←Op.equal t cx cy))))∧
  ∀op p q,(eqGuard op t p q cx cy).run E.P w=.ok () w:=by
 have ht:=hE t d hd;have hu:=ht.cX w;have step:∀r:Bool,(∀s,d.desc=s→mV s=k→((Op.equalIn 10000 t cx cy).run E.P w=.ok r w))→(Op.equal t cx cy).run E.P w=.ok r w:=fun r hr=>hr _ rfl hk;obtain⟨k0,k1,k2,k3⟩:=xg d.desc;cases x<;>cases y<;>simp only[CA,Option.some.injEq,Prod.mk.injEq,reduceCtorEq] at hn<;>obtain⟨rfl,rfl⟩:=hn<;>cases hx<;>cases hy<;>
  (refine⟨step _ fun s hs hks=>?_,rfl,rfl,fun op p q=>by cases op<;>rfl⟩
   unfold Op.equalIn;rw[Sem.run_bind,hu]
   first
    | (obtain⟨e,he⟩:=k0 hk;rw[he];rfl)
    | (obtain⟨e,he⟩:=k1 hk;rw[he];rfl)
    | (obtain⟨e,f,he⟩:=k2 hk;rw[he];rfl)
    | (obtain⟨e,f,g,he⟩:=k3 hk;rw[he];rfl))
end
end Go.AE
