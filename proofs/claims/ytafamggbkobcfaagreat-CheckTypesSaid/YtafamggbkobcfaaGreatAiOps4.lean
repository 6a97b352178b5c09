/- A part of the proof of the statement CheckTypes. -/
import Derived.Test.YtafamggbkobcfaaGreatAiOps2
import Derived.Lib.Strings
namespace Go.AE
set_option linter.unusedVariables false
variable[bu]
section
variable{E:Env}{base:Nat}{μ:Mp}{A:AW}{w:World}
omit [bu] in
theorem mY(hE:dS E)(w:World): ∀(fs:List Field) (pl:List (Nat×Nat)),ow E fs=some pl→
 ((fs.mapM (m:=Sem) fun f=>do pure (f.offset,←sizeOf f.type)).run E.P w)=.ok pl w
 | [],pl,h=>by simp only[ow,Option.some.injEq] at h;subst h;rfl
 | f::fs,pl,h=>by
  simp only[ow] at h;split at h
  ·rename_i d l hd hl;cases h;have h1:=(hE f.type d hd).du w;have h2:=mY hE w fs l hl;simp only[List.mapM_cons,Sem.run_bind,h1,Result.andThen_ok,Sem.run_pure,h2]
  ·cases h
theorem xm(hE:dS E)(h:Rel base μ A w){t:TypeId}{ps:List (Nat×AV)}{qs:Array (Nat×Value)}{v:AV}{A':AW}(hl:kP E t ps A=.val v A')(hp:BB μ ps qs.toList):
 bw E base μ A w (Instr.build t qs) v A':=by
 unfold kP at hl;split at hl
 ·rename_i d hd;have ht:=hE t d hd;split at hl
  ·rename_i z hz;obtain⟨zv,h1,h2,h3,_⟩:=ht.iF w hz μ;split at hl
   ·rename_i fields hdd;split at hl
    ·rename_i pl hpl;split at hl
     ·rename_i cs hcs;cases hl;have hs:=mY hE w _ _ hpl;have hs':(fields.mapM (m:=Sem) fun f=>do pure (f.offset,←sizeOf f.type)).run E.P w=.ok pl.toArray w:=by
       rw[Array.mapM_eq_mapM_toList,Sem.run_map,hs];rfl
      obtain⟨cells',a,b,c⟩:=jz (pl':=fun i=>pl.toArray[i]?) (fun i q hq=>by rw[fB] at hq;simpa using hq) hcs hp h2 h3;refine bw.same h (cv:=.agg cells') ?_ (by have:=iE b c;simpa using this);simp only[Instr.build,Sem.run_bind,h1,Result.andThen_ok,ht.cX,hdd,hs'];rw[a];rfl
     ·cases hl
    ·cases hl
   ·rename_i n e hdd;split at hl
    ·rename_i de hde;split at hl
     ·rename_i cs hcs;cases hl;have hs:=(hE e de hde).du w;obtain⟨cells',a,b,c⟩:=jz (pl':=fun i=>some (i*de.size,de.size)) (fun i q hq=>hq) hcs hp h2 h3;refine bw.same h (cv:=.agg cells') ?_ (by have:=iE b c;simpa using this);simp only[Instr.build,Sem.run_bind,h1,Result.andThen_ok,ht.cX,hdd,hs];rw[a];rfl
     ·cases hl
    ·cases hl
   ·cases hl
  ·cases hl
 ·cases hl
omit [bu] in
theorem iG(z:List AV): ∀n,(gh z n).length=n*z.length
 | 0=>by simp [gh]
 | n+1=>by simp [gh,iG z n,Nat.succ_mul];omega
omit [bu] in
theorem ql(z:List AV): ∀(n i:Nat),i<n*z.length→(gh z n)[i]?=z[i % z.length]?
 | 0,i,h=>by simp at h
 | n+1,i,h=>by
  rw[Nat.succ_mul] at h;simp only[gh];by_cases a:i<z.length
  ·rw[List.getElem?_append_left a,Nat.mod_eq_of_lt a]
  ·rw[List.getElem?_append_right (by omega),ql z n _ (by omega)]
   congr 1
   rw[←Nat.mod_eq_sub_mod (by omega)]
theorem kS{μ:Mp}{z:List AV}{zv:Array Value}(hz:bK μ z zv.toList)(hp:0<z.length)(n:Nat):
 bK μ (gh z n) ((Array.range (n*z.length)).map fun i=>zv[i % zv.size]!).toList:=by
 have e:zv.size=z.length:=by rw[hz.1];simp
 refine⟨by simp [iG],fun i x y hx hy=>?_⟩;have hi:i<n*z.length:=by
  rcases Nat.lt_or_ge i (n*z.length) with h|h
  ·exact h
  ·rw[List.getElem?_eq_none (by rw[iG];omega)] at hx;cases hx
 rw[ql z n i hi] at hx;have hm:i % z.length<z.length:=Nat.mod_lt _ hp;rw[Array.getElem?_toList,Array.getElem?_map,Array.getElem?_range,if_pos hi] at hy;simp only[Option.map_some,Option.some.injEq] at hy;subst hy;refine hz.2 (i % z.length) x _ hx ?_;rw[e,Array.getElem?_toList,getElem!_pos zv _ (by omega),Array.getElem?_eq_getElem (by omega)]
omit [bu] in
theorem jA{z:List AV}(h:∀x∈z,x.one=true): ∀n,∀x∈gh z n,x.one=true
 | 0,x,hx=>by cases hx
 | n+1,x,hx=>by
  simp only[gh,List.mem_append] at hx;rcases hx with hx|hx
  ·exact h x hx
  ·exact jA h n x hx
theorem mC{μ:Mp}{f c n m es sz:Nat}{ex:Bool}(hn:n≤m)(hm:m*es≤sz): aQ (μ.put f 0 ⟨c,0,0,sz,es⟩) (.slice f 0 0 n m ex) (.slice (some ⟨c,0,none⟩) n m):=
 .slice (Mp.eC _ _ _ _) rfl hn (Nat.le_refl _) (fun _=>rfl) (by simpa using hm)
theorem pB(hE:dS E)(h:Rel base μ A w){t:TypeId}{n:Nat}{ps:List (Nat×AV)}{qs:Array (Nat×Value)}{v:AV}{A':AW}(hl:fw E t n ps A=.val v A')(hp:BB μ ps qs.toList):
 bw E base μ A w (Instr.buildSlice t n qs) v A':=by
 unfold fw at hl;split at hl
 ·rename_i d hd;split at hl
  ·rename_i e hdd;split at hl
   ·rename_i de hde;split at hl
    ·rename_i z hz;cases hb:Nat.ble (Nat.mul n de.size) 4096
     ·rw[hb] at hl;cases hl
     ·cases hb1:Nat.ble 1 de.size
      ·rw[hb,hb1] at hl;cases hl
      ·rw[hb,hb1] at hl;simp only[cond_true] at hl;have hle:n*de.size≤4096:=Nat.le_of_ble_eq_true hb;have hpos:1≤de.size:=Nat.le_of_ble_eq_true hb1;split at hl
       ·rename_i cs hcs;cases hl;have ht:=hE t d hd;have hte:=hE e de hde;obtain⟨zv,h1,h2,h3,hsz,_⟩:=hte.iF w hz μ;have hr:=kS (n:=n) h2 (by omega);rw[hsz] at hr;obtain⟨cells',a,b,c⟩:=jz (pl':=fun i=>some (i*de.size,de.size)) (fun i q hq=>hq) hcs hp hr (jA h3 n);have hst:=jy hE h ⟨rfl,rfl,rfl⟩ rfl e de.size b c [];have hlen:cells'.toList.length=n*de.size:=by rw[←b.1,pA hcs,iG,hsz]
        refine⟨.slice (some ⟨w.heap.size,0,none⟩) n n,_,_,?_,mC (Nat.le_refl _) (by simp [hlen]),hst⟩;simp only[Instr.buildSlice,Sem.run_bind,ht.cX,hdd,Result.andThen_ok,hte.du];rw[Sem.run_ite,if_neg (by omega)];by_cases h0:n*de.size=0
        ·have e0:((Array.range (n*de.size)).map fun x=>(#[]:Array Value)[x % (#[]:Array Value).size]!)=((Array.range (n*de.size)).map fun i=>zv.cells[i % zv.cells.size]!):=by rw[h0];simp
         rw[Sem.run_ite,if_pos h0];simp only[Sem.run_bind,Sem.run_pure,Result.andThen_ok];rw[e0,a];simp only[Sem.run_bind,newRow,gi,Result.andThen_ok,Sem.run_pure,List.append_nil]
        ·rw[Sem.run_ite,if_neg h0];simp only[Sem.run_bind,h1,Result.andThen_ok,Sem.run_pure];rw[a];simp only[Sem.run_bind,newRow,gi,Result.andThen_ok,Sem.run_pure,List.append_nil]
       ·cases hl
    ·cases hl
   ·cases hl
  ·cases hl
 ·cases hl
theorem qI(hE:dS E)(h:Rel base μ A w){t:TypeId}{l c v:AV}{A':AW}{cl cc:Value}(hl:jt E t l c A=.val v A')(h1:aQ μ l cl)(h2:aQ μ c cc):
 bw E base μ A w (Instr.makeSlice t cl cc) v A':=by
 unfold jt at hl;split at hl
 ·rename_i k l k' c;cases h1;cases h2;split at hl
  ·rename_i d hd;split at hl
   ·rename_i e hdd;split at hl
    ·rename_i de hde;split at hl
     ·rename_i z hz;cases hb1:Nat.ble l c<;>rw[hb1] at hl<;>try (cases hl;done)
      cases hb2:Nat.ble c 1048576<;>rw[hb2] at hl<;>try (cases hl;done)
      cases hb3:Nat.ble de.bytes 1048576<;>rw[hb3] at hl<;>try (cases hl;done)
      cases hb4:Nat.ble 1 de.size<;>rw[hb4] at hl<;>try (cases hl;done)
      simp only[cond_true] at hl;cases hl;have i1:l≤c:=Nat.le_of_ble_eq_true hb1;have i2:c≤1048576:=Nat.le_of_ble_eq_true hb2;have i3:de.bytes≤1048576:=Nat.le_of_ble_eq_true hb3;have i4:1≤de.size:=Nat.le_of_ble_eq_true hb4;have ht:=hE t d hd;have hte:=hE e de hde;obtain⟨zv,z1,z2,z3,hsz,_⟩:=hte.iF w hz μ;obtain⟨i,j1,j2,j3⟩:=hte.wZ w;have hr:=kS (n:=c) z2 (by omega);rw[hsz] at hr;have hst:=jy hE h ⟨rfl,rfl,rfl⟩ rfl e de.size hr (jA z3 c) [];have hmul:de.bytes*c≤1099511627776:=by
       have:=Nat.mul_le_mul i3 i2;omega
      have hmul':(i.bytes:Int)*(c:Int)≤281474976710656:=by
       rw[j3];omega
      have hmul2:(i.bytes:Int)*(l:Int)≤281474976710656:=by
       have:=Nat.mul_le_mul_left de.bytes i1;rw[j3];omega
      have wl:IntKind.i64.wrap (Int.ofNat l)=(l:Int):=IntWalk.i64_in _ (by simp only[Int.ofNat_eq_natCast];omega);have wc:IntKind.i64.wrap (Int.ofNat c)=(c:Int):=IntWalk.i64_in _ (by simp only[Int.ofNat_eq_natCast];omega);refine⟨.slice (some ⟨w.heap.size,0,none⟩) l c,_,_,?_,mC i1 (by simp),hst⟩;simp only[Instr.makeSlice,Sem.run_bind,ht.cX,hdd,Result.andThen_ok,asInt,asIntOf,Sem.run_pure,j1,wl,wc];rw[Sem.run_ite,if_neg (by simp;omega)];simp only[Sem.run_bind,run_askRoom,Result.andThen_ok,hte.du,Int.toNat_natCast];by_cases h0:c*de.size=0
      ·have e0:((Array.range (c*de.size)).map fun x=>(#[]:Array Value)[x % (#[]:Array Value).size]!)=((Array.range (c*de.size)).map fun i=>zv.cells[i % zv.cells.size]!):=by rw[h0];simp
       rw[Sem.run_ite,if_pos h0];simp only[Sem.run_bind,Sem.run_pure,Result.andThen_ok,newRow,gi,List.append_nil];rw[e0]
      ·rw[Sem.run_ite,if_neg h0];simp only[Sem.run_bind,Sem.run_pure,Result.andThen_ok,newRow,gi,List.append_nil,z1]
     ·cases hl
    ·cases hl
   ·cases hl
  ·cases hl
 ·cases hl
theorem qJ(hE:dS E)(h:Rel base μ A w){s:TypeId}{x v:AV}{i:Nat}{A':AW}{cx:Value}(hl:aX E s x i A=.val v A')(hx:aQ μ x cx):
 bw E base μ A w (Instr.fieldAt s cx i) v A':=by
 unfold aX at hl;split at hl
 ·rename_i f t o d hd;split at hl
  ·rename_i fields hdd;split at hl
   ·rename_i fl hfl;rw[fB] at hfl;have hfl':fields[i]?=some fl:=by simpa using hfl
    split at hl
    ·rename_i df hdf;cases hb:Nat.ble 1 df.size
     ·rw[hb] at hl;cases hl
     ·rw[hb] at hl;cases hl;have hpos:1≤df.size:=Nat.le_of_ble_eq_true hb;cases hx with
      | ptr hp he=>
       rename_i p off;have ht:=hE s d hd;have htf:=(hE fl.type df hdf).du w;refine bw.same h (cv:=.pointer (some ⟨p.c,off+fl.offset,none⟩)) ?_ (.ptr hp (by show off+fl.offset+p.down=o+fl.offset+p.up;omega));simp only[Instr.fieldAt,Sem.run_bind,ht.cX,hdd,Result.andThen_ok,hfl',Instr.sureAddr,Sem.run_pure,fieldPlace,htf];rw[Sem.run_ite,if_neg (by omega)];simp only[Sem.run_pure,Result.andThen_ok,Addr.add_lit]
    ·cases hl
   ·cases hl
  ·cases hl
 ·cases hl
theorem sD(hE:dS E)(h:Rel base μ A w){t:TypeId}{cs:List AV}{off:Nat}{v:AV}{A':AW}{us:Array Value}(hl:qd E t cs off A=.val v A')(hc:bK μ cs us.toList)(h1:∀x∈cs,x.one=true):
 bw E base μ A w (part t us off) v A':=by
 unfold qd at hl;split at hl
 ·rename_i d hd;have ht:=hE t d hd;cases hagg:d.agg<;>rw[hagg] at hl
  ·simp only[cond_false] at hl;split at hl
   ·rename_i v' hv;cases hl;rw[fB] at hv;obtain⟨y,hy,hr⟩:=hc.get hv;have hy':us[off]?=some y:=by simpa using hy
    refine bw.same h (cv:=y) ?_ hr;simp only[part,Sem.run_bind,ht.rf,hagg,Result.andThen_ok,Bool.false_eq_true,if_false,hy',Sem.run_pure]
   ·cases hl
  ·simp only[cond_true] at hl;split at hl
   ·rename_i r hr;cases hl;obtain⟨e1,e2⟩:=eA _ _ _ hr;rw[cF] at e1;subst e1;have hx:=(hc.drop off).take d.size;refine bw.same h (cv:=.agg (us.extract off (off+d.size))) ?_ ?_
    ·simp only[part,Sem.run_bind,ht.rf,hagg,Result.andThen_ok,if_true,ht.du,Sem.run_pure]
    ·have e:us.extract off (off+d.size)=((us.toList.drop off).take d.size).toArray:=by
      apply Array.ext';simp [Array.toList_extract,List.extract_eq_take_drop]
     rw[e];exact iE hx fun x hx=>h1 x (List.mem_of_mem_drop (List.mem_of_mem_take hx))
   ·cases hl
 ·cases hl
theorem xn(hE:dS E)(h:Rel base μ A w){t:TypeId}{x v:AV}{i:Nat}{A':AW}{cx:Value}(hl:lO E t x i A=.val v A')(hx:aQ μ x cx):
 bw E base μ A w (Instr.field t cx i) v A':=by
 unfold lO at hl;split at hl
 ·rename_i cs d hd;obtain⟨us,rfl,hr,h1⟩:=si hx;split at hl
  ·rename_i fields hdd;split at hl
   ·rename_i fl hfl;rw[fB] at hfl;have hfl':fields[i]?=some fl:=by simpa using hfl
    obtain⟨cv,w',μ',a,b,c⟩:=sD hE h hl hr h1;refine⟨cv,w',μ',?_,b,c⟩;simp only[Instr.field,Sem.run_bind,(hE t d hd).cX,hdd,Result.andThen_ok,hfl',asAgg,Sem.run_pure];exact a
   ·cases hl
  ·cases hl
 ·cases hl
theorem qK(hE:dS E)(h:Rel base μ A w){t:TypeId}{x i v:AV}{A':AW}{cx ci:Value}(hl:aO E t x i A=.val v A')(hx:aQ μ x cx)(hi:aQ μ i ci):
 bw E base μ A w (Instr.indexAt t cx ci) v A':=by
 unfold aO at hl;split at hl
 ·rename_i k i d hd;cases hi;have ht:=hE t d hd;split at hl
  ·rename_i e hdd;split at hl
   ·rename_i f s o n c ex de hde;rw[blt_eq] at hl;by_cases hlt:i<n
    ·simp only[hlt,decide_true,cond_true] at hl;cases hl;cases hx with
     | slice hp he hn hc hxx hr=>
      rename_i p off cap;have hsz:=(hE e de hde).du w;refine bw.same h (cv:=.pointer (some ⟨p.c,off+i*de.size,none⟩)) ?_ (.ptr hp (by show off+i*de.size+p.down=o+i*de.size+p.up;omega));simp only[Instr.indexAt,asIntOf,Sem.run_bind,Sem.run_pure,Result.andThen_ok,ht.cX,hdd];rw[Sem.run_ite,if_pos (by simp only[Int.ofNat_eq_natCast];omega)];simp only[Sem.run_bind,hsz,Result.andThen_ok,Sem.run_pure,Addr.add_lit,Int.ofNat_eq_natCast,Int.toNat_natCast]
    ·simp [hlt] at hl
   ·cases hl
  ·rename_i n e hdd;split at hl
   ·rename_i f s o de hde;rw[blt_eq] at hl;by_cases hlt:i<n
    ·simp only[hlt,decide_true,cond_true] at hl;cases hl;cases hx with
     | ptr hp he=>
      rename_i p off;have hsz:=(hE e de hde).du w;refine bw.same h (cv:=.pointer (some ⟨p.c,off+i*de.size,none⟩)) ?_ (.ptr hp (by show off+i*de.size+p.down=o+i*de.size+p.up;omega));simp only[Instr.indexAt,asIntOf,Sem.run_bind,Sem.run_pure,Result.andThen_ok,ht.cX,hdd,Instr.sureAddr];rw[Sem.run_ite,if_pos (by simp only[Int.ofNat_eq_natCast];omega)];simp only[Sem.run_bind,hsz,Result.andThen_ok,Sem.run_pure,Addr.add_lit,Int.ofNat_eq_natCast,Int.toNat_natCast]
    ·simp [hlt] at hl
   ·cases hl
  ·cases hl
 ·cases hl
theorem xo(hE:dS E)(h:Rel base μ A w){t:TypeId}{x i v:AV}{A':AW}{cx ci:Value}(hl:iM E t x i A=.val v A')(hx:aQ μ x cx)(hi:aQ μ i ci):
 bw E base μ A w (Instr.index t cx ci) v A':=by
 unfold iM at hl;split at hl
 ·rename_i k i d hd;cases hi;have ht:=hE t d hd;split at hl
  ·rename_i hdd;split at hl
   ·split at hl
    ·rename_i s b hb;cases hl;rw[fB] at hb;cases hx with
     | str s=>
      have hb':∃u:UInt8,s[i]?=some u∧u.toNat=b:=by
       simp only[List.getElem?_map] at hb;cases hu:s.data.toList[i]? with
       | none=>rw[hu] at hb;cases hb
       | some u=>
        rw[hu] at hb;simp at hb;refine⟨u,?_,hb⟩;have hlt:i<s.data.toList.length:=(List.getElem?_eq_some_iff.1 hu).1;have hlt':i<s.size:=by rw[Array.length_toList] at hlt;exact hlt
        rw[getElem?_pos s i hlt'];have:=(List.getElem?_eq_some_iff.1 hu).2;rw[←this];rfl
      obtain⟨u,hu,rfl⟩:=hb';refine bw.same h (cv:=.int .u8 u.toNat) ?_ (.int _ _);simp only[Instr.index,asIntOf,Sem.run_bind,Sem.run_pure,Result.andThen_ok,ht.cX,hdd];rw[if_pos (by simp only[Int.ofNat_eq_natCast];omega)];simp only[Int.ofNat_eq_natCast,Int.toNat_natCast,hu,Sem.run_pure]
    ·cases hl
   ·cases hl
  ·rename_i n e hdd;split at hl
   ·rename_i cs de hde;obtain⟨us,rfl,hr,h1⟩:=si hx;rw[blt_eq] at hl;by_cases hlt:i<n
    ·simp only[hlt,decide_true,cond_true] at hl;obtain⟨cv,w',μ',a,b,c⟩:=sD hE h hl hr h1;refine⟨cv,w',μ',?_,b,c⟩;have hsz:=(hE e de hde).du w;simp only[Instr.index,asIntOf,Sem.run_bind,Sem.run_pure,Result.andThen_ok,ht.cX,hdd];rw[Sem.run_ite,if_pos (by simp only[Int.ofNat_eq_natCast];omega)];simp only[Sem.run_bind,hsz,Result.andThen_ok,Int.ofNat_eq_natCast,Int.toNat_natCast];exact a
    ·simp [hlt] at hl
   ·cases hl
  ·cases hl
 ·cases hl
end
end Go.AE
namespace Go.AE
set_option linter.unusedVariables false
variable[bu]
section
variable{E:Env}{base:Nat}{μ:Mp}{A:AW}{w:World}
def uv(μ:Mp): Option AV→Option Value→Prop
 | none,none=>True
 | some x,some y=>aQ μ x y
 | _,_=>False
theorem dI{P:Program}{μ:Mp}{x:AV}{cx:Value}{top top' d n:Nat}(hb:bound (some x) top d=some n)(hx:aQ μ x cx)(ht:top≤top')(code:BoundsCode)(w:World):
 (Instr.sliceBound cx top' code).run P w=.ok n w∧n≤top:=by
 cases hx<;>try (simp only[bound,reduceCtorEq] at hb;done)
 case int k m=>
  cases m with
  | negSucc m=>simp only[bound,reduceCtorEq] at hb
  | ofNat m=>
   simp only[bound] at hb;cases hle:Nat.ble m top
   ·rw[hle] at hb;cases hb
   ·rw[hle] at hb;simp only[cond_true,Option.some.injEq] at hb;subst hb;have:m≤top:=Nat.le_of_ble_eq_true hle;refine⟨?_,this⟩;simp only[Instr.sliceBound,asIntOf,Sem.run_bind,Sem.run_pure,Result.andThen_ok];rw[Sem.run_ite,if_pos (by simp only[Int.ofNat_eq_natCast];omega)];simp
theorem jX{P:Program}{μ:Mp}{lo hi:Option AV}{clo chi:Option Value}{n c cap h l:Nat}(hh:bound hi c n=some h)(hl:bound lo h 0=some l)(hlo:uv μ lo clo)(hhi:uv μ hi chi)
 (hc:c≤cap) (hn:n≤c) (isSlice:Bool) (w:World) : (Instr.sliceBounds isSlice n cap clo chi none).run P w=.ok (l,h,cap) w∧l≤h∧h≤c:=by
 have e1:∃s:Sem Nat,s.run P w=.ok h w∧h≤c∧(match chi with
  | some v=>Instr.sliceBound v cap (if isSlice then .sliceAcap else .sliceAlen)
  | none=>pure n)=s:=by
  cases hi with
  | none=>
   cases chi with
   | none=>simp only[bound,Option.some.injEq] at hh;subst hh;exact⟨_,rfl,hn,rfl⟩
   | some v=>exact hhi.elim
  | some x=>
   cases chi with
   | none=>exact hhi.elim
   | some v=>exact⟨_,(dI hh hhi hc _ w).1,(dI (P:=P) hh hhi hc .index w).2,rfl⟩
 obtain⟨s,s1,s2,s3⟩:=e1;have e2:l≤h∧∀code,(match clo with
  | some v=>Instr.sliceBound v h code
  | none=>pure 0).run P w=.ok l w:=by
  cases lo with
  | none=>
   cases clo with
   | none=>simp only[bound,Option.some.injEq] at hl;subst hl;exact⟨Nat.zero_le _,fun _=>rfl⟩
   | some v=>exact hlo.elim
  | some x=>
   cases clo with
   | none=>exact hlo.elim
   | some v=>exact⟨(dI (P:=P) hl hlo (Nat.le_refl _) .index w).2,fun code=>(dI hl hlo (Nat.le_refl _) code w).1⟩
 refine⟨?_,e2.1,s2⟩;have e3:=e2.2 .sliceB;subst s3;unfold Instr.sliceBounds;cases chi<;>cases clo<;>simp only[Sem.run_bind,Sem.run_pure,Result.andThen_ok,Option.isSome_none,Bool.false_eq_true,if_false] at s1 e3 ⊢<;>
  first
   | (rw[s1];simp only[Result.andThen_ok];rw[e3];rfl)
   | (cases s1;rw[e3];rfl)
   | (rw[s1];simp only[Result.andThen_ok];cases e3;rfl)
   | (cases s1;cases e3;rfl)
theorem qm{P:Program}{μ:Mp}{lo:Option AV}{hi mx:AV}{clo:Option Value}{chi cmx:Value}{n c cap m h l:Nat}(hm:bound (some mx) c 0=some m)(hh:bound (some hi) m 0=some h)(hl:bound lo h 0=some l)
 (hlo:uv μ lo clo) (hhi:aQ μ hi chi) (hmx:aQ μ mx cmx) (hc:c≤cap) (w:World) : (Instr.sliceBounds true n cap clo (some chi) (some cmx)).run P w=.ok (l,h,m) w∧l≤h∧h≤m∧m≤c:=by
 obtain⟨_,m1⟩:=dI (P:=P) hm hmx hc .index w;obtain⟨_,h1⟩:=dI (P:=P) hh hhi (Nat.le_refl _) .index w;have em:=(dI (P:=P) hm hmx hc .slice3Acap w).1;have eh:=(dI (P:=P) hh hhi (Nat.le_refl _) .slice3B w).1;have e2:l≤h∧∀code,(match clo with
  | some v=>Instr.sliceBound v h code
  | none=>pure 0).run P w=.ok l w:=by
  cases lo with
  | none=>
   cases clo with
   | none=>simp only[bound,Option.some.injEq] at hl;subst hl;exact⟨Nat.zero_le _,fun _=>rfl⟩
   | some v=>exact hlo.elim
  | some x=>
   cases clo with
   | none=>exact hlo.elim
   | some v=>exact⟨(dI (P:=P) hl hlo (Nat.le_refl _) .index w).2,fun code=>(dI hl hlo (Nat.le_refl _) code w).1⟩
 refine⟨?_,e2.1,h1,m1⟩;have e3:=e2.2 .slice3C;unfold Instr.sliceBounds;cases clo<;>simp only[Sem.run_bind,Sem.run_pure,Result.andThen_ok,if_true,em,eh,Option.isSome_some] at e3 ⊢
 ·cases e3;rfl
 ·rw[e3];rfl
theorem lr (hE : dS E) (h : Rel base μ A w) {t e : TypeId} {d de : bH} (hd : E.cf.get t = some d) (hdd : d.desc = .slice e) (hde : E.cf.get e = some de) {all cut v : AV} {lo hi mx : Option AV} {A' : AW} {clo chi cmx : Option Value}
    (hl : fc all cut lo hi mx A = .val v A') (hlo : uv μ lo clo) (hhi : uv μ hi chi) (hmx : uv μ mx cmx) {a : Option Addr} {cap : Nat} (hall : ∀ a', (a' = a ∨ a' = a.map (·.add (0 * de.size))) → aQ μ all (.slice a' 0 (cap - 0)))
    (hcut : ∀ a', (a' = a ∨ a' = a.map (·.add (0 * de.size))) → aQ μ cut (.slice a' 0 0)) : bw E base μ A w (Instr.sliceAt t (.slice a 0 cap) clo chi cmx) v A' := by
  have hu := (hE t d hd).cX w;have hsz := (hE e de hde).du w;unfold fc at hl;split at hl
  · cases cmx with
    | some _ => exact hmx.elim
    | none =>
      split at hl
      · rename_i hh l hhb hlb
        cases hl;have z1 : bound lo hh 0 = some l := by
          cases lo with
          | none => exact hlb
          | some x =>
            have := hhb;cases hi with
            | none => simp only [bound, Option.some.injEq] at hhb; subst hhb; exact hlb
            | some y =>
              cases chi with
              | none => exact hhi.elim
              | some cy => have := (dI (P := E.P) hhb hhi (Nat.le_refl _) .index w).2; have e0 : hh = 0 := by omega
                           subst e0; exact hlb
        obtain ⟨e1, e2, e3⟩ := jX (P := E.P) (n := 0) (c := 0) (cap := cap) hhb z1 hlo hhi (Nat.zero_le _) (Nat.le_refl _) true w;have h0 : hh = 0 := by omega
        have l0 : l = 0 := by omega
        subst h0; subst l0;by_cases hc : cap = 0
        · subst hc
          refine bw.same h (cv := .slice a (0 - 0) (0 - 0)) ?_ (hall _ (.inl rfl));simp only [Instr.sliceAt, Sem.run_bind, hu, hdd, Result.andThen_ok, Instr.slice, Sem.run_pure, e1, hsz, if_true]
        · refine bw.same h (cv := .slice (a.map (·.add (0 * de.size))) (0 - 0) (cap - 0)) ?_ (hall _ (.inr rfl))
          simp only [Instr.sliceAt, Sem.run_bind, hu, hdd, Result.andThen_ok, Instr.slice, Sem.run_pure, e1, hsz, hc, if_false]
      · cases hl
  · rename_i mxv
    cases cmx with
    | none => exact hmx.elim
    | some cm =>
      split at hl
      · rename_i m hiv hmb
        cases chi with
        | none => exact hhi.elim
        | some ch =>
          split at hl
          · rename_i hh l hhb hlb
            cases hl;have m0 : m = 0 := by have := (dI (P := E.P) hmb hmx (Nat.le_refl _) .index w).2; omega
            subst m0;have h0 : hh = 0 := by have := (dI (P := E.P) hhb hhi (Nat.le_refl _) .index w).2; omega
            subst h0;obtain ⟨e1, e2, e3, e4⟩ := qm (P := E.P) (n := 0) (c := 0) (cap := cap) hmb hhb hlb hlo hhi hmx (Nat.zero_le _) w;have l0 : l = 0 := by omega
            subst l0;refine bw.same h (cv := .slice a (0 - 0) (0 - 0)) ?_ (hcut _ (.inl rfl));simp only [Instr.sliceAt, Sem.run_bind, hu, hdd, Result.andThen_ok, Instr.slice, Sem.run_pure, e1, hsz, if_true]
          · cases hl
      · cases hl
theorem xp(hE:dS E)(h:Rel base μ A w){t:TypeId}{x v:AV}{lo hi mx:Option AV}{A':AW}{cx:Value}{clo chi cmx:Option Value}(hl:cQ E t x lo hi mx A=.val v A')(hx:aQ μ x cx)
 (hlo:uv μ lo clo) (hhi:uv μ hi chi) (hmx:uv μ mx cmx) : bw E base μ A w (Instr.sliceAt t cx clo chi cmx) v A':=by
 unfold cQ at hl;split at hl
 ·cases hl
 ·rename_i d hd;have ht:=hE t d hd;have hu:=ht.cX w;split at hl
  ·rename_i hdd;split at hl
   ·rename_i s;cases cmx with
    | some _=>exact hmx.elim
    | none=>
     cases hx with
     | str s=>
      unfold iC at hl;simp only[ey,List.length_map,Array.length_toList] at hl;split at hl
      ·rename_i hh hhb;split at hl
       ·rename_i l hlb;split at hl
        ·rename_i r hr;cases hl;obtain⟨e1,e2,e3⟩:=jX (P:=E.P) hhb hlb hlo hhi (Nat.le_refl _) (Nat.le_refl _) false w;obtain⟨q1,q2⟩:=eA _ _ _ hr;rw[cF] at q1;have q3:r=(s.extract l hh).data.toList.map UInt8.toNat:=by
          rw[q1,Lib.extract_data,List.map_take,List.map_drop];rfl
         refine bw.same h (cv:=.string (s.extract l hh)) ?_ (by rw[q3];exact .str _);simp only[Instr.sliceAt,Sem.run_bind,hu,hdd,Result.andThen_ok,Instr.slice,Option.isSome_none,Bool.false_eq_true,if_false];have e1':(Instr.sliceBounds false s.size s.size clo chi none).run E.P w=.ok (l,hh,s.size) w:=e1;simp only[e1',Result.andThen_ok,Sem.run_pure]
        ·cases hl
       ·cases hl
      ·cases hl
   ·cases hl
  ·rename_i n e hdd;split at hl
   ·rename_i f s o de hde;cases cmx with
    | some _=>exact hmx.elim
    | none=>
     cases hx with
     | ptr hp he=>
      rename_i p off;unfold lL at hl;split at hl
      ·rename_i cur ro es' cs hF;cases hb:(Nat.beq es' de.size && (Nat.beq cur s && (Nat.ble 1 de.size && Nat.ble (Nat.add o (Nat.mul n de.size)) (len cs))))
       ·rw[hb] at hl;cases hl
       ·rw[hb] at hl;simp only[Bool.and_eq_true] at hb;obtain⟨b1,b2,b3,b4⟩:=hb;have c1:=Nat.eq_of_beq_eq_true b1;have c2:=Nat.eq_of_beq_eq_true b2;have c3:1≤de.size:=Nat.le_of_ble_eq_true b3;have c4:o+n*de.size≤len cs:=Nat.le_of_ble_eq_true b4;rw[ey] at c4;subst c1;subst c2;simp only[cond_true] at hl;split at hl
        ·rename_i hh hhb;split at hl
         ·rename_i l hlb;obtain⟨e1,e2,e3⟩:=jX (P:=E.P) hhb hlb hlo hhi (Nat.le_refl _) (Nat.le_refl _) false w;have hsz:=(hE e de hde).du w;cases hq:Nat.beq l n<;>rw[hq] at hl<;>simp only[cond_true,cond_false] at hl<;>cases hl
          ·have hne:¬n=l:=fun e=>by subst e;simp at hq
           refine bw.same h (cv:=.slice (some ⟨p.c,off+l*de.size,none⟩) (hh-l) (n-l)) ?_ ?_
           ·simp only[Instr.sliceAt,Sem.run_bind,hu,hdd,Result.andThen_ok,Instr.sureAddr,Sem.run_pure,e1,hsz,hne,if_false,Addr.add_lit]
           ·obtain⟨arr,elem,fz,a1,a2,a3,a4,a5⟩:=h.yC f _ p hF hp;have hpos:1*1≤n*de.size:=Nat.mul_le_mul (by omega) c3;have hlt:o+n*de.size-1<cs.length:=by omega
            obtain⟨_,cv,d1,_⟩:=a5 _ _ (List.getElem?_eq_getElem hlt) (by omega);have d2:=(Array.getElem?_eq_some_iff.1 d1).1;have d3:l*de.size+(n-l)*de.size=n*de.size:=by rw[←Nat.add_mul];congr 1;omega
            refine .slice hp (by show off+l*de.size+p.down=o+l*de.size+p.up;omega) (by show hh-l≤n-l;omega) (Nat.le_refl _) (fun _=>rfl) ?_;rw[a3];omega
          ·have heq:l=n:=Nat.eq_of_beq_eq_true hq;subst heq;have h0:hh-l=0:=by omega
           refine bw.same h (cv:=.slice (some ⟨p.c,off,none⟩) (hh-l) (l-l)) ?_ ?_
           ·simp only[Instr.sliceAt,Sem.run_bind,hu,hdd,Result.andThen_ok,Instr.sureAddr,Sem.run_pure,e1,hsz,if_true]
           ·rw[h0];exact .emp _ (fun _=>by omega)
         ·cases hl
        ·cases hl
      ·cases hl
   ·cases hl
  ·rename_i e hdd;split at hl
   ·rename_i f s o n c ex;split at hl
    ·rename_i de hde;cases hx with
     | slice hp he hn hc hxx hr=>
      rename_i p off cap;have hsz:=(hE e de hde).du w;unfold eU at hl;split at hl
      ·rename_i cur ro es' cs hF;cases hb:(Nat.beq es' de.size && Nat.beq cur s)
       ·rw[hb] at hl;cases hl
       ·rw[hb] at hl;simp only[Bool.and_eq_true] at hb;obtain⟨b1,b2⟩:=hb;have c1:=Nat.eq_of_beq_eq_true b1;have c2:=Nat.eq_of_beq_eq_true b2;subst c1;subst c2;obtain⟨arr,elem,fz,a1,a2,a3,a4,a5⟩:=h.yC f _ p hF hp;rw[a3] at hr;simp only[cond_true] at hl;split at hl
        ·cases cmx with
         | some _=>exact hmx.elim
         | none=>
          split at hl
          ·rename_i hh hhb;split at hl
           ·rename_i l hlb;obtain⟨e1,e2,e3⟩:=jX (P:=E.P) hhb hlb hlo hhi hc hn true w;cases hq:Nat.beq l c<;>rw[hq] at hl<;>simp only[cond_true,cond_false] at hl<;>cases hl
            ·have hne':¬c=l:=fun e=>by subst e;simp at hq
             have hne:¬cap=l:=by omega
             refine bw.same h (cv:=.slice (some ⟨p.c,off+l*de.size,none⟩) (hh-l) (cap-l)) ?_ ?_
             ·simp only[Instr.sliceAt,Sem.run_bind,hu,hdd,Result.andThen_ok,Instr.slice,Sem.run_pure,e1,hsz,hne,if_false,Option.map_some,Addr.add_lit]
             ·have d3:l*de.size+(cap-l)*de.size=cap*de.size:=by rw[←Nat.add_mul];congr 1;omega
              refine .slice hp (by show off+l*de.size+p.down=o+l*de.size+p.up;omega) (by show hh-l≤c-l;omega) (by show c-l≤cap-l;omega) (fun hx=>by have:=hxx hx;show cap-l=c-l;omega) ?_;rw[a3];omega
            ·have heq:l=c:=Nat.eq_of_beq_eq_true hq;have h0:hh-l=0:=by omega
             by_cases hm:cap=l
             ·subst hm;refine bw.same h (cv:=.slice (some ⟨p.c,off,none⟩) (hh-cap) (cap-cap)) ?_ ?_
              ·simp only[Instr.sliceAt,Sem.run_bind,hu,hdd,Result.andThen_ok,Instr.slice,Sem.run_pure,e1,hsz,if_true]
              ·rw[h0];exact .emp _ (fun hx=>by omega)
             ·refine bw.same h (cv:=.slice (some ⟨p.c,off+l*de.size,none⟩) (hh-l) (cap-l)) ?_ ?_
              ·simp only[Instr.sliceAt,Sem.run_bind,hu,hdd,Result.andThen_ok,Instr.slice,Sem.run_pure,e1,hsz,hm,if_false,Option.map_some,Addr.add_lit]
              ·rw[h0];exact .emp _ (fun hx=>by have:=hxx hx;omega)
           ·cases hl
          ·cases hl
        ·rename_i mxv;cases cmx with
         | none=>exact hmx.elim
         | some cm=>
          split at hl
          ·rename_i m hiv hmb;cases chi with
           | none=>exact hhi.elim
           | some ch=>
            split at hl
            ·rename_i hh hhb;split at hl
             ·rename_i l hlb;obtain⟨e1,e2,e3,e4⟩:=qm (P:=E.P) (n:=n) hmb hhb hlb hlo hhi hmx hc w;cases hq:Nat.beq l m<;>rw[hq] at hl<;>simp only[cond_true,cond_false] at hl<;>cases hl
              ·have hne:¬m=l:=fun e=>by subst e;simp at hq
               refine bw.same h (cv:=.slice (some ⟨p.c,off+l*de.size,none⟩) (hh-l) (m-l)) ?_ ?_
               ·simp only[Instr.sliceAt,Sem.run_bind,hu,hdd,Result.andThen_ok,Instr.slice,Sem.run_pure,e1,hsz,hne,if_false,Option.map_some,Addr.add_lit]
               ·have d3:l*de.size+(m-l)*de.size=m*de.size:=by rw[←Nat.add_mul];congr 1;omega
                have d4:m*de.size≤cap*de.size:=Nat.mul_le_mul_right _ (by omega);refine .slice hp (by show off+l*de.size+p.down=o+l*de.size+p.up;omega) (by show hh-l≤m-l;omega) (Nat.le_refl _) (fun _=>rfl) ?_;rw[a3];omega
              ·have heq:l=m:=Nat.eq_of_beq_eq_true hq;have h0:hh-l=0:=by omega
               subst heq;refine bw.same h (cv:=.slice (some ⟨p.c,off,none⟩) (hh-l) (l-l)) ?_ ?_
               ·simp only[Instr.sliceAt,Sem.run_bind,hu,hdd,Result.andThen_ok,Instr.slice,Sem.run_pure,e1,hsz,if_true]
               ·rw[h0];exact .emp _ (fun hx=>by omega)
             ·cases hl
            ·cases hl
          ·cases hl
      ·cases hl
    ·cases hl
   ·split at hl
    ·rename_i de hde;cases hx;exact lr hE h hd hdd hde hl hlo hhi hmx (fun a' ha=>by rcases ha with rfl|rfl<;>exact .aj) (fun a' ha=>by rcases ha with rfl|rfl<;>exact .aj)
    ·cases hl
   ·split at hl
    ·rename_i de hde;cases hx with
     | emp a hz=>
      exact lr hE h hd hdd hde hl hlo hhi hmx (fun a' ha=>by rcases ha with rfl|rfl<;>exact .emp _ (fun hx=>by have:=hz hx;omega))
       (fun a' ha=>by rcases ha with rfl|rfl<;>exact .emp _ (fun _=>rfl))
    ·cases hl
   ·cases hl
  ·cases hl
end
end Go.AE
