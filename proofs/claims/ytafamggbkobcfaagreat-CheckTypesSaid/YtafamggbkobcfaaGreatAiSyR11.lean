/- A part of the proof of the statement CheckTypes. -/
import Derived.Test.YtafamggbkobcfaaGreatAiSyR9
namespace Go.Proofs.YtafamggbkobcfaaGreat.Ae
open Go.AE
set_option linter.unusedVariables false
set_option maxRecDepth 100000
theorem eH.cap{A:AW}{es n:Nat}{v:AV}{cs:List AV}(h:eH A es v n cs): lE A es v n cs:=by
 rcases h with ⟨rfl,rfl,rfl⟩|⟨f,t,rfl,h1,h2,h3⟩
 ·exact .inl ⟨rfl,rfl,rfl⟩
 ·exact .inr ⟨f,t,n,cs,rfl,h1,Nat.le_refl _,h3,h2,by rw[←h2,tL]⟩
theorem Ff{k l:Nat}(h:k≤l): (if (l:Int)<(k:Int) then (l:Int) else (k:Int))=(k:Int):=if_neg (by omega)
theorem Bi{w:List (Str×bM×Bool)}{n:Str}{y:bM}{vs:Vs}(hv:vs=w.map fun v=>(v.1,v.2.1))(h:(w.map Prod.fst).Nodup)(hf:bN vs n=none): ((w++[(n,y,false)]).map Prod.fst).Nodup:=by
 subst hv;have h':((w.map fun v=>(v.1,v.2.1)).map Prod.fst).Nodup:=by
  rw[List.map_map];exact h
 have:=wv (y:=y) h' hf;rw[mA,List.map_map] at this;rw[mA];exact this
theorem pZ{n b:Nat}(h:n≤1000000001)(hb:b≤64): eL n b=true:=cU (by omega) hb
set_option maxHeartbeats 8000000 in
theorem Cs{K:FuncId}{n m:Nat}(hS:DQ K n m){A:AW}{Y:DY}{lk:List Str}{t u0 u1 u2:Nd}{kv:AV}(hw:Wf A)(h:DC A Y false)(hlk:LK Y lk)(hm:0<Y.mt.l.length)(N:aI A (fun g=>g<Y.X.M) t kv)(hu0:t.l[0]?=some u0)(hu1:t.l[1]?=some u1)(hu2:t.l[2]?=some u2)(hE0:St m u0∧sz u0≤n)(hE2:St m u2∧sz u2≤n)(hv:Y.w.length+2+9001*m+2≤1000000000):
 aD (ES K) 65 [.ptr Y.X.dc 0 0,.agg (au t kv)] A fun r A1=>eG 1 A A1 Y false (match cP (Y.ev n) m lk Y.vars (ba t) with
  | none=>none
  | some vs1=>if there (Y.ev n).hs (named (eg t 1).s)∧bN vs1 t.s=none then (match cP (Y.ev n) m lk (vs1++[(t.s,named (eg t 1).s)]) (eg t 2) with
   | none=>none
   | some _=>some vs1) else none):=by
 refine ap rfl rfl rfl ?_;have T:DS A A Y (Y.set Y.vv Y.w Y.nl) false false:=DS.refl hw h;have hM:=h.le;refine gO ?_;refine bA rfl rfl rfl rfl ?_;generalize hf3:A.aa=f3;refine Ao (n:=6) (cs:=au t kv) hw h T hf3 ?_;intro A1 x3 p3 o1 c3 T;replace N:=N.k o1;obtain⟨fku0,sku0,oku0,cku0,eku0,rku0,aku0,ku0,hvu0,hsu0,hhu0,hlu0,Nu0,htu0⟩:=bv N hu0;have hku0:takeN 6 (aB (Nat.add oku0 (Nat.mul 0 6)) aku0)=some (au u0 ku0):=(htu0 6 0 (Nat.le_refl _)).trans rfl;obtain⟨fku1,sku1,oku1,cku1,eku1,rku1,aku1,ku1,hvu1,hsu1,hhu1,hlu1,Nu1,htu1⟩:=bv N hu1;have hku1:takeN 6 (aB (Nat.add oku1 (Nat.mul 1 6)) aku1)=some (au u1 ku1):=(htu1 6 0 (Nat.le_refl _)).trans rfl;obtain⟨fku2,sku2,oku2,cku2,eku2,rku2,aku2,ku2,hvu2,hsu2,hhu2,hlu2,Nu2,htu2⟩:=bv N hu2;have hku2:takeN 6 (aB (Nat.add oku2 (Nat.mul 2 6)) aku2)=some (au u2 ku2):=(htu2 6 0 (Nat.le_refl _)).trans rfl
 refine wI hvu0 hlu0 ?_;refine wK hhu0 hku0 ?_;refine zC rfl (hS T.Fi.wf T.ps (fun _=>hlk) hm Nu0 hE0.1 hE0.2 om) ?_;rintro r A2 ⟨vv2,ws2,b2,t2,n2,z2⟩;obtain⟨c3',p3'⟩:=t2.dg T.Fi.wf rfl c3 p3;replace c3:=c3';replace p3:=p3';clear c3' p3';replace Nu2:=t2.bl T.ps Nu2;replace hhu1:=t2.Fi.ae _ _ hhu1 fun e=>by
  rcases e with e|e
  ·have e:fku1=Y.X.dc:=e;omega
  ·have:=(T.ps.out _ e).1;have e:Y.X.M≤fku1:=this;omega
 replace hhu2:=t2.Fi.ae _ _ hhu2 fun e=>by
  rcases e with e|e
  ·have e:fku2=Y.X.dc:=e;omega
  ·have:=(T.ps.out _ e).1;have e:Y.X.M≤fku2:=this;omega
 replace T:DS A A2 Y (Y.set vv2 (Y.w++ws2.map un) Y.nl) false b2:=T.then hw rfl t2;have hwl:(Y.w++ws2.map un).length≤Y.w.length+1:=by rw[lA,lM];omega
 refine wI hvu1 hlu1 ?_;refine wK hhu1 hku1 ?_;refine zC rfl (mQ (Y:=(Y.set vv2 (Y.w++ws2.map un) Y.nl)) T.Fi.wf T.ps) ?_;rintro r A3 ⟨rfl,t3⟩;replace T:=T.step hw rfl t3;replace c3:=t3.Fi.ae _ _ c3 fun e=>p3 (.inl e);replace Nu2:=t3.bl Nu2;replace hhu2:=t3.Fi.ae _ _ hhu2 fun e=>by have e:fku2=Y.X.dc:=e;omega
 refine oP ?_;refine aq rfl rfl rfl ?_;refine zS (by rw[AW.add_get,iP rfl]) ?_;generalize hf4:A3.aa=f4;refine kN (n:=2) (cs:=bc (named u1.s)) hw h T hf4 ?_;intro A4 x4 p4 o4 c4 T;replace c3:=o4.k c3;replace Nu2:=Nu2.k o4;replace hhu2:=o4.k hhu2;refine tD ?_;refine aC ?_;refine zC rfl (jQ (Y:=(Y.set vv2 (Y.w++ws2.map un) Y.nl)) T.Fi.wf T.ps) ?_;rintro r22 A' ⟨e',z,rfl,hz⟩;obtain rfl:A4=A':=e'.symm;refine sA ?_;refine aC ?_;refine zC rfl (aG (Y:=(Y.set vv2 (Y.w++ws2.map un) Y.nl)) T.Fi.wf T.ps) ?_;rintro r A5 ⟨rfl,t5⟩;replace T:=T.step hw rfl t5;replace c3:=t5.Fi.ae _ _ c3 fun e=>p3 (.inl e);replace c4:=t5.Fi.ae _ _ c4 fun e=>p4 (.inl e);replace Nu2:=t5.bl Nu2;replace hhu2:=t5.Fi.ae _ _ hhu2 fun e=>by have e:fku2=Y.X.dc:=e;omega
 refine sA ?_;refine eD ?_;have hzz:decide (z<0)=decide (bN (Y.vars++ws2) t.s=none):=by
  rw[←pm (vv:=vv2) (nl:=Y.nl)];rcases hz with ⟨rfl,hz⟩|⟨i,v,rfl,hv',hvn,hz⟩
  ·rw[hz];rfl
  ·rw[hz];exact (yF om).trans (yF fun h=>by cases h).symm
 rw[hzz] at T ⊢;clear hzz hz;by_cases hf:bN (Y.vars++ws2) t.s=none
 ·rw[yT hf] at T ⊢;cases hbb:(!decide (there Y.X.hs (named u1.s)) || b2) with
  | true=>
   rw[hbb] at T;refine rU ?_;refine af rfl ⟨_,_,_,T,n2,fun _=>?_⟩;have:=rO (E:=Y.ev n) (m:=m) (lk:=lk) (vs:=Y.vars) (ws:=ws2) ⟨aW hu0,cO hu1,cO hu2⟩ (z2 rfl) (b3:=true) (b4:=true) (xs:=[]) (fun _=>rfl) (fun h=>by
    have h:(!decide (there Y.X.hs (named u1.s)) || b2)=false:=h;rw[hbb] at h;cases h) (fun _=>rfl) (fun h=>by cases h)
   rw[aN] at this;exact this
  | false=>
   rw[hbb] at T;refine da rfl ?_;have T:DS A A5 Y (Y.set vv2 (Y.w++ws2.map un) Y.nl) false false:=T;obtain⟨a0,hc⟩:=T.ps.cell;have hnod:=Bi (n:=t.s) (y:=named u1.s) rfl (T.ps.nd rfl) (by rw[←pm (vv:=vv2) (nl:=Y.nl)] at hf;exact hf);refine wJ T.ps.row.row.bm ?_;refine tD ?_;refine rD ?_;refine bQ (Q:=fun r=>Cut A5 4 r (Y.w++ws2.map un).length ((Y.w++ws2.map un).flatMap nE)∧dC r r=true) rfl rfl rfl rfl rfl (tK (t:=39) (d:=d39) (de:=d72) rfl rfl rfl T.ps.row.row) ?_;rintro r40 ⟨hcut,hs40⟩;refine eR ?_;refine rD ?_;refine zL c4 ?_;refine eR ?_;refine dR ?_;refine bW rfl rfl rfl rfl ?_;refine bq rfl rfl rfl ?_;refine oP ?_;refine aC ?_;refine bE rfl rfl rfl rfl rfl (od (n:=(Y.w++ws2.map un).length) (de:=d72) (xs:=nE (t.s,named u1.s,false)) rfl rfl rfl rfl T.Fi.wf hcut rfl dE (pZ om dE)) ?_
   rintro v46 A20 ⟨o20,hb20,hg20⟩;replace hc:=o20.k hc;replace Nu2:=Nu2.k o20;obtain⟨hhu2,c3⟩:=o20.k2 hhu2 c3;refine sA ?_;refine aC ?_;refine bx rfl rfl hb20.cells rfl rfl rfl hc rfl ?_;have hB:lE A20 4 v46 ((Y.w++ws2.map un)++[(t.s,named u1.s,false)]).length (((Y.w++ws2.map un)++[(t.s,named u1.s,false)]).flatMap nE):=by
    have:=eH.cap (A:=A20) (es:=4) hb20;rw[lA,fA];have e:([(t.s,named u1.s,false)]:List (Str×bM×Bool)).flatMap nE=nE (t.s,named u1.s,false):=rfl;rw[e];exact this
   have op:=ac.put (x:=.cells 0 false 18 ((Y.set v46 ((Y.w++ws2.map un)++[(t.s,named u1.s,false)]) Y.nl).cells false a0)) o20.wf (o20.wf _ _ hc);refine bG (fun A2=>DS A A2 Y (Y.set v46 ((Y.w++ws2.map un)++[(t.s,named u1.s,false)]) Y.nl) false false∧ac A20 A2 (one Y.X.dc)) ⟨DS.tW (Y1:=(Y.set vv2 (Y.w++ws2.map un) Y.nl)) (v':=v46) (w':=(Y.w++ws2.map un)++[(t.s,named u1.s,false)]) (nl':=Y.nl) hw T rfl (o20.mono fun _ h=>h.elim) hc hB (fun g hg=>.inr (hg20 g hg)) (by rw[lA,lS];omega) h.ll (fun _=>hnod),op⟩ ?_;clear op;rintro A21 ⟨T2,o21⟩;replace T:=T2;clear T2;have nm20:∀f,f<Y.X.M→¬one Y.X.dc f:=fun f h1 h2=>by have h2:f=Y.X.dc:=h2;omega
   replace Nu2:=Nu2.ae o21 fun g hg k=>nm20 g hg k;replace hhu2:=o21.ae _ _ hhu2 (nm20 _ hsu2);replace c3:=o21.ae _ _ c3 fun e=>p3 (.inl e);refine sA ?_;refine eD ?_;refine wI hvu2 hlu2 ?_;refine wK hhu2 hku2 ?_;have eun:(ws2++[(t.s,named u1.s)]).map un=ws2.map un++[(t.s,named u1.s,false)]:=mA;have hlk2:LK (Y.set v46 ((Y.w++ws2.map un)++[(t.s,named u1.s,false)]) Y.nl) lk:=by
    have:=(LK.app hlk (vv:=v46) (ws:=ws2++[(t.s,named u1.s)]) (by rw[eun,←aA];exact hnod));rw[eun,←aA] at this;exact this
   refine zC rfl (hS (Y:=(Y.set v46 ((Y.w++ws2.map un)++[(t.s,named u1.s,false)]) Y.nl)) (lk:=lk) T.Fi.wf T.ps (fun _=>hlk2) hm Nu2 hE2.1 hE2.2 (by rw[lA,lS];omega)) ?_;rintro r54 A22 ⟨vv9,ws9,b9,t9,n9,z9⟩;have T9:DS A A22 Y (Y.set vv9 ((Y.w++ws2.map un)++[(t.s,named u1.s,false)]++ws9.map un) Y.nl) false b9:=T.then hw rfl t9;obtain⟨a1,hc⟩:=T9.ps.cell;refine tD ?_;refine rD ?_;refine zJ T9.ps.row.row.bm ?_;refine eR ?_;refine ax rfl rfl rfl rfl rfl ?_;refine zy rfl rfl rfl ?_;refine eP ?_;have hle9:(Y.w++ws2.map un).length≤((Y.w++ws2.map un)++[(t.s,named u1.s,false)]++ws9.map un).length:=by simp only[lA];omega
   rw[Ff hle9];refine rD ?_;refine bQ (Q:=fun r=>lE A22 4 r (Y.w++ws2.map un).length ((((Y.w++ws2.map un)++[(t.s,named u1.s,false)]++ws9.map un).flatMap nE).take ((Y.w++ws2.map un).length*4))∧∀g,r.av g→vv9.av g) rfl rfl rfl rfl rfl (pk (d:=d39) (de:=d72) rfl rfl rfl T9.ps.row hle9) ?_;rintro r67 ⟨hr,hg⟩;refine eR ?_;refine aC ?_;refine bx rfl rfl hr.cells rfl rfl rfl hc rfl ?_;rw[yt,aA,List.take_left' rfl] at hr;refine bG (fun A2=>DS A A2 Y (Y.set r67 (Y.w++ws2.map un) Y.nl) false b9) (DS.tW (Y1:=Y.set vv9 ((Y.w++ws2.map un)++[(t.s,named u1.s,false)]++ws9.map un) Y.nl) (v':=r67) (w':=(Y.w++ws2.map un)) (nl':=Y.nl) hw T9 rfl (ac.refl T9.Fi.wf _) hc hr (fun g h=>.inl (hg g h)) om h.ll fun e=>?_) ?_
   ·have:=T9.ps.nd e;rw[aA,mA,List.nodup_append] at this;exact this.1
   intro A23 T10;refine sA ?_;refine eD ?_;refine bd rfl ⟨r67,ws2,b9,T10,n2,fun _=>?_⟩;have hv2:(Y.set v46 ((Y.w++ws2.map un)++[(t.s,named u1.s,false)]) Y.nl).vars=(Y.vars++ws2)++[(t.s,named u1.s)]:=by
    have:=pm (Y:=Y) (vv:=v46) (ws:=ws2++[(t.s,named u1.s)]) (nl:=Y.nl);rw[eun,←aA,←aA] at this;exact this
   have:=rO (E:=Y.ev n) (m:=m) (lk:=lk) (vs:=Y.vars) (ws:=ws2) ⟨aW hu0,cO hu1,cO hu2⟩ (z2 rfl) (b3:=false) (b4:=b9) (xs:=[]) (fun h=>by
    have h:(!decide (there Y.X.hs (named u1.s)) || b2)=true:=h;rw[hbb] at h;cases h) (fun _=>(yF fun h=>h hf).symm) (fun h=>by cases h) (fun _=>by
    have z9:=z9 rfl;rw[hv2] at z9;rw[aN];cases hs2:cP (Y.ev n) m lk ((Y.vars++ws2)++[(t.s,named u1.s)]) u2 with
    | none=>
     rw[show cP ((Y.set v46 ((Y.w++ws2.map un)++[(t.s,named u1.s,false)]) Y.nl).ev n) m lk ((Y.vars++ws2)++[(t.s,named u1.s)]) u2=none from hs2] at z9;exact z9
    | some us=>
     rw[show cP ((Y.set v46 ((Y.w++ws2.map un)++[(t.s,named u1.s,false)]) Y.nl).ev n) m lk ((Y.vars++ws2)++[(t.s,named u1.s)]) u2=some us from hs2] at z9;exact⟨z9.1,rfl⟩)
   rw[aN] at this;exact this
 ·rw[yF hf] at T ⊢;refine rU ?_;refine af rfl ⟨_,_,_,T,n2,fun _=>?_⟩;have:=rO (E:=Y.ev n) (m:=m) (lk:=lk) (vs:=Y.vars) (ws:=ws2) ⟨aW hu0,cO hu1,cO hu2⟩ (z2 rfl) (b3:=true) (b4:=true) (xs:=[]) (fun _=>rfl) (fun _=>(yT hf).symm) (fun _=>rfl) (fun h=>by cases h);rw[aN] at this;exact this
section
variable{E:Env}{C:bC}{all rest:List Oper}{l:Kn}{A:AW}{K:Kn→AW→Prop}{d:Tmp}{ty:TypeId}{pos:String}{after:Array Edge}
theorem DU{a b:Operand}{k:IntKind}{x y:Int}{ts:Array TypeId}(hd:Nat.blt d C.N=true)(ha:dw l a=some (.int k x))(hb:dw l b=some (.int k y))(h:WO E C all rest (.put d (.int k (if x<y then y else x)) l) A K):
 WO E C all (⟨some d,.call ⟨.builtin .max,#[a,b],ts⟩,ty,pos,after,none⟩::rest) l A K:=
 bR hd (fun F hF=>by
  show ao (match qe max2 (ev F a) [ev F b] with
   | some v=>.val v A
   | none=>.fail 126)=_
  rw[hF.ev ha,hF.ev hb];show ao (.val (.int k (bif Bp x y then y else x)) A)=_;rw[iQ];by_cases h:x<y
  ·rw[iP h,yT h];rfl
  ·rw[iN h,yF h];rfl) h
end
theorem Fg{i:Nat}:(if (i:Int)<0 then (0:Int) else (i:Int))=(i:Int):=if_neg (by omega)
theorem Bj:∀(w:List (Str×bM×Bool)) (i:Nat) (x:Str×bM×Bool) (q:Bool),w[i]?=some x→(w.flatMap nE).set (i*4+3) (.bool q)=(w.set i (x.1,x.2.1,q)).flatMap nE
 | [],i,x,q,h=>by cases h
 | y::w,0,x,q,h=>by
  simp only[List.getElem?_cons_zero,Option.some.injEq] at h;subst h;rfl
 | y::w,i+1,x,q,h=>by
  have ih:=Bj w i x q (by simpa using h);rw[List.flatMap_cons,List.set_cons_succ,List.flatMap_cons,←ih,show (i+1)*4+3=(i*4+3)+4 from by omega];rfl
theorem Bk{A:AW}{v:AV}{w:List (Str×bM×Bool)}{i:Nat}{x:Str×bM×Bool}(q:Bool)(hw:Wf A)(h:lE A 4 v w.length (w.flatMap nE))(hx:w[i]?=some x):
 ∃f t c all all',v=.slice f t 0 w.length c false∧A.heap.get f=some (.cells t false 4 all)∧iL (Nat.add (Nat.add 0 (Nat.mul i 4)) 3) [.bool q] all=some all'∧lE (A.put f (.cells t false 4 all')) 4 v (w.set i (x.1,x.2.1,q)).length ((w.set i (x.1,x.2.1,q)).flatMap nE)∧i<w.length:=by
 have hi:i<w.length:=(List.getElem?_eq_some_iff.1 hx).1;rcases h with ⟨_,h,_⟩|⟨f,t,c,all,rfl,h1,h2,h3,h4,h5⟩
 ·omega
 have e:Nat.add (Nat.add 0 (Nat.mul i 4)) 3=i*4+3:=by
  show 0+i*4+3=_;omega
 have hp:=pV (n:=i*4+3) (xs:=[AV.bool q]) (l:=all) (by rw[h4,lS];omega);refine⟨f,t,c,all,all.set (i*4+3) (.bool q),rfl,h1,?_,.inr ⟨f,t,c,_,by rw[List.length_set],by rw[AW.aw,iP rfl],by rw[List.length_set];exact h2,h3,by rw[List.length_set];exact h4,?_⟩,hi⟩
 ·rw[e,hp,List.set_eq_take_append_cons_drop,iP (by rw[h4];omega)];simp
 ·rw[List.length_set,List.take_set,←h5];exact (Bj w i x q hx).symm
theorem ug{α:Type}{l:List α}{i:Nat}{a:α}(h:l[i]?=some a): l.set i a=l:=by
 refine List.ext_getElem? fun j=>?_;rw[List.getElem?_set];by_cases e:i=j
 ·subst e;rw[iP rfl,h,iP (List.getElem?_eq_some_iff.1 h).1]
 ·rw[iN e]
theorem DV{w:List (Str×bM×Bool)}{i:Nat}{x:Str×bM×Bool}{q:Bool}(hx:w[i]?=some x): (w.set i (x.1,x.2.1,q)).map (fun v=>(v.1,v.2.1))=w.map fun v=>(v.1,v.2.1):=by
 rw[List.map_set];refine ug ?_;rw[List.getElem?_map,hx];rfl
theorem mR{w:List (Str×bM×Bool)}{i:Nat}{x:Str×bM×Bool}{q:Bool}(hx:w[i]?=some x): (w.set i (x.1,x.2.1,q)).map Prod.fst=w.map Prod.fst:=by
 rw[List.map_set];refine ug ?_;rw[List.getElem?_map,hx];rfl
end Go.Proofs.YtafamggbkobcfaaGreat.Ae
