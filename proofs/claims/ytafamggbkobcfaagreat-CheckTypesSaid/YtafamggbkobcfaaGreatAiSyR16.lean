/- A part of the proof of the statement CheckTypes. -/
import Derived.Test.YtafamggbkobcfaaGreatAiSyR15
namespace Go.Proofs.YtafamggbkobcfaaGreat.Ae
open Go.AE
set_option linter.unusedVariables false
set_option maxRecDepth 100000
theorem nb{p:Prop}[Decidable p]:(!decide p)=false↔p:=by
 by_cases h:p<;>simp [h]
theorem nbf{p:Prop}[Decidable p]{b:Bool}:(!decide p || b)=false↔p∧b=false:=by
 rw[Bool.or_eq_false_iff,nb]
theorem Ct{hs:Hs}{m:Nd}:yk hs m=true↔there hs (named (ba m).s)∧(m.k=4→∀p∈params m,there hs (named (ba p).s)):=by
 unfold yk kq;rw[List.all_eq_true];by_cases h:m.k=4
 ·rw[iP h];constructor
  ·exact fun k=>⟨of_decide_eq_true (k _ List.mem_cons_self),fun _ p hp=>of_decide_eq_true (k _ (List.mem_cons_of_mem _ (List.mem_map_of_mem hp)))⟩
  ·rintro ⟨k1,k2⟩ x hx;rcases List.mem_cons.1 hx with rfl|hx
   ·exact yT k1
   ·obtain⟨p,hp,rfl⟩:=List.mem_map.1 hx;exact yT (k2 h p hp)
 ·rw[iN h];constructor
  ·exact fun k=>⟨of_decide_eq_true (k _ List.mem_cons_self),fun e=>absurd e h⟩
  ·rintro ⟨k1,_⟩ x hx;rw[List.mem_singleton.1 hx];exact yT k1
theorem vz{l:List Nd}{k:Nat}{x:Nd}{s:Str}(hx:l[k]?=some x): (l.take (k+1)).find? (fun o=>decide (o.s=s))=none↔(l.take k).find? (fun o=>decide (o.s=s))=none∧x.s≠s:=by
 obtain⟨hk,rfl⟩:=List.getElem?_eq_some_iff.1 hx;rw[tS hk,List.find?_append,Option.or_eq_none_iff,List.find?_cons];by_cases e:l[k].s=s
 ·rw[yT e];exact⟨fun k=>(by cases k.2),fun k=>absurd e k.2⟩
 ·rw[yF e];exact⟨fun k=>⟨k.1,e⟩,fun k=>⟨k.1,rfl⟩⟩
set_option maxHeartbeats 8000000 in
theorem uB{K:FuncId}{A:AW}{Y:DY}{c:Nd}{kv:AV}(hw:Wf A)(h:DC A Y false)(N:aI A (fun g=>g<Y.X.M) c kv)(h0:0<c.l.length)(hmem:∀m∈c.l.drop 1,jK m)(hsm:∀m∈c.l.drop 1,qF m)(hk34:∀m∈c.l.drop 1,m.k=3∨m.k=4){rest:List Str}(hup:nj Y.X.hs c.s=c.s::up Y.X.hs c.s::rest):
 aD (ES K) 23 [.ptr Y.X.dc 0 0,.agg (au c kv)] A fun r A1=>∃b1,DT A A1 Y false b1∧(b1=false↔eT Y.X.t.l Y.X.hs c):=by
 refine ap rfl rfl rfl ?_;have T:=DT.refl hw h;refine gO ?_;have hlv:=N.bm;have hl9:=N.len;refine bA rfl rfl rfl rfl ?_;generalize hf3:A.aa=f3;refine fX (n:=6) (cs:=au c kv) hw h T hf3 ?_;intro A1 x3 p3 o1 c3 T;replace N:=N.k o1;obtain⟨a0,hc⟩:=T.ps.cell;unfold DY.more at hc;refine tD ?_;refine aC ?_;refine zC rfl (pT T.Fi.wf T.ps.ri T.ps.ht.xV T.ps.ht.ups T.ps.hd T.ps.ht.len) ?_;rintro r9 A2 ⟨hb9,o2,g9⟩;replace T:=T.quiet o2;replace c3:=o2.k c3;replace N:=N.k o2;rw[hup] at hb9;obtain⟨f9,t9,q9,cc9,ex9,ro9,all9,hv9,hh9,hl9',hat9⟩:=cZ hb9.row (i:=1) (s:=up Y.X.hs c.s) rfl;refine sA ?_;refine dR ?_;refine ax rfl rfl rfl rfl rfl ?_;refine zI 1 hv9 hl9' ?_;refine eP ?_;refine rD ?_;refine zE hh9 hat9 ?_;refine eR ?_;refine aC ?_;refine sA ?_;refine aK ?_;clear hb9 g9 hv9 hh9 hl9' hat9 hc;refine gO ?_;obtain⟨ms,hms⟩:∃ms,c.l.drop 1=ms:=⟨_,rfl⟩
 have hcl:c.l.length=ms.length+1:=by
  rw[←hms,List.length_drop];omega
 have hget:∀(j:Nat),ms[j]?=c.l[j+1]?:=fun j=>by rw[←hms,List.getElem?_drop,Nat.add_comm]
 rw[hms] at hmem hsm hk34;refine aE ?_;refine yL (pp 0 Y.X.dc (pp 3 f3 (pv 4 (.str (up Y.X.hs c.s)) (pn 5 (en (ms.take 0) : Nat) (pn 6 (cG (ms.take 0) : Nat) (pn 7 (0+1:Nat) .nil)))))) ?_;refine aV (ι:=Nat×Bool) (fun i=>ms.length-i.1) (fun i=>(pp 0 Y.X.dc (pp 3 f3 (pv 4 (.str (up Y.X.hs c.s)) (pn 5 (en (ms.take i.1) : Nat) (pn 6 (cG (ms.take i.1) : Nat) (pn 7 (i.1+1:Nat) .nil)))))))
  (fun i B=>DT A B Y false i.2∧i.1≤ms.length∧gt B f3 6 (au c kv)∧aI B (fun g=>g<Y.X.M) c kv∧(i.2=false↔∀(j:Nat) (m:Nd),j<i.1→ms[j]?=some m→jl Y.X.t.l Y.X.hs (up Y.X.hs c.s) ms j m)) ?_ (0,false) A2 ⟨T,Nat.zero_le _,c3,N,fun _ j m hj _=>absurd hj (Nat.not_lt_zero _),fun _=>rfl⟩
 clear T c3 N;rintro ⟨i,b0⟩ A20 ⟨T,hi,c3,N,hz⟩ ih;replace T:DT A A20 Y false b0:=T;replace hi:i≤ms.length:=hi;replace hz:(b0=false↔∀(j:Nat) (m:Nd),j<i→ms[j]?=some m→jl Y.X.t.l Y.X.hs (up Y.X.hs c.s) ms j m):=hz;have nF:=Bf (ms.take i);have nM:=ym (ms.take i);have nT:(ms.take i).length≤9000:=by rw[List.length_take];omega
 have l3:=T.Fi.wf _ _ c3;obtain⟨a0,hc⟩:=T.ps.cell;refine wJ hlv ?_;have fin:(b0=true∨i=ms.length)→(b0=false↔eT Y.X.t.l Y.X.hs c):=fun hE=>by
  rw[hz];unfold eT;rw[hms];refine⟨fun h=>?_,fun h j m _ hm=>h j m hm⟩;rcases hE with hE|hE
  ·rw[hz.2 h] at hE;cases hE
  ·exact fun j m hm=>h j m (by have:=(List.getElem?_eq_some_iff.1 hm).1;omega) hm
 cases b0 with
 | true=>
  by_cases hlt:((i+1:Nat) : Int)<(c.l.length:Int)
  ·refine wT 30 hlt ?_;refine rU ?_;refine ay rfl ?_;refine gO ?_;exact bd rfl ⟨_,T,fin (.inl rfl)⟩
  ·refine wF 30 hlt ?_;refine rU ?_;refine ay rfl ?_;refine gO ?_;exact bd rfl ⟨_,T,fin (.inl rfl)⟩
 | false=>
  by_cases hlt:((i+1:Nat) : Int)<(c.l.length:Int)
  ·refine wT 30 hlt ?_;refine rU ?_;have hlt:i<ms.length:=by
    omega
   have hu:ms[i]?=some ms[i]:=gE hlt;have htk:ms.take (i+1)=ms.take i++[ms[i]]:=tS hlt;generalize hx:ms[i]=m at hu htk;have hum:m∈ms:=by rw[←hx];exact List.getElem_mem hlt
   have hmo:=hmem m hum;have hu1:c.l[i+1]?=some m:=by rw[←hget];exact hu
   clear hc a0;obtain⟨w0,hw0⟩:∃w,m.l[0]?=some w:=⟨_,gE hmo.1⟩;have ew0:(ba m).s=w0.s:=by rw[aW hw0]
   obtain⟨fkm,skm,okm,ckm,ekm,rkm,akm,km,hvm,hsm,hhm,hlm,Nm,htm⟩:=bv N hu1;have hkm:takeN 6 (aB (Nat.add okm (Nat.mul (i+1) 6)) akm)=some (au m km):=(htm 6 0 (Nat.le_refl _)).trans rfl;refine wI hvm hlm ?_;refine wK hhm hkm ?_;refine aq rfl rfl rfl ?_;refine zS (by rw[AW.add_get,iP rfl]) ?_;generalize hf8:A20.aa=f8;refine eZ (n:=6) (cs:=au m km) hw h T hf8 ?_;intro A21 x8 p8 o21 c8 T;replace c3:=o21.k c3;replace N:=N.k o21;replace Nm:=Nm.k o21;obtain⟨fkw0,skw0,okw0,ckw0,ekw0,rkw0,akw0,kw0,hvw0,hsw0,hhw0,hlw0,Nw0,htw0⟩:=bv Nm hw0;have hkw0:takeN 6 (aB (Nat.add okw0 (Nat.mul 0 6)) akw0)=some (au w0 kw0):=(htw0 6 0 (Nat.le_refl _)).trans rfl;refine wI hvw0 hlw0 ?_;refine wK hhw0 hkw0 ?_;refine zC rfl (mQ T.Fi.wf T.ps) ?_;rintro r A22 ⟨rfl,t22⟩;replace T:=T.then t22;obtain⟨c3,c8⟩:=t22.Fi.k2 c3 c8;replace N:=t22.bl N;replace Nm:=t22.bl Nm
   generalize hb1:(!decide (there Y.X.hs (named w0.s)) || false)=b1 at T;have z1:b1=false↔there Y.X.hs (named w0.s):=by rw[←hb1,nbf];exact⟨fun h=>h.1,fun h=>⟨h,rfl⟩⟩
   clear hb1;refine gO ?_;refine sQ ?_;refine ce (fun l1 B=>∃b',((pp 0 Y.X.dc (pp 3 f3 (pv 4 (.str (up Y.X.hs c.s)) (pn 5 (en (ms.take i) : Nat) (pn 6 (cG (ms.take i) : Nat) (pn 7 (i+1:Nat) (pp 8 f8 .nil))))))) : Kn).le l1∧DT A B Y false b'∧gt B f3 6 (au c kv)∧gt B f8 6 (au m km)∧aI B (fun g=>g<Y.X.M) c kv∧aI B (fun g=>g<Y.X.M) m km∧(b'=false↔b1=false∧(m.k=4→(∀p∈params m,there Y.X.hs (named (ba p).s))∧DJ (params m)))) ?_ ?_
   ·intro k' hk';refine zG (fun k4=>?_) fun k4=>?_
    ·have k4:m.k=4:=k4;have hp:=hmo.2 k4;refine wL c8 ?_;refine zC rfl (fQ T.Fi.wf Nm hp.1) ?_;rintro r A23 ⟨N9,o23⟩;replace T:=T.quiet o23;obtain⟨c3,c8⟩:=o23.k2 c3 c8;replace N:=N.k o23;replace Nm:=Nm.k o23;generalize r=r9 at N9 ⊢;have hlp9:(params m).length≤9000:=N9.len;have hlvp:bm r9=some (params m).length:=N9.bm;refine gO ?_;refine aE ?_;refine yL (pp 0 Y.X.dc (pp 3 f3 (pv 4 (.str (up Y.X.hs c.s)) (pn 5 (en (ms.take i) : Nat) (pn 6 (cG (ms.take i) : Nat) (pn 7 (i+1:Nat) (pp 8 f8 (pv 9 r9 (pn 10 0 .nil))))))))) ?_;refine aV (ι:=Nat×Bool) (fun w=>(params m).length-w.1) (fun w=>(pp 0 Y.X.dc (pp 3 f3 (pv 4 (.str (up Y.X.hs c.s)) (pn 5 (en (ms.take i) : Nat) (pn 6 (cG (ms.take i) : Nat) (pn 7 (i+1:Nat) (pp 8 f8 (pv 9 r9 (pn 10 w.1 .nil))))))))))
      (fun w B=>DT A B Y false w.2∧w.1≤(params m).length∧gt B f3 6 (au c kv)∧gt B f8 6 (au m km)∧aI B (fun g=>g<Y.X.M) c kv∧aI B (fun g=>g<Y.X.M) m km∧aI B (fun g=>g<Y.X.M) (jT (params m)) r9∧(w.2=false↔b1=false∧∀(j:Nat) (x:Nd),j<w.1→(params m)[j]?=some x→there Y.X.hs (named (ba x).s))) ?_ (0,b1) A23 ⟨T,Nat.zero_le _,c3,c8,N,Nm,N9,⟨fun h=>⟨h,fun j m hj _=>absurd hj (Nat.not_lt_zero _)⟩,fun h=>h.1⟩⟩
     clear T c3 c8 N Nm N9;rintro ⟨k,b3⟩ A40 ⟨T,hik,c3,c8,N,Nm,N9,hzk⟩ ihk;replace T:DT A A40 Y false b3:=T;replace hik:k≤(params m).length:=hik;replace hzk:b3=false↔b1=false∧∀(j:Nat) (x:Nd),j<k→(params m)[j]?=some x→there Y.X.hs (named (ba x).s):=hzk;refine wJ hlvp ?_;refine zG (fun hlt2=>?_) fun hge2=>?_
     ·have hlt2:k<(params m).length:=Int.ofNat_lt.1 hlt2;have hx2:(params m)[k]?=some (params m)[k]:=gE hlt2;generalize hxe:(params m)[k]=x at hx2;have hxm:x∈params m:=by rw[←hxe];exact List.getElem_mem hlt2
      obtain⟨w1,hw1⟩:∃w,x.l[0]?=some w:=⟨_,gE (hp.2 x hxm)⟩;have ew1:(ba x).s=w1.s:=by rw[aW hw1]
      obtain⟨fkx,skx,okx,ckx,ekx,rkx,akx,kx,hvx,hsx,hhx,hlx,Nx,htx⟩:=bv N9 hx2;have hkx:takeN 6 (aB (Nat.add okx (Nat.mul k 6)) akx)=some (au x kx):=(htx 6 0 (Nat.le_refl _)).trans rfl;have htkx:=aR ((htx 1 5 dE).trans rfl);obtain⟨fkw1,skw1,okw1,ckw1,ekw1,rkw1,akw1,kw1,hvw1,hsw1,hhw1,hlw1,Nw1,htw1⟩:=bv Nx hw1;have hkw1:takeN 6 (aB (Nat.add okw1 (Nat.mul 0 6)) akw1)=some (au w1 kw1):=(htw1 6 0 (Nat.le_refl _)).trans rfl;refine wI hvx hlx ?_;refine aZ rfl rfl rfl rfl hhx (v:=kx) htkx ?_;refine wI hvw1 hlw1 ?_;refine wK hhw1 hkw1 ?_;refine zC rfl (mQ T.Fi.wf T.ps) ?_;rintro r A41 ⟨rfl,t41⟩;replace T:=T.then t41;obtain⟨c3,c8⟩:=t41.Fi.k2 c3 c8;replace N:=t41.bl N;replace Nm:=t41.bl Nm;replace N9:=t41.bl N9;refine wP ?_;refine ai ?_
      refine yL (pp 0 Y.X.dc (pp 3 f3 (pv 4 (.str (up Y.X.hs c.s)) (pn 5 (en (ms.take i) : Nat) (pn 6 (cG (ms.take i) : Nat) (pn 7 (i+1:Nat) (pp 8 f8 (pv 9 r9 (pn 10 (k+1:Nat) .nil))))))))) ?_;refine ihk (k+1,_) A41 (by simp only;omega) ⟨T,hlt2,c3,c8,N,Nm,N9,?_⟩;show (!decide (there Y.X.hs (named w1.s)) || b3)=false↔b1=false∧∀(j:Nat) (x:Nd),j<k+1→(params m)[j]?=some x→there Y.X.hs (named (ba x).s);rw[nbf,hzk];constructor
      ·rintro ⟨g1,g2,g3⟩;refine⟨g2,fun j y hj hy=>?_⟩;by_cases e:j=k
       ·subst e;rw[hx2] at hy;cases hy;rw[ew1];exact g1
       ·exact g3 j y om hy
      ·rintro ⟨g2,g3⟩;exact⟨by rw[←ew1];exact g3 k x (Nat.lt_succ_self _) hx2,g2,fun j y hj hy=>g3 j y (Nat.lt_succ_of_lt hj) hy⟩
     refine ay rfl ?_;clear ihk;replace hzk:b3=false↔b1=false∧∀p∈params m,there Y.X.hs (named (ba p).s):=hzk.trans ⟨fun h=>⟨h.1,fun p hp'=>by
      obtain⟨j,hj,hx⟩:=List.getElem_of_mem hp';exact h.2 j p om (by rw[gE hj,hx])⟩,fun h=>⟨h.1,fun j x _ hx=>h.2 x (mG hx)⟩⟩
     refine gO ?_;refine aE ?_;refine yL (pp 0 Y.X.dc (pp 3 f3 (pv 4 (.str (up Y.X.hs c.s)) (pn 5 (en (ms.take i) : Nat) (pn 6 (cG (ms.take i) : Nat) (pn 7 (i+1:Nat) (pp 8 f8 (pv 9 r9 (pn 11 0 .nil))))))))) ?_;refine aV (ι:=Nat×Bool) (fun w=>(params m).length-w.1) (fun w=>(pp 0 Y.X.dc (pp 3 f3 (pv 4 (.str (up Y.X.hs c.s)) (pn 5 (en (ms.take i) : Nat) (pn 6 (cG (ms.take i) : Nat) (pn 7 (i+1:Nat) (pp 8 f8 (pv 9 r9 (pn 11 w.1 .nil))))))))))
      (fun w B=>DT A B Y false w.2∧w.1≤(params m).length∧gt B f3 6 (au c kv)∧gt B f8 6 (au m km)∧aI B (fun g=>g<Y.X.M) c kv∧aI B (fun g=>g<Y.X.M) m km∧aI B (fun g=>g<Y.X.M) (jT (params m)) r9∧(w.2=false↔b3=false∧∀(z0:Nat) (x:Nd),z0<w.1→(params m)[z0]?=some x→((params m).take z0).find? (fun o=>decide (o.s=x.s))=none)) ?_ (0,b3) A40 ⟨T,Nat.zero_le _,c3,c8,N,Nm,N9,⟨fun h=>⟨h,fun j m hj _=>absurd hj (Nat.not_lt_zero _)⟩,fun h=>h.1⟩⟩
     clear T c3 c8 N Nm N9;rintro ⟨q,b4⟩ A60 ⟨T,hiq,c3,c8,N,Nm,N9,hzq⟩ ihq;replace T:DT A A60 Y false b4:=T;replace hiq:q≤(params m).length:=hiq;replace hzq:b4=false↔b3=false∧∀(z0:Nat) (x:Nd),z0<q→(params m)[z0]?=some x→((params m).take z0).find? (fun o=>decide (o.s=x.s))=none:=hzq;refine wJ hlvp ?_;refine zG (fun hlt2=>?_) fun hge2=>?_
     ·have hlt2:q<(params m).length:=Int.ofNat_lt.1 hlt2;have hx2:(params m)[q]?=some (params m)[q]:=gE hlt2;generalize hxe:(params m)[q]=x at hx2;refine gO ?_;refine aE ?_;refine yL (pp 0 Y.X.dc (pp 3 f3 (pv 4 (.str (up Y.X.hs c.s)) (pn 5 (en (ms.take i) : Nat) (pn 6 (cG (ms.take i) : Nat) (pn 7 (i+1:Nat) (pp 8 f8 (pv 9 r9 (pn 11 q (pn 12 0 .nil)))))))))) ?_;refine aV (ι:=Nat×Bool) (fun w=>q-w.1) (fun w=>(pp 0 Y.X.dc (pp 3 f3 (pv 4 (.str (up Y.X.hs c.s)) (pn 5 (en (ms.take i) : Nat) (pn 6 (cG (ms.take i) : Nat) (pn 7 (i+1:Nat) (pp 8 f8 (pv 9 r9 (pn 11 q (pn 12 w.1 .nil)))))))))))
       (fun w B=>DT A B Y false w.2∧w.1≤q∧gt B f3 6 (au c kv)∧gt B f8 6 (au m km)∧aI B (fun g=>g<Y.X.M) c kv∧aI B (fun g=>g<Y.X.M) m km∧aI B (fun g=>g<Y.X.M) (jT (params m)) r9∧(w.2=false↔b4=false∧((params m).take w.1).find? (fun o=>decide (o.s=x.s))=none)) ?_ (0,b4) A60 ⟨T,Nat.zero_le _,c3,c8,N,Nm,N9,⟨fun h=>⟨h,rfl⟩,fun h=>h.1⟩⟩
      clear T c3 c8 N Nm N9;rintro ⟨j,b5⟩ A80 ⟨T,hij,c3,c8,N,Nm,N9,hzj⟩ ihj;replace T:DT A A80 Y false b5:=T;replace hij:j≤q:=hij;replace hzj:b5=false↔b4=false∧((params m).take j).find? (fun o=>decide (o.s=x.s))=none:=hzj;refine wD (fun hlt3=>?_) fun hge3=>?_
      ·have hlt3:j<q:=Int.ofNat_lt.1 hlt3;have hy2:(params m)[j]?=some ((params m)[j]'om):=gE om;generalize (params m)[j]'om=y at hy2;obtain⟨fky,sky,oky,cky,eky,rky,aky,ky,hvy,hsy,hhy,hly,Ny,hty⟩:=bv N9 hy2;obtain⟨fkx,skx,okx,ckx,ekx,rkx,akx,kx,hvx,hsx,hhx,hlx,Nx,htx⟩:=bv N9 hx2;have htyx:=aR ((hty 1 2 dE).trans rfl);have htxx:=aR ((htx 1 2 dE).trans rfl);have htxa:=aR ((htx 1 1 dE).trans rfl);refine wG ?_;refine tD ?_;refine ax rfl rfl rfl rfl rfl ?_
       try refine aM rfl ?_
       refine zI j hvy hly ?_;refine eP ?_;refine rD ?_;refine aZ rfl rfl rfl rfl hhy (v:=.str y.s) htyx ?_;refine eR ?_;refine dR ?_;refine ax rfl rfl rfl rfl rfl ?_
       try refine aM rfl ?_
       refine zI q hvx hlx ?_;refine eP ?_;refine rD ?_;refine aZ rfl rfl rfl rfl hhx (v:=.str x.s) htxx ?_;refine eR ?_;refine dR ?_;refine ax rfl rfl rfl rfl rfl ?_
       try refine aM rfl ?_
       refine zI q hvx hlx ?_;refine eP ?_;refine rD ?_;refine aZ rfl rfl rfl rfl hhx (v:=.int .i64 x.a) htxa ?_;refine eR ?_;refine aC ?_;refine zC rfl (aG (x:=decide (y.s≠x.s)) T.Fi.wf T.ps) ?_;rintro r A81 ⟨rfl,t81⟩;replace T:=T.then t81;obtain⟨c3,c8⟩:=t81.Fi.k2 c3 c8;replace N:=t81.bl N;replace Nm:=t81.bl Nm;replace N9:=t81.bl N9;refine sA ?_;refine eD ?_;refine wP ?_;refine ai ?_;refine yL (pp 0 Y.X.dc (pp 3 f3 (pv 4 (.str (up Y.X.hs c.s)) (pn 5 (en (ms.take i) : Nat) (pn 6 (cG (ms.take i) : Nat) (pn 7 (i+1:Nat) (pp 8 f8 (pv 9 r9 (pn 11 q (pn 12 (j+1:Nat) .nil)))))))))) ?_;refine ihj (j+1,_) A81 (by simp only;omega) ⟨T,hlt3,c3,c8,N,Nm,N9,?_⟩;show (!decide (y.s≠x.s) || b5)=false↔b4=false∧((params m).take (j+1)).find? (fun o=>decide (o.s=x.s))=none;rw[nbf,hzj,vz hy2];exact⟨fun ⟨g1,g2,g3⟩=>⟨g2,g3,g1⟩,fun ⟨g2,g3,g1⟩=>⟨g1,g2,g3⟩⟩
      have hgej:j=q:=by
       omega
      subst hgej;refine ay rfl ?_;clear ihj;refine wP ?_;refine ai ?_;refine yL (pp 0 Y.X.dc (pp 3 f3 (pv 4 (.str (up Y.X.hs c.s)) (pn 5 (en (ms.take i) : Nat) (pn 6 (cG (ms.take i) : Nat) (pn 7 (i+1:Nat) (pp 8 f8 (pv 9 r9 (pn 11 (j+1:Nat) .nil))))))))) ?_;refine ihq (j+1,_) A80 (by simp only;omega) ⟨T,hlt2,c3,c8,N,Nm,N9,?_⟩;show b5=false↔b3=false∧∀(z0:Nat) (x:Nd),z0<j+1→(params m)[z0]?=some x→((params m).take z0).find? (fun o=>decide (o.s=x.s))=none;rw[hzj,hzq];constructor
      ·rintro ⟨⟨g2,g3⟩,g1⟩;refine⟨g2,fun k' y hj hy=>?_⟩;by_cases e:k'=j
       ·subst e;rw[hx2] at hy;cases hy;exact g1
       ·exact g3 k' y om hy
      ·rintro ⟨g2,g3⟩;exact⟨⟨g2,fun k' y hj hy=>g3 k' y (Nat.lt_succ_of_lt hj) hy⟩,g3 j x (Nat.lt_succ_self _) hx2⟩
     refine ay rfl ?_;clear ihq;refine sQ ?_;refine hk' _ _ ⟨b4,⟨rfl,rfl,rfl,rfl,rfl,rfl,rfl,trivial⟩,T,c3,c8,N,Nm,?_⟩;rw[hzq,hzk];exact⟨fun h=>⟨h.1.1,fun _=>⟨h.1.2,fun j x hx=>h.2 j x (by have:=(List.getElem?_eq_some_iff.1 hx).1;omega) hx⟩⟩,fun h=>⟨⟨h.1,(h.2 k4).1⟩,fun j x _ hx=>(h.2 k4).2 j x hx⟩⟩
    ·have k4:¬m.k=4:=k4;refine sQ ?_;exact hk' _ _ ⟨_,⟨rfl,rfl,rfl,rfl,rfl,rfl,rfl,trivial⟩,T,c3,c8,N,Nm,fun h=>⟨h,fun e=>absurd e k4⟩,fun h=>h.1⟩
   clear T c3 c8 N Nm;rintro l1 A100 ⟨b2,hl,T,c3,c8,N,Nm,z2⟩;refine bY (pp 0 Y.X.dc (pp 3 f3 (pv 4 (.str (up Y.X.hs c.s)) (pn 5 (en (ms.take i) : Nat) (pn 6 (cG (ms.take i) : Nat) (pn 7 (i+1:Nat) (pp 8 f8 .nil))))))) ?_ hl;clear hl;refine gO ?_;refine aE ?_;refine yL (pp 0 Y.X.dc (pp 3 f3 (pv 4 (.str (up Y.X.hs c.s)) (pn 5 (en (ms.take i) : Nat) (pn 6 (cG (ms.take i) : Nat) (pn 7 (i+1:Nat) (pp 8 f8 (pn 13 (0+1:Nat) .nil)))))))) ?_;refine aV (ι:=Nat×Bool) (fun w=>i-w.1) (fun w=>(pp 0 Y.X.dc (pp 3 f3 (pv 4 (.str (up Y.X.hs c.s)) (pn 5 (en (ms.take i) : Nat) (pn 6 (cG (ms.take i) : Nat) (pn 7 (i+1:Nat) (pp 8 f8 (pn 13 (w.1+1:Nat) .nil)))))))))
    (fun w B=>DT A B Y false w.2∧w.1≤i∧gt B f3 6 (au c kv)∧gt B f8 6 (au m km)∧aI B (fun g=>g<Y.X.M) c kv∧aI B (fun g=>g<Y.X.M) m km∧(w.2=false↔b2=false∧(ms.take w.1).find? (fun o=>decide (o.s=m.s))=none)) ?_ (0,b2) A100 ⟨T,Nat.zero_le _,c3,c8,N,Nm,fun h=>⟨h,rfl⟩,fun h=>h.1⟩
   clear T c3 c8 N Nm;rintro ⟨j,b5⟩ A120 ⟨T,hij,c3,c8,N,Nm,hzj⟩ ihj;replace T:DT A A120 Y false b5:=T;replace hij:j≤i:=hij;replace hzj:b5=false↔b2=false∧(ms.take j).find? (fun o=>decide (o.s=m.s))=none:=hzj;have l8':=T.Fi.wf _ _ c8;refine wD (fun hlt3=>?_) fun hge3=>?_
   ·have hlt3:j<i:=by
     omega
    have hy2:ms[j]?=some (ms[j]'om):=gE om;generalize ms[j]'om=y at hy2;have hy1:c.l[j+1]?=some y:=by rw[←hget];exact hy2
    obtain⟨fky,sky,oky,cky,eky,rky,aky,ky,hvy,hsy,hhy,hly,Ny,hty⟩:=bv N hy1;have htyx:=aR ((hty 1 2 dE).trans rfl);refine wG ?_;refine tD ?_;refine ax rfl rfl rfl rfl rfl ?_
    try refine aM rfl ?_
    refine zI (j+1) hvy hly ?_;refine eP ?_;refine rD ?_;refine aZ rfl rfl rfl rfl hhy (v:=.str y.s) htyx ?_;refine eR ?_;refine aC ?_;refine zC rfl (aG (x:=decide (y.s≠m.s)) T.Fi.wf T.ps) ?_;rintro r A121 ⟨rfl,t121⟩;replace T:=T.then t121;obtain⟨c3,c8⟩:=t121.Fi.k2 c3 c8;replace N:=t121.bl N;replace Nm:=t121.bl Nm;refine sA ?_;refine eD ?_;refine wP ?_;refine ai ?_;refine yL (pp 0 Y.X.dc (pp 3 f3 (pv 4 (.str (up Y.X.hs c.s)) (pn 5 (en (ms.take i) : Nat) (pn 6 (cG (ms.take i) : Nat) (pn 7 (i+1:Nat) (pp 8 f8 (pn 13 ((j+1)+1:Nat) .nil)))))))) ?_;refine ihj (j+1,_) A121 (by simp only;omega) ⟨T,hlt3,c3,c8,N,Nm,?_⟩;show (!decide (y.s≠m.s) || b5)=false↔b2=false∧(ms.take (j+1)).find? (fun o=>decide (o.s=m.s))=none;rw[nbf,hzj,vz hy2];exact⟨fun ⟨g1,g2,g3⟩=>⟨g2,g3,g1⟩,fun ⟨g2,g3,g1⟩=>⟨g1,g2,g3⟩⟩
   have hgej:j=i:=by
    omega
   subst hgej;refine ay rfl ?_;clear ihj;have e5:b5=false↔yk Y.X.hs m=true∧(m.k=4→DJ (params m))∧(ms.take j).find? (fun o=>decide (o.s=m.s))=none:=by
    rw[hzj,z2,z1,Ct,ew0];exact⟨fun h=>⟨⟨h.1.1,fun k4=>(h.1.2 k4).1⟩,fun k4=>(h.1.2 k4).2,h.2⟩,fun h=>⟨⟨h.1.1,fun k4=>⟨h.1.2 k4,h.2.1 k4⟩⟩,h.2.2⟩⟩
   clear hzj z2 z1;obtain⟨a0,hc⟩:=T.ps.cell;refine gO ?_;cases b5 with
   | true=>
    refine rU ?_;refine af rfl ⟨_,T,fun h=>(by cases h),fun h=>?_⟩;unfold eT at h;rw[hms] at h;have F:=h j m hu;have:=e5.2 ⟨F.typ,F.par,F.nm⟩;cases this
   | false=>
    refine da rfl ?_;obtain⟨ty5,pa5,nm5⟩:=e5.1 rfl;clear e5 hc a0;refine wC (jm (c:=up Y.X.hs c.s) (n:=m.s) (k:=m.k) T.Fi.wf T.ps) ?_;rintro r75 A121 ⟨o121,hr75⟩;replace T:=T.quiet o121;obtain⟨c3,c8⟩:=o121.k2 c3 c8;replace N:=N.k o121;replace Nm:=Nm.k o121;have hu75:∃o ko th,r75=.tuple [.agg (au o ko),.bool th]∧match dM Y.X.t.l Y.X.hs (up Y.X.hs c.s) m.s m.k with
     | none=>th=false
     | some o'=>th=true∧o'=o∧aI A121 (fun g=>g<Y.X.M∨A.aa≤g) o ko:=by
     cases hm:dM Y.X.t.l Y.X.hs (up Y.X.hs c.s) m.s m.k with
     | none=>
      rw[hm] at hr75;exact⟨dL,.aj,false,hr75,rfl⟩
     | some o'=>
      rw[hm] at hr75;obtain⟨ko,g1,g2⟩:=hr75;exact⟨o',ko,true,g1,rfl,rfl,g2.mono fun g hg _=>hg.imp (fun h=>h) fun h=>om⟩
    clear hr75;obtain⟨o,ko,th,rfl,h75⟩:=hu75;refine gO ?_;refine aq rfl rfl rfl ?_;refine zS (by rw[AW.add_get,iP rfl]) ?_;generalize hf14:A121.aa=f14;refine eZ (n:=6) (cs:=au o ko) hw h T hf14 ?_;intro A122 x14 p14 o122 c14 T;obtain⟨c3,c8⟩:=o122.k2 c3 c8;replace N:=N.k o122;replace Nm:=Nm.k o122;replace h75:match dM Y.X.t.l Y.X.hs (up Y.X.hs c.s) m.s m.k with
     | none=>th=false
     | some o'=>th=true∧o'=o∧aI A122 (fun g=>g<Y.X.M∨A.aa≤g) o ko:=by
     cases hm:dM Y.X.t.l Y.X.hs (up Y.X.hs c.s) m.s m.k with
     | none=>
      rw[hm] at h75;exact h75
     | some o'=>
      rw[hm] at h75;exact⟨h75.1,h75.2.1,h75.2.2.ae o122 fun _ _ h=>h⟩
    refine wD (fun k3=>?_) fun k3=>?_
    ·have k3:m.k=3:=k3;have k4:¬m.k=4:=fun e=>by rw[k3] at e;exact absurd e dE
     have h7:th=false↔oh Y.X.t.l Y.X.hs (up Y.X.hs c.s) m:=by
      unfold oh;cases hmb:dM Y.X.t.l Y.X.hs (up Y.X.hs c.s) m.s m.k with
      | none=>
       rw[hmb] at h75;exact⟨fun _=>trivial,fun _=>h75⟩
      | some o'=>
       rw[hmb] at h75;exact⟨fun h=>(by rw[h75.1] at h;cases h),fun h=>absurd h.1 k4⟩
     clear h75;have eF:en (ms.take (j+1))=en (ms.take j)+1:=by rw[htk,mO,iN k4]
     have eM:cG (ms.take (j+1))=cG (ms.take j):=by rw[htk,lj,iN k4];rfl
     refine wP ?_;refine zC rfl (aG (x:=!th) T.Fi.wf T.ps) ?_;rintro r A123 ⟨rfl,t123⟩;replace T:=T.then t123;obtain⟨c3,c8⟩:=t123.Fi.k2 c3 c8;replace N:=t123.bl N;refine wC (aG (x:=decide ((en (ms.take j) : Nat)+1≤(8:Int))) T.Fi.wf T.ps) ?_;rintro r A124 ⟨rfl,t124⟩;replace T:=T.then t124;replace c3:=t124.Fi.k c3;replace N:=t124.bl N;refine wX ?_;refine wP ?_;refine ai ?_;refine bY (pp 0 Y.X.dc (pp 3 f3 (pv 4 (.str (up Y.X.hs c.s)) (.put 5 (.int .i64 ((en (ms.take (j+1)) : Nat) : Int)) (.put 6 (.int .i64 ((cG (ms.take (j+1)) : Nat) : Int)) (pn 7 ((j+1)+1:Nat) .nil)))))) ?_ ⟨rfl,rfl,rfl,by rw[eF];rfl,by rw[eM];rfl,rfl,trivial⟩;refine ih (j+1,_) A124 (by simp only;omega) ⟨T,hlt,c3,N,?_⟩
     show (!decide ((en (ms.take j) : Nat)+1≤(8:Int)) || (!(!th) || false))=false↔∀(j':Nat) (m':Nd),j'<j+1→ms[j']?=some m'→jl Y.X.t.l Y.X.hs (up Y.X.hs c.s) ms j' m';rw[nbf,Bool.not_not,Bool.or_false,h7];constructor
     ·rintro ⟨g1,g2⟩ j' y hj hy;by_cases e:j'=j
      ·subst e;rw[hu] at hy;cases hy;refine⟨ty5,pa5,nm5,g2,fun h=>absurd h k4,?_⟩;rw[iN k4,eF];omega
      ·exact hz.1 rfl j' y om hy
     ·intro h;have F:=h j m (Nat.lt_succ_self _) hu;have F1:=F.cnt;rw[iN k4,eF] at F1;exact⟨om,F.ov⟩
    ·have k3:¬m.k=3:=k3;have k4:m.k=4:=(hk34 m hum).resolve_left k3;have hp:=hmo.2 k4;have eF:en (ms.take (j+1))=en (ms.take j):=by rw[htk,mO,iP k4];rfl
     have eM:cG (ms.take (j+1))=cG (ms.take j)+1:=by rw[htk,lj,iP k4]
     refine wP ?_;refine sQ ?_;refine ce (fun l1 B=>∃x:Bool,((pp 0 Y.X.dc (pp 3 f3 (pv 4 (.str (up Y.X.hs c.s)) (pn 5 (en (ms.take j) : Nat) (.put 6 (.int .i64 (((cG (ms.take j) : Nat) : Int)+1:Int)) (pn 7 (j+1:Nat) (pp 8 f8 .nil))))))) : Kn).le l1∧DT A B Y false (!x || false)∧gt B f3 6 (au c kv)∧gt B f8 6 (au m km)∧aI B (fun g=>g<Y.X.M) c kv∧aI B (fun g=>g<Y.X.M) m km∧(x=true↔oh Y.X.t.l Y.X.hs (up Y.X.hs c.s) m)) ?_ ?_
     ·intro k' hk';cases hmb:dM Y.X.t.l Y.X.hs (up Y.X.hs c.s) m.s m.k with
      | none=>
       rw[hmb] at h75;have h75:th=false:=h75;subst h75;have hov:oh Y.X.t.l Y.X.hs (up Y.X.hs c.s) m:=by
        unfold oh;rw[hmb];exact trivial
       refine tD ?_;refine aL 153 true rfl rfl ?_;refine dO ?_;refine aC ?_;refine sA ?_;refine dO ?_;refine aC ?_;refine zC rfl (aG (x:=true) T.Fi.wf T.ps) ?_;rintro r A123 ⟨rfl,t123⟩;replace T:=T.then t123;obtain⟨c3,c8⟩:=t123.Fi.k2 c3 c8;replace N:=t123.bl N;replace Nm:=t123.bl Nm;refine sA ?_;refine aK ?_;refine sQ ?_;exact hk' _ _ ⟨true,⟨rfl,rfl,rfl,rfl,rfl,rfl,rfl,trivial⟩,T,c3,c8,N,Nm,fun _=>hov,fun _=>rfl⟩
      | some o'=>
       rw[hmb] at h75;obtain⟨rfl,rfl,No⟩:=h75;have hov:oh Y.X.t.l Y.X.hs (up Y.X.hs c.s) m↔m.k=4∧(params m).map first=(params o').map first∧first m=first o':=by
        unfold oh;rw[hmb]
       have hoo:=jg T.ps.mem hmb;have hop:=hoo.1.2 (hoo.2.trans k4);refine tD ?_;refine aL 153 false rfl rfl ?_;refine rD ?_;refine zL c14 ?_;refine eR ?_;refine rD ?_;refine zL c8 ?_;refine eR ?_;refine aC ?_;refine zC rfl (qX T.Fi.wf (No.mono (S':=fun g=>True) fun _ _ _=>trivial) (Nm.mono (S':=fun g=>True) fun _ _ _=>trivial) hop hp) ?_;rintro r A123 ⟨rfl,o123⟩;replace T:=T.quiet o123;obtain⟨c3,c8⟩:=o123.k2 c3 c8;replace N:=N.k o123;replace Nm:=Nm.k o123;refine sA ?_;refine aC ?_;refine zC rfl (aG (x:=decide ((params o').map first=(params m).map first∧first o'=first m)) T.Fi.wf T.ps) ?_;rintro r A124 ⟨rfl,t124⟩;replace T:=T.then t124;obtain⟨c3,c8⟩:=t124.Fi.k2 c3 c8;replace N:=t124.bl N;replace Nm:=t124.bl Nm;refine sA ?_;refine aK ?_;refine sQ ?_
       refine hk' _ _ ⟨decide ((params o').map first=(params m).map first∧first o'=first m),⟨rfl,rfl,rfl,rfl,rfl,rfl,rfl,trivial⟩,T,c3,c8,N,Nm,?_⟩;rw[hov,decide_eq_true_iff];exact⟨fun h=>⟨k4,h.1.symm,h.2.symm⟩,fun h=>⟨h.2.1.symm,h.2.2.symm⟩⟩
     clear T c3 c8 N Nm;rintro l1 A140 ⟨x,hl,T,c3,c8,N,Nm,ex⟩;refine bY (pp 0 Y.X.dc (pp 3 f3 (pv 4 (.str (up Y.X.hs c.s)) (pn 5 (en (ms.take j) : Nat) (.put 6 (.int .i64 (((cG (ms.take j) : Nat) : Int)+1:Int)) (pn 7 (j+1:Nat) (pp 8 f8 .nil))))))) ?_ hl;clear hl;refine tD ?_;refine rD ?_;refine zL c8 ?_;refine eR ?_;refine aC ?_;refine zC rfl (fQ T.Fi.wf Nm hp.1) ?_;rintro r A141 ⟨Np,o141⟩;replace T:=T.quiet o141;obtain⟨c3,c8⟩:=o141.k2 c3 c8;replace N:=N.k o141;refine sA ?_;refine rD ?_;refine zJ (show bm r=some (params m).length from Np.bm) ?_;refine eR ?_;refine aC ?_;refine zC rfl (aG (x:=decide (((params m).length:Int)≤6)) T.Fi.wf T.ps) ?_;rintro r A142 ⟨rfl,t142⟩;replace T:=T.then t142;obtain⟨c3,c8⟩:=t142.Fi.k2 c3 c8;replace N:=t142.bl N;refine sA ?_;refine eD ?_
     refine zC rfl (aG (x:=decide (((cG (ms.take j) : Nat) : Int)+1≤12)) T.Fi.wf T.ps) ?_;rintro r A143 ⟨rfl,t143⟩;replace T:=T.then t143;replace c3:=t143.Fi.k c3;replace N:=t143.bl N;refine wP ?_;refine ai ?_;refine bY (pp 0 Y.X.dc (pp 3 f3 (pv 4 (.str (up Y.X.hs c.s)) (.put 5 (.int .i64 ((en (ms.take (j+1)) : Nat) : Int)) (.put 6 (.int .i64 ((cG (ms.take (j+1)) : Nat) : Int)) (pn 7 ((j+1)+1:Nat) .nil)))))) ?_ ⟨rfl,rfl,rfl,by rw[eF];rfl,by rw[eM];rfl,rfl,trivial⟩;refine ih (j+1,_) A143 (by simp only;omega) ⟨T,hlt,c3,N,?_⟩;show (!decide (((cG (ms.take j) : Nat) : Int)+1≤12) || (!decide (((params m).length:Int)≤6) || (!x || false)))=false↔∀(j':Nat) (m':Nd),j'<j+1→ms[j']?=some m'→jl Y.X.t.l Y.X.hs (up Y.X.hs c.s) ms j' m';rw[nbf,nbf,Bool.or_false,Bool.not_eq_false',ex];constructor
     ·rintro ⟨g1,g2,g3⟩ j' y hj hy;by_cases e:j'=j
      ·subst e;rw[hu] at hy;cases hy;refine⟨ty5,pa5,nm5,g3,fun _=>om,?_⟩;rw[iP k4,eM];omega
      ·exact hz.1 rfl j' y om hy
     ·intro h;have F:=h j m (Nat.lt_succ_self _) hu;have F1:=F.cnt;rw[iP k4,eM] at F1;have F2:=F.pl k4;exact⟨om,om,F.ov⟩
  ·refine wF 30 hlt ?_;refine rU ?_;refine ay rfl ?_;refine gO ?_;exact bd rfl ⟨_,T,fin (.inr om)⟩
end Go.Proofs.YtafamggbkobcfaaGreat.Ae
