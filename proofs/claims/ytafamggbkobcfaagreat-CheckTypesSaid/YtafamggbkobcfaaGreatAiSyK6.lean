/- A part of the proof of the statement CheckTypes. -/
import Derived.Test.YtafamggbkobcfaaGreatAiSyK3
namespace Go.Proofs.YtafamggbkobcfaaGreat.Ae
open Go.AE
set_option linter.unusedVariables false
set_option maxRecDepth 100000
section
variable{E:Env}{C:bC}{all rest:List Oper}{l:Kn}{A:AW}{K:Kn→AW→Prop}{d:Tmp}{ty:TypeId}{pos:String}{after:Array Edge}
theorem dG{f:FuncId}{a b:Array Operand}{vs us:List AV}(hd:Nat.blt d C.N=true)(ha:vZ l a.toList=some vs)(hb:vZ l b.toList=some us)(h:WO E C all rest (.put d (.func f vs us) l) A K):
 WO E C all (⟨some d,.makeFunc (.func f) a b,ty,pos,after,none⟩::rest) l A K:=
 bR hd (fun F hF=>by
  show gF.val (.func f (qH F a.toList) (qH F b.toList)) A=_;rw[hF.qH ha,hF.qH hb]) h
theorem pi{t:Tmp}{f:FuncId}{first cap:List AV}{args:Array Operand}{cf:Array TypeId}{vs ws:List AV}{Q:AV→AW→Prop}(hd:Nat.blt d C.N=true)(ht:l.find t=some (.func f first cap))(ha:vZ l args.toList=some vs)(hws:first++vs++cap=ws)
 (ho:E.uo f ws=none) (hb:R.hasB E f=true) (hc:aD E f ws A Q) (h:∀v A1,Q v A1→WO E C all rest (.put d v l) A1 K) :
 WO E C all (⟨some d,.call ⟨.value (.tmp t),args,cf⟩,ty,pos,after,none⟩::rest) l A K:=
 xK hd (fun F hF=>by
  show (match ev F (.tmp t) with
   | .func f first captured=>gH E f (first++qH F args.toList++captured) A
   | _=>.fail 130)=_
  rw[hF.ev (x:=.tmp t) ht];simp only[hF.qH ha,hws];rw[←R.uR];unfold R.vY;rw[ho,hb]) hc h
end
def jT(ts:List Nd): Nd:=.mk 0 0 [] 0 (0,0) ts
theorem lz.drop{A:AW}{S:Nat→Prop}:∀{ts:List Nd} {cs:List AV} (i:Nat),lz A S ts cs→lz A S (ts.drop i) (cs.drop (i*6))
 | _,_,0,h=>by
  rw[Nat.zero_mul];exact h
 | _,_,i+1,.nil=>by
  rw[List.drop_nil,List.drop_nil];exact .nil
 | _,_,i+1,.cons (t:=t) (kv:=kv) (ts:=ts) (cs:=cs) h1 h2=>by
  have:=h2.drop i;rw[List.drop_succ_cons,show (i+1)*6=i*6+6 from by omega];exact this
theorem lz.take{A:AW}{S:Nat→Prop}:∀{ts:List Nd} {cs:List AV} (i:Nat),lz A S ts cs→lz A S (ts.take i) (cs.take (i*6))
 | _,_,0,h=>by
  rw[Nat.zero_mul];exact .nil
 | _,_,i+1,.nil=>by
  rw[List.take_nil,List.take_nil];exact .nil
 | _,_,i+1,.cons (t:=t) (kv:=kv) (ts:=ts) (cs:=cs) h1 h2=>by
  have h:=h2.take i;have e:(au t kv++cs).take ((i+1)*6)=au t kv++cs.take (i*6):=by
   rw[show (i+1)*6=(i*6)+6 from by omega];rfl
  rw[List.take_succ_cons,e];exact .cons h1 h
theorem ml{K:FuncId}{A:AW}{S:Nat→Prop}{t:Nd}{v:AV}{lo hi:Nat}{k1:IntKind}{hv:Option AV}(h:aI A S t v)(h1:lo≤hi)(h2:hi≤t.l.length)(h3:0<t.l.length)(hb:∀c,t.l.length≤c→bound hv c t.l.length=some hi):
 ∃r,cQ (ES K) 24 v (some (.int k1 (lo:Int))) hv none A=.val r A∧aI A S (jT ((t.l.drop lo).take (hi-lo))) r:=by
 cases h with
 | mk h4 h5 h6 h7=>
  rename_i cs;rcases h4 with ⟨_,h4,_⟩|⟨f,u,o,c,ex,ro,all,rfl,g1,g0,g2⟩
  ·omega
  ·unfold cQ;have e0:(ES K).cf.get 24=some d24:=rfl;have e1:(ES K).cf.get 26=some d26:=rfl;have e2:d24.desc=.slice 26:=rfl;rw[e0];simp only[e2,e1,eU,g1,Nat.beq_refl,show Nat.beq 6 d26.size=true from rfl,Bool.and_self,cond_true,hb c g0,dY h1];by_cases hlc:lo=c
   ·have e3:Nat.beq lo c=true:=by rw[beq_eq];exact yT hlc
    simp only[e3,cond_true];have e0:(t.l.drop lo).take (hi-lo)=[]:=by
     rw[show hi-lo=0 from by omega,List.take_zero]
    rw[e0];exact⟨.emp ex,rfl,.mk (cs:=[]) (.inl ⟨.inr ⟨ex,rfl⟩,rfl,rfl⟩) (fun g h=>h.elim) (Nat.zero_le _) .nil⟩
   have e3:Nat.beq lo c=false:=by rw[beq_eq];exact yF hlc
   simp only[e3,cond_false];have hlen:((t.l.drop lo).take (hi-lo)).length=hi-lo:=by
    rw[List.length_take,List.length_drop];omega
   refine⟨_,rfl,.mk (cs:=(cs.drop (lo*6)).take ((hi-lo)*6)) ?_ (fun g hg=>h5 g hg) (by show ((t.l.drop lo).take (hi-lo)).length≤9000;omega) ((h7.drop lo).take (hi-lo))⟩;show Row A 6 _ ((t.l.drop lo).take (hi-lo)).length _;rw[hlen];refine .inr ⟨f,u,Nat.add o (Nat.mul lo d26.size),Nat.sub c lo,ex,ro,all,rfl,g1,by show hi-lo≤c-lo;omega,?_⟩;have e6:lo*6+(hi-lo)*6=hi*6:=om;have e5:aB (Nat.add o (Nat.mul lo d26.size)) all=aB (lo*6) (aB o all):=kJ _ _ _;have:=mf (i:=lo*6) (k:=(hi-lo)*6) g2 om;have hcl:=(eA _ _ _ g2).2;rw[e5,this,cF,br _ _ (by rw[List.length_drop];omega)]
theorem mK{K:FuncId}{A:AW}{S:Nat→Prop}{t:Nd}{v:AV}{k1:IntKind}(h:aI A S t v)(h2:0<t.l.length): ∃r,cQ (ES K) 24 v (some (.int k1 ((1:Nat) : Int))) none none A=.val r A∧aI A S (jT (t.l.drop 1)) r:=by
 obtain⟨r,h1,h2⟩:=ml (K:=K) (lo:=1) (hi:=t.l.length) (k1:=k1) (hv:=none) h om (Nat.le_refl _) h2 (fun c _=>rfl);rw[List.take_of_length_le (by rw[List.length_drop];exact Nat.le_refl _)] at h2;exact⟨r,h1,h2⟩
theorem dH{K:FuncId}{A:AW}{S:Nat→Prop}{t:Nd}{kv:AV}(hw:Wf A)(h:aI A S t kv)(h2:2≤t.l.length): aD (ES K) 52 [.agg (au t kv)] A fun r A1=>aI A1 S (jT (params t)) r∧ac A A1 ag:=by
 have hl:=h.len;refine ap rfl rfl rfl ?_;refine gO ?_;refine zB (n:=6) (y:=au t kv) hw ?_;intro A1 o1 c1;generalize A.aa=f1 at c1;refine wJ h.bm ?_;refine fd rfl rfl rfl om om ?_;refine oP ?_;refine bQ (Q:=fun r=>aI A1 S (jT (params t)) r) rfl rfl rfl rfl rfl ?_ ?_
 ·obtain⟨r,g1,g2⟩:=ml (K:=K) (lo:=1) (hi:=t.l.length-1) (k1:=.i64) (hv:=some (.int .i64 ((t.l.length-1:Nat) : Int))) (h.ae o1 fun _ _ h=>h) om om om (fun c hc=>dY om);refine⟨r,?_,?_⟩
  ·rw[show ((t.l.length:Int)-1)=((t.l.length-1:Nat) : Int) from by omega];exact g1
  ·unfold params;rw[show t.l.length-2=t.l.length-1-1 from by omega];exact g2
 intro r hr;refine gO ?_;exact af rfl ⟨hr,o1⟩
theorem jL{t:Nd}(h:2≤t.l.length): (params t).length=t.l.length-2:=by
 unfold params;rw[List.length_take,List.length_drop];omega
theorem li{K:FuncId}{A:AW}{S:Nat→Prop}{ts:List Nd}{v:AV}(hw:Wf A)(h:aI A S (jT ts) v)(h0:∀t∈ts,0<t.l.length): aD (ES K) 82 [v] A fun r A1=>eH A1 2 r ts.length ((ts.map first).flatMap bc)∧(∀g,r.av g→A.aa≤g)∧ac A A1 ag:=by
 have hl:ts.length≤9000:=h.len;have hlv:bm v=some ts.length:=h.bm;refine ap rfl rfl rfl ?_;refine wJ hlv ?_;refine aE ?_;refine yL (.put 3 .aj (pv 6 v (pn 7 ts.length (pn 8 0 .nil)))) ?_;refine aV (ι:=Nat×AV) (fun i=>ts.length-i.1) (fun i=>.put 3 i.2 (pv 6 v (pn 7 ts.length (pn 8 i.1 .nil)))) (fun i B=>ac A B ag∧i.1≤ts.length∧eH B 2 i.2 i.1 (((ts.take i.1).map first).flatMap bc)∧∀g,i.2.av g→A.aa≤g) ?_ (0,.aj) A ⟨ac.refl hw _,Nat.zero_le _,.inl ⟨rfl,rfl,rfl⟩,fun g h=>h.elim⟩;rintro ⟨i,vb⟩ B ⟨o1,hi,hb,hf⟩ ih;replace hi:i≤ts.length:=hi;replace hb:eH B 2 vb i (((ts.take i).map first).flatMap bc):=hb;replace hf:∀g,vb.av g→A.aa≤g:=hf;refine wD (fun hlt=>?_) fun hge=>?_
 ·have hlt:i<ts.length:=Int.ofNat_lt.1 hlt;have hu:ts[i]?=some ts[i]:=gE hlt;generalize hx:ts[i]=u at hu;have hum:u∈ts:=by rw[←hx];exact List.getElem_mem hlt
  obtain⟨f,s,o,c,ex,ro,all,ku,hv,hh,_,hN,cw⟩:=(h.ae o1 fun _ _ h=>h).wi (i:=i) (u:=u) hu;refine wI hv hlt ?_;refine bS (vs:=au u ku) rfl rfl rfl rfl hh ?_ ?_
  ·exact (cw 6 0 (Nat.le_refl _)).trans rfl
  refine gO ?_;refine zM (n:=6) (y:=au u ku) o1.wf ?_;intro B2 o2 c5;generalize B.aa=f5 at c5;refine wL c5 ?_;refine zC rfl (eN o2.wf (hN.ae o2 fun _ _ h=>h) (h0 u hum)) ?_;rintro r B3 ⟨rfl,o3⟩;replace o2:=o2.same o3;refine oP ?_;refine bE rfl rfl rfl rfl rfl (cH (n:=i) (de:=d30) rfl rfl rfl rfl o2.wf (hb.ae o2 fun _ _ h=>h) rfl dE (cU om dE)) ?_;intro vb' B4 g;refine wP ?_;refine ai ?_;refine yL (.put 3 vb' (pv 6 v (pn 7 ts.length (pn 8 (i+1:Nat) .nil)))) ?_;refine ih (i+1,vb') B4 (by simp only;omega) ⟨ac.fresh hw (o1.same o2) g.Fi hf,hlt,?_,fun k hk=>(g.grow k hk).elim (hf k) fun h=>Nat.le_trans (o1.same o2).aa h⟩;have:eH B4 2 vb' (i+1) (((ts.take i).map first).flatMap bc++bc (first u)):=g.buf;rw[tS hlt,mA,fA,hx];simpa using this
 ·have hge:i=ts.length:=by
   omega
  refine ay rfl ?_;refine gO ?_;rw[hge,tL] at hb;exact af rfl ⟨hb,hf,o1⟩
theorem qD{K:FuncId}{A:AW}{S:Nat→Prop}{ts:List Nd}{v:AV}{g:FuncId}{cap:List AV}{P:Nd→Bool}(hw:Wf A)(h:aI A S (jT ts) v)(ho:∀x kv,(ES K).uo g ([]++[.agg (au x kv)]++cap)=none)(hb:R.hasB (ES K) g=true)
 (hr:∀A1 x kv,ac A A1 ag→aD (ES K) g ([]++[.agg (au x kv)]++cap) A1 fun r A2=>r=.bool (P x)∧ac A1 A2 ag) :
 aD (ES K) 85 [v,.func g [] cap] A fun r A1=>(∃z:Int,r=.int .i64 z∧((z = -1∧ts.find? P=none)∨∃i x,z=(i:Nat)∧ts[i]?=some x∧ts.find? P=some x))∧ac A A1 ag:=by
 have hl:ts.length≤9000:=h.len;have hlv:bm v=some ts.length:=h.bm;refine ap rfl rfl rfl ?_;refine wJ hlv ?_;refine aE ?_;refine yL (pv 0 v (pv 1 (.func g [] cap) (pn 7 ts.length (pn 8 0 .nil)))) ?_;refine aV (ι:=Nat) (fun i=>ts.length-i) (fun i=>pv 0 v (pv 1 (.func g [] cap) (pn 7 ts.length (pn 8 i .nil)))) (fun i B=>ac A B ag∧i≤ts.length∧ts.find? P=(ts.drop i).find? P) ?_ 0 A ⟨ac.refl hw _,Nat.zero_le _,rfl⟩;rintro i B ⟨o1,hi,hp⟩ ih;refine wD (fun hlt=>?_) fun hge=>?_
 ·have hlt:i<ts.length:=Int.ofNat_lt.1 hlt;have hu:ts[i]?=some ts[i]:=gE hlt;have hd:ts.drop i=ts[i]::ts.drop (i+1):=List.drop_eq_getElem_cons hlt;generalize hx:ts[i]=u at hu hd;rw[hd,List.find?_cons] at hp;obtain⟨f,s,o,c,ex,ro,all,ku,hv,hh,_,hN,cw⟩:=(h.ae o1 fun _ _ h=>h).wi (i:=i) (u:=u) hu;refine wI hv hlt ?_;refine bS (vs:=au u ku) rfl rfl rfl rfl hh ?_ ?_
  ·exact (cw 6 0 (Nat.le_refl _)).trans rfl
  refine gO ?_;refine pi (vs:=[.agg (au u ku)]) rfl rfl rfl rfl (ho u ku) hb (hr B u ku o1) ?_;rintro r B2 ⟨rfl,o2⟩;refine gO ?_;refine fh rfl (fun hb=>?_) fun hb=>?_
  ·have hb:P u=true:=hb;rw[hb] at hp;refine gO ?_;exact af rfl ⟨⟨_,rfl,.inr ⟨i,u,rfl,hu,hp⟩⟩,o1.same o2⟩
  ·have hb:P u=false:=hb;rw[hb] at hp;refine wP ?_;refine ai ?_;refine yL (pv 0 v (pv 1 (.func g [] cap) (pn 7 ts.length (pn 8 (i+1:Nat) .nil)))) ?_;exact ih (i+1) B2 om ⟨o1.same o2,hlt,hp⟩
 ·have hge:i=ts.length:=by
   omega
  rw[hge,List.drop_length] at hp;refine ay rfl ?_;refine gO ?_;exact af rfl ⟨⟨_,rfl,.inl ⟨rfl,hp⟩⟩,o1⟩
section
variable{E:Env}{C:bC}{all rest:List Oper}{l:Kn}{A A1:AW}{Q:Kn→AW→Prop}{d:Tmp}{ty:TypeId}{pos:String}{after:Array Edge}
theorem bL{op:BinOp}{t t':TypeId}{x y:Operand}{a b v:AV}(hd:Nat.blt d C.N=true)(hx:dw l x=some a)(hy:dw l y=some b)(hv:kj E op t a b A=.val v A)(h:WO E C all rest (.put d v l) A Q):
 WO E C all (⟨some d,.binOp op t x y t',ty,pos,after,none⟩::rest) l A Q:=by
 refine bR hd (fun F hF=>?_) h;show ao (kj E op t (ev F x) (ev F y) A)=_;rw[hF.ev hx,hF.ev hy,hv];rfl
end
def eV(b:Bool)(fe:Nat): AV:=bif b then .ptr fe 0 0 else .bJ
structure BX where
 M:Nat
 pc:Nat
 fr:Nat
 fm:Nat
 kv:AV
 vn:AV
 cs:List Nd
 hs:Hs
structure PC (A:AW) (X:BX) (b:Bool) : Prop where
 cell:∃fe,A.heap.get X.pc=some (.cells 0 false 3 [X.kv,.ptr X.fr 0 0,eV b fe])
 tree:aI A (fun g=>g<X.M) (jT X.cs) X.kv
 hi:Hi A X.fr X.fm X.vn X.hs
 ht:Tree X.hs
 le:X.M≤X.pc
 n1:X.fr≠X.pc
 n2:X.fm≠X.pc
 n3:¬X.vn.av X.pc
 two:∀c∈X.cs,0<c.l.length
 mem:∀c∈X.cs,∀m∈c.l.drop 1,jK m
structure ir (A A1:AW) (X:BX) (b b1:Bool) : Prop where
 ps:PC A1 X b1
 Fi:ac A A1 (one X.pc)
 bad:b=true→b1=true
section
variable{A A1 A2:AW}{X:BX}{b b1 b2:Bool}
theorem Hi.ny{fr fm:Nat}{vn:AV}{hs:Hs}{T:Nat→Prop}(h:Hi A fr fm vn hs)(o:ac A A1 T)(h1:¬T fr)(h2:¬T fm)(h3:∀g,vn.av g→¬T g): Hi A1 fr fm vn hs:=
 ⟨o.ae _ _ h.cell h1,o.ae _ _ h.map h2,gQ h.buf o h3⟩
theorem PC.lt(hw:Wf A)(h:PC A X b): X.pc<A.aa:=by
 obtain⟨fe,h⟩:=h.cell;exact hw _ _ h
theorem PC.ae(h:PC A X b){T:Nat→Prop}(o:ac A A1 T)(hT:∀g,T g→X.M≤g∧g≠X.pc∧g≠X.fr∧g≠X.fm∧¬X.vn.av g): PC A1 X b:=by
 obtain⟨fe,hc⟩:=h.cell;exact⟨⟨fe,o.ae _ _ hc fun k=>(hT _ k).2.1 rfl⟩,h.tree.ae o fun g hg k=>by have:=(hT _ k).1;omega,h.hi.ny o (fun k=>(hT _ k).2.2.1 rfl) (fun k=>(hT _ k).2.2.2.1 rfl) fun g hg k=>(hT _ k).2.2.2.2 hg,h.ht,h.le,h.n1,h.n2,h.n3,h.two,h.mem⟩
theorem PC.quiet(h:PC A X b)(o:ac A A1 ag): PC A1 X b:=h.ae o fun _ h=>h.elim
theorem PC.under(hw:Wf A)(h:PC A X b){g:Nat}(hg:A.aa≤g): X.M≤g∧g≠X.pc∧g≠X.fr∧g≠X.fm∧¬X.vn.av g:=by
 have h1:=h.lt hw;have h2:=h.le;have h3:=hw _ _ h.hi.cell;have h4:=hw _ _ h.hi.map;refine⟨om,om,om,om,fun k=>?_⟩;obtain⟨t,ht⟩:=fj h.hi.buf k;have:=hw _ _ ht;omega
theorem ir.refl(hw:Wf A)(h:PC A X b): ir A A X b b:=⟨h,ac.refl hw _,fun h=>h⟩
theorem ir.then(h:ir A A1 X b b1)(k:ir A1 A2 X b1 b2): ir A A2 X b b2:=⟨k.ps,h.Fi.same k.Fi,fun z=>k.bad (h.bad z)⟩
theorem ir.quiet(h:ir A A1 X b b1)(o:ac A1 A2 ag): ir A A2 X b b1:=⟨h.ps.quiet o,h.Fi.same (o.mono fun _ h=>h.elim),h.bad⟩
theorem ir.after(o:ac A A1 ag)(h:ir A1 A2 X b b1): ir A A2 X b b1:=⟨h.ps,(o.mono fun _ h=>h.elim).same h.Fi,h.bad⟩
theorem ir.fresh{T:Nat→Prop}{b0:Bool}(hw:Wf A)(h0:PC A X b0)(h:ir A A1 X b b1)(o:ac A1 A2 T)(ht:∀g,T g→A.aa≤g): ir A A2 X b b1:=by
 refine⟨h.ps.ae o fun g hg=>h0.under hw (ht g hg),⟨o.wf,Nat.le_trans h.Fi.aa o.aa,fun g F hg hn=>?_⟩,h.bad⟩;exact o.ae _ _ (h.Fi.ae _ _ hg hn) fun k=>by
  have:=ht g k;have:=hw g F hg;omega
end
theorem bP{K:FuncId}{A:AW}{X:BX}{b x:Bool}{a:Int}(hw:Wf A)(h:PC A X b):
 aD (ES K) 51 [.ptr X.pc 0 0,.bool x,.int .i64 a] A fun r A1=>r=.bool (x || b)∧ir A A1 X b (x || b):=by
 obtain⟨fe,hc⟩:=h.cell;refine ap rfl rfl rfl ?_;refine gO ?_;cases x with
 | false=>
  refine rU ?_;cases b with
  | false=>
   refine gO ?_;refine bL (v:=.bool false) rfl rfl rfl rfl ?_;refine gO ?_;exact af rfl ⟨rfl,ir.refl hw h⟩
  | true=>
   refine gO ?_;refine bL (v:=.bool true) rfl rfl rfl rfl ?_;refine gO ?_;exact af rfl ⟨rfl,ir.refl hw h⟩
 | true=>
  cases b with
  | true=>
   refine gO ?_;refine bL (v:=.bool false) rfl rfl rfl rfl ?_;refine rU ?_;refine bL (v:=.bool true) rfl rfl rfl rfl ?_;refine gO ?_;exact af rfl ⟨rfl,ir.refl hw h⟩
  | false=>
   refine gO ?_;refine bL (v:=.bool true) rfl rfl rfl rfl ?_;refine rU ?_;refine bA rfl rfl rfl rfl ?_;refine bG (fun A1=>ac A A1 ag) (ac.add hw _) ?_;intro A1 o1;have hc1:=o1.k hc;refine gO ?_;refine zS hc1 ?_;have op:=ac.put (x:=.cells 0 false 3 [X.kv,.ptr X.fr 0 0,eV true A.aa]) o1.wf (o1.wf _ _ hc1);have h1:=h.quiet o1;refine bG (fun A2=>ir A A2 X false true∧A2.heap.get X.pc=some (.cells 0 false 3 [X.kv,.ptr X.fr 0 0,eV true A.aa])) ⟨⟨⟨⟨A.aa,by rw[AW.aw,iP rfl];rfl⟩,h1.tree.ae op fun g hg e=>by cases e;have:=h.le;omega,h1.hi.ny op h.n1 h.n2 fun g hg e=>h.n3 (by cases e;exact hg),h.ht,h.le,h.n1,h.n2,h.n3,h.two,h.mem⟩,(o1.mono fun _ h=>h.elim).same op,fun _=>rfl⟩,by rw[AW.aw,iP rfl];rfl⟩ ?_;rintro A2 ⟨t2,hc2⟩;refine gO ?_;refine bL (v:=.bool true) rfl rfl rfl rfl ?_;refine gO ?_;exact af rfl ⟨rfl,t2⟩
section
variable{E:Env}{C:bC}{k:List Item}{l:Kn}{A:AW}{R:AV→AW→Prop}
theorem dz{c x:Nat}{t:TypeId}{p v w:AV}{A1:AW}(hc:C.fn.results.toList=[.cell c t,.tmp x])(h1:l.find c=some p)(hx:l.find x=some w)(hl:fR E t p A=.val v A1)(h:R (.tuple [v,w]) A): WG E C (.code .ret::k) l A R:=⟨fun F hF=>by
 have hr:dl E F A C.fn.results.toList=some [v,w]:=by
  rw[hc];simp only[dl,ic,hF.get c p h1,hF.get x w hx,hl]
 exact⟨F,A,_,tf hr,h,1,fun n hn=>by
  obtain⟨m,rfl⟩:∃m,n=m+1:=⟨n-1,om⟩;rfl⟩⟩
end
def Du(o:Option Nd)(A A1:AW)(M:Nat)(r:AV): Prop:=
 ac A A1 ag∧match o with
  | none=>r=.tuple [.agg (au dL .aj),.bool false]
  | some c=>∃kv,r=.tuple [.agg (au c kv),.bool true]∧aI A1 (fun g=>g<M∨A.aa≤g) c kv
theorem Dv{K:FuncId}{A1:AW}{n:Str}{f:Nat}{x:Nd}{kv:AV}(hw:Wf A1)(hf:A1.heap.get f=some (.cells 0 false 1 [.str n])):
 aD (ES K) 86 ([]++[.agg (au x kv)]++[.ptr f 0 0]) A1 fun r A2=>r=.bool (decide (x.s=n))∧ac A1 A2 ag:=by
 refine ap rfl rfl rfl ?_;refine gO ?_;refine zB (n:=6) (y:=au x kv) hw ?_;intro A2 o2 c2;generalize A1.aa=f2 at c2;replace hf:=o2.k hf;refine gO ?_;exact af rfl ⟨rfl,o2⟩
theorem qE{K:FuncId}{A:AW}{X:BX}{b:Bool}{n:Str}(hw:Wf A)(h:PC A X b): aD (ES K) 49 [.ptr X.pc 0 0,.str n] A fun r A1=>Du (bp X.cs n) A A1 X.M r:=by
 obtain⟨fe,hc⟩:=h.cell;refine ap rfl rfl rfl ?_;refine gO ?_;refine zB (n:=1) (y:=[.str n]) hw ?_;intro A1 o1 c3;generalize hf3:A.aa=f3 at c3;refine zA (n:=6) (y:=au dL .aj) o1.wf ?_;intro A2 o2 c4;have m1:=o1.aa;generalize hf4:A1.aa=f4 at c4;replace c3:=o2.k c3;replace o2:=o1.same o2;replace hc:=o2.k hc;have N:=h.tree.k o2;refine gO ?_;refine dG rfl rfl rfl ?_;refine wC (qD (P:=fun c=>decide (c.s=n)) o2.wf N (fun _ _=>bF) rfl fun B x kv oB=>Dv oB.wf (oB.ae _ _ c3 fun h=>h)) ?_;rintro r A3 ⟨⟨z,rfl,hz⟩,o3⟩;have o23:=o2.same o3;obtain⟨hc,c4⟩:=o3.k2 hc c4;replace N:=N.k o3;have fin:∀{t:Nd} {kv:AV},ac A (A3.put f4 (.cells 0 false 6 (au t kv))) ag:=fun {t kv}=>ac.fresh hw o23 (ac.put o3.wf (o3.wf _ _ c4)) nF;refine wD (fun hneg=>?_) fun hneg=>?_
 ·have hneg:z<0:=hneg;rcases hz with ⟨_,hz⟩|⟨i,x,rfl,_,_⟩
  ·refine wS c4 ?_;refine dz rfl rfl rfl (bk rfl rfl (by rw[AW.aw,iP rfl]) rfl) ⟨fin (t:=dL) (kv:=.aj),?_⟩;rw[show bp X.cs n=none from hz];rfl
  ·omega
 ·have hneg:¬z<0:=hneg;rcases hz with ⟨rfl,hz⟩|⟨i,x,rfl,hx,hz⟩
  ·exact absurd dE hneg
  ·obtain⟨f,s,o,c,ex,ro,all,ku,hv,hh,hlt,hN,cw⟩:=N.wi (i:=i) (u:=x) hx;refine wI hv hlt ?_;refine bS (vs:=au x ku) rfl rfl rfl rfl hh ?_ ?_
   ·exact (cw 6 0 (Nat.le_refl _)).trans rfl
   refine oP ?_;refine zS c4 ?_;have op:=ac.put (x:=.cells 0 false 6 (au x ku)) o3.wf (o3.wf _ _ c4);refine gO ?_;refine dz rfl rfl rfl (bk rfl rfl (by rw[AW.aw,iP rfl]) rfl) ⟨fin (t:=x) (kv:=ku),?_⟩;rw[show bp X.cs n=some x from hz];exact⟨ku,rfl,(hN.ae op fun g hg e=>by cases e;have:=h.lt hw;have:=h.le;omega).mono fun g hg _=>.inl hg⟩
theorem ve{K:FuncId}{A:AW}{X:BX}{b:Bool}{c n:Str}{k:Int}(hw:Wf A)(h:PC A X b): aD (ES K) 19 [.ptr X.pc 0 0,.str c,.str n,.int .i64 k] A fun r A1=>Du (Ae.own X.cs c n k) A A1 X.M r:=by
 have hMA:X.M≤A.aa:=by have:=h.lt hw;have:=h.le;omega
 refine ap rfl rfl rfl ?_;refine gO ?_;refine zA (n:=6) (y:=au dL .aj) hw ?_;intro A1 o1 c8;generalize hf8:A.aa=f8 at c8;have x8:=o1.wf _ _ c8;refine wC (qE o1.wf (h.quiet o1)) ?_;rintro r A2 ⟨o2,hr⟩;have o12:=o1.same o2;replace c8:=o2.k c8;unfold Ae.own;have fin:∀{B:AW} {t:Nd} {kv:AV},ac A B ag→gt B f8 6 (au dL .aj)→ac A (B.put f8 (.cells 0 false 6 (au t kv))) ag:=fun o hB=>ac.fresh hw o (ac.put o.wf (o.wf _ _ hB)) nF;cases hcls:bp X.cs c with
 | none=>
  rw[hcls] at hr;have hr:r=.tuple [.agg (au dL .aj),.bool false]:=hr;subst hr;refine gO ?_;refine aq rfl rfl rfl ?_;refine zS (by rw[AW.add_get,iP rfl]) ?_;refine bG (fun A3=>ac A2 A3 ag) (made o12.wf) ?_;intro A3 o3;replace c8:=o3.k c8;refine rU ?_;refine wS c8 ?_;exact dz rfl rfl rfl (bk rfl rfl (by rw[AW.aw,iP rfl]) rfl) ⟨fin (t:=dL) (kv:=.aj) (o12.same o3) c8,rfl⟩
 | some d=>
  rw[hcls] at hr;obtain⟨kv,hr,N⟩:∃kv,r=.tuple [.agg (au d kv),.bool true]∧aI A2 (fun g=>g<X.M∨A1.aa≤g) d kv:=hr;subst hr;have hd0:=h.two d (List.mem_of_find?_eq_some hcls);refine gO ?_;refine zM (n:=6) (y:=au d kv) o12.wf ?_;intro A3 o3 c10;generalize hf10:A2.aa=f10 at c10;replace c8:=o3.k c8;replace N:=N.k o3;have o13:=o12.same o3;refine rU ?_;refine bQ (Q:=fun r=>aI A3 (fun g=>g<X.M∨A1.aa≤g) (jT (d.l.drop 1)) r) rfl rfl rfl rfl rfl (mK N hd0) ?_;intro v25 N2;have hl25:=N2.bm;have hl9:=N2.len;refine wJ hl25 ?_;generalize hms:d.l.drop 1=ms at N2 hl25 hl9 ⊢;refine aE ?_;refine yL (pv 2 (.str n) (pz 3 k (pp 8 f8 (pv 25 v25 (pn 26 ms.length (pn 27 0 .nil)))))) ?_
  refine aV (ι:=Nat) (fun i=>ms.length-i) (fun i=>pv 2 (.str n) (pz 3 k (pp 8 f8 (pv 25 v25 (pn 26 ms.length (pn 27 i .nil)))))) (fun i B=>ac A3 B ag∧i≤ms.length∧ms.find? (fun m=>decide (m.s=n∧m.k=k))=(ms.drop i).find? fun m=>decide (m.s=n∧m.k=k)) ?_ 0 A3 ⟨ac.refl o3.wf _,Nat.zero_le _,rfl⟩;rintro i B ⟨oB,hi,hp⟩ ih;replace c8:=oB.k c8;replace N2:=N2.k oB;have o1B:=o13.same oB;refine wD (fun hlt=>?_) fun hge=>?_
  ·have hlt:i<ms.length:=Int.ofNat_lt.1 hlt;have hu:ms[i]?=some ms[i]:=gE hlt;have hd:ms.drop i=ms[i]::ms.drop (i+1):=List.drop_eq_getElem_cons hlt;generalize hx:ms[i]=u at hu hd;rw[hd,List.find?_cons] at hp;obtain⟨f,s,o,c,ex,ro,all,ku,hv,hh,_,hN,cw⟩:=N2.wi (i:=i) (u:=u) hu;refine wI hv hlt ?_;refine bS (vs:=au u ku) rfl rfl rfl rfl hh ?_ ?_
   ·exact (cw 6 0 (Nat.le_refl _)).trans rfl
   refine oP ?_;refine aq rfl rfl rfl ?_;refine zS (by rw[AW.add_get,iP rfl]) ?_;refine bG (fun B2=>ac B B2 ag∧B2.heap.get B.aa=some (.cells 0 false 6 (au u ku))) ⟨made oB.wf,by rw[AW.aw,iP rfl];rfl⟩ ?_;rintro B2 ⟨o2',c13⟩;generalize hf13:B.aa=f13 at c13;replace c8:=o2'.k c8;replace hN:=hN.k o2';have o1B2:=o1B.same o2';refine oP ?_;refine sQ ?_;refine bX (pv 2 (.str n) (pz 3 k (pp 8 f8 (pp 13 f13 (pv 25 v25 (pn 26 ms.length (pn 27 i (pb 40 (decide (u.s=n∧u.k=k)) .nil)))))))) ?_ ?_
   ·refine oP ?_;by_cases h1:u.s=n
    ·refine wT 35 h1 ?_;refine oP ?_;exact⟨rfl,rfl,rfl,rfl,rfl,rfl,rfl,rfl,congrArg (fun x=>some (AV.bool x)) (decide_eq_decide.2 ⟨fun h=>⟨h1,h⟩,fun h=>h.2⟩),trivial⟩
    ·refine wF 35 h1 ?_;refine oP ?_;exact⟨rfl,rfl,rfl,rfl,rfl,rfl,rfl,rfl,congrArg (fun x=>some (AV.bool x)) (yF fun h=>h1 h.1).symm,trivial⟩
   refine zG (fun hb=>?_) fun hb=>?_
   ·rw[yT hb] at hp;refine wL c13 ?_;refine zS c8 ?_;have op:=ac.put (x:=.cells 0 false 6 (au u ku)) o2'.wf (o2'.wf _ _ c8);refine gO ?_;refine dz rfl rfl rfl (bk rfl rfl (by rw[AW.aw,iP rfl]) rfl) ⟨fin (t:=u) (kv:=ku) o1B2 c8,?_⟩;have hq:(d.l.drop 1).find? (fun m=>decide (m.s=n∧m.k=k))=some u:=by
     rw[hms];exact hp
    simp only[hq];refine⟨ku,rfl,(hN.ae op fun g hg e=>by cases e;omega).mono fun g hg _=>?_⟩;rcases hg with hg|hg
    ·exact .inl hg
    ·exact .inr om
   ·rw[yF hb] at hp;refine wP ?_;refine ai ?_;refine yL (pv 2 (.str n) (pz 3 k (pp 8 f8 (pv 25 v25 (pn 26 ms.length (pn 27 (i+1:Nat) .nil)))))) ?_;exact ih (i+1) B2 om ⟨oB.same o2',hlt,hp⟩
  ·have hge:i=ms.length:=by
    omega
   rw[hge,List.drop_length] at hp;refine ay rfl ?_;refine wS c8 ?_;refine dz rfl rfl rfl (bk rfl rfl (by rw[AW.aw,iP rfl]) rfl) ⟨fin (t:=dL) (kv:=.aj) o1B c8,?_⟩;have hq:(d.l.drop 1).find? (fun m=>decide (m.s=n∧m.k=k))=none:=by
    rw[hms];exact hp
   simp only[hq];rfl
end Go.Proofs.YtafamggbkobcfaaGreat.Ae
