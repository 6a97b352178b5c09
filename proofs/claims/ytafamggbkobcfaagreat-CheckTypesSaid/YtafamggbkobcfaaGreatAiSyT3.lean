/- A part of the proof of the statement CheckTypes. -/
import Derived.Test.YtafamggbkobcfaaGreatAiSyTab
import Derived.Test.YtafamggbkobcfaaGreatAiSyV
namespace Go.Proofs.YtafamggbkobcfaaGreat.Ae
open Go.AE
set_option linter.unusedVariables false
set_option maxRecDepth 100000
theorem ac.fresh{A A1 A2:AW}{T:Nat→Prop}(hw:Wf A)(h:ac A A1 ag)(k:ac A1 A2 T)(ht:∀g,T g→A.aa≤g): ac A A2 ag:=
 h.trans hw (k.mono fun g hg=>hg) fun g hg=>.inr (ht g hg)
abbrev Str:=List Nat
def ip(l:List Str): List AV:=l.flatMap fun s=>[AV.str s]
theorem EH(s:Str): ([AV.str s]:List AV).length=1:=rfl
theorem dZ(l m:List Str): ip (l++m)=ip l++ip m:=by unfold ip;rw[List.flatMap_append]
theorem cZ{A:AW}{v:AV}{l:List Str}(h:Row A 1 v l.length (ip l)){i:Nat}{s:Str}(hs:l[i]?=some s):
 ∃f t o c ex ro all,v=.slice f t o l.length c ex∧A.heap.get f=some (.cells t ro 1 all)∧i<l.length∧nth all (Nat.add o (Nat.mul i 1))=some (.str s):=by
 have hi:=(List.getElem?_eq_some_iff.1 hs).1;obtain⟨f,t,o,c,ex,ro,all,rfl,hh,cw⟩:=h.at hi;exact⟨f,t,o,c,ex,ro,all,rfl,hh,hi,aR ((cw 1 0 dE).trans ((pM EH hs 1 0 dE).trans rfl))⟩
abbrev Hs:=List (Str×Str)
def uU(hs:Hs): List (AV×AV):=hs.map fun p=>(.str p.1,.str p.2)
def lk:Hs→Str→Option Str
 | [],_=>none
 | p::l,k=>if k=p.1 then some p.2 else lk l k
def upd:Hs→Str→Str→Hs
 | [],_,_=>[]
 | p::l,k,w=>if k=p.1 then (k,w)::l else p::upd l k w
theorem pO(a b:Str): ox (.str a) (.str b)=some (decide (a=b)):=congrArg some (mF a b)
theorem pP:∀(hs:Hs) (k:Str) (i:Nat),lk hs k=none→dX (.str k) (uU hs) i=some none
 | [],k,i,h=>rfl
 | p::l,k,i,h=>by
  unfold lk at h;by_cases hp:k=p.1
  ·rw[iP hp] at h;cases h
  ·rw[iN hp] at h;show (match ox (.str k) (.str p.1) with|some true=>_|some false=>dX (.str k) (uU l) (Nat.succ i)|none=>_)=_;rw[pO,yF hp];exact pP l k _ h
theorem pQ:∀(hs:Hs) (k v w:Str) (i:Nat),lk hs k=some v→∃j,dX (.str k) (uU hs) i=some (some (i+j,.str v))∧iO j (.str k) (.str w) (uU hs)=uU (upd hs k w)
 | [],k,v,w,i,h=>by cases h
 | p::l,k,v,w,i,h=>by
  unfold lk at h;by_cases hp:k=p.1
  ·rw[iP hp] at h;cases h;refine⟨0,?_,?_⟩
   ·show (match ox (.str k) (.str p.1) with|some true=>some (some (i,AV.str p.2))|some false=>_|none=>_)=_;rw[pO,yT hp];rfl
   ·unfold upd;rw[iP hp];rfl
  ·rw[iN hp] at h;obtain⟨j,h1,h2⟩:=pQ l k v w (Nat.succ i) h;refine⟨j+1,?_,?_⟩
   ·show (match ox (.str k) (.str p.1) with|some true=>_|some false=>dX (.str k) (uU l) (Nat.succ i)|none=>_)=_;rw[pO,yF hp];refine h1.trans ?_;rw[show Nat.succ i+j=i+(j+1) from by omega]
   ·unfold upd;rw[iN hp];show (AV.str p.1,AV.str p.2)::iO j _ _ (uU l)=_;rw[h2];rfl
theorem mH{K:FuncId}{A:AW}{f:Nat}{hs:Hs}{k:Str}(ok:Bool)(h:A.heap.get f=some (.map (uU hs))):
 iw (ES K) 123 (.map f) (.str k) ok A=.val (bif ok then .tuple [.str ((lk hs k).getD []),.bool (lk hs k).isSome] else .str ((lk hs k).getD [])) A:=by
 have e1:(ES K).cf.get 123=some d123:=rfl;have e2:mX (ES K) 9 (.str k)=true:=rfl;have e3:(ES K).cf.get 9=some d9:=rfl;have e4:d123.desc=.map 9 9:=rfl;unfold iw;rw[e1];simp only[e4,e2,cond_true,h];cases hl:lk hs k with
 | none=>
  rw[pP hs k 0 hl];simp only[e3];rfl
 | some v=>
  obtain⟨j,h1,_⟩:=pQ hs k v [] 0 hl;rw[h1];rfl
theorem nZ{K:FuncId}{A:AW}{f:Nat}{hs:Hs}{k v:Str}(h:A.heap.get f=some (.map (uU hs)))(hl:lk hs k=none):
 dq (ES K) 123 (.map f) (.str k) (.str v) A=.val .undef (A.put f (.map (uU (hs++[(k,v)])))):=by
 have e1:(ES K).cf.get 123=some d123:=rfl;have e2:mX (ES K) 9 (.str k)=true:=rfl;have e4:d123.desc=.map 9 9:=rfl;unfold dq;rw[e1];simp only[e4,e2,cond_true,h,pP hs k 0 hl];unfold uU;rw[mA];rfl
theorem zm{K:FuncId}{A:AW}{f:Nat}{hs:Hs}{k v w:Str}(h:A.heap.get f=some (.map (uU hs)))(hl:lk hs k=some v):
 dq (ES K) 123 (.map f) (.str k) (.str w) A=.val .undef (A.put f (.map (uU (upd hs k w)))):=by
 have e1:(ES K).cf.get 123=some d123:=rfl;have e2:mX (ES K) 9 (.str k)=true:=rfl;have e4:d123.desc=.map 9 9:=rfl;obtain⟨j,h1,h2⟩:=pQ hs k v w 0 hl;unfold dq;rw[e1];simp only[e4,e2,cond_true,h,h1];rw[Nat.zero_add,h2];rfl
section
variable{E:Env}{C:bC}{all rest:List Oper}{l:Kn}{A A1:AW}{Q:Kn→AW→Prop}{d:Tmp}{ty:TypeId}{pos:String}{after:Array Edge}
theorem zn{t:TypeId}(hd:Nat.blt d C.N=true)(h:WO E C all rest (.put d (.map A.aa) l) (A.add (.map [])) Q): WO E C all (⟨some d,.makeMap t none,ty,pos,after,none⟩::rest) l A Q:=
 bR hd (fun F hF=>rfl) h
theorem mI{t:TypeId}{m k:Operand}{ok:Bool}{mv kv v:AV}(hd:Nat.blt d C.N=true)(hm:dw l m=some mv)(hk:dw l k=some kv)(hv:iw E t mv kv ok A=.val v A)(h:WO E C all rest (.put d v l) A Q):
 WO E C all (⟨some d,.lookup t m k ok,ty,pos,after,none⟩::rest) l A Q:=
 bR hd (fun F hF=>by
  show ao (iw E t (ev F m) (ev F k) ok A)=_;rw[hF.ev hm,hF.ev hk,hv];rfl) h
theorem pf{t:TypeId}{m k x:Operand}{mv kv xv:AV}(hm:dw l m=some mv)(hk:dw l k=some kv)(hx:dw l x=some xv)(hv:dq E t mv kv xv A=.val .undef A1)(h:WO E C all rest l A1 Q):
 WO E C all (⟨none,.mapUpdate t m k x,ty,pos,after,none⟩::rest) l A Q:=
 zb (v:=.undef) (fun F hF=>by
  show ao (dq E t (ev F m) (ev F k) (ev F x) A)=_;rw[hF.ev hm,hF.ev hk,hF.ev hx,hv];rfl) h
theorem uV{t:TypeId}{m k x:Operand}{mv kv xv:AV}(hm:dw l m=some mv)(hk:dw l k=some kv)(hx:dw l x=some xv)(hv:dq E t mv kv xv A=.val .undef A1)(h:WO E C all rest l A1 Q):
 WO E C all (⟨none,.insert t m k x,ty,pos,after,none⟩::rest) l A Q:=
 zb (v:=.undef) (fun F hF=>by
  show ao (dq E t (ev F m) (ev F k) (ev F x) A)=_;rw[hF.ev hm,hF.ev hk,hF.ev hx,hv];rfl) h
end
def zo(A:AW)(es:Nat)(v:AV)(n:Nat)(cs:List AV): Prop:=
 eH A es v n cs∨∃f t,v=.slice f t 0 n n true∧A.heap.get f=some (.cells t false es cs)∧cs.length=n*es
theorem mg{A:AW}{es:Nat}{v:AV}{n:Nat}{cs:List AV}(h:zo A es v n cs): bm v=some n:=by
 rcases h with h|⟨f,t,rfl,_⟩
 ·exact h.bm
 ·rfl
theorem gQ{A A1:AW}{es:Nat}{v:AV}{n:Nat}{cs:List AV}{T:Nat→Prop}(h:zo A es v n cs)(ho:ac A A1 T)(hd:lh v.av T): zo A1 es v n cs:=by
 rcases h with h|⟨f,t,rfl,h1,h2⟩
 ·exact .inl (h.ae ho hd)
 ·exact .inr ⟨f,t,rfl,ho.ae f _ h1 (hd f rfl),h2⟩
theorem AM{A:AW}{es:Nat}{v:AV}{n:Nat}{cs:List AV}(h:zo A es v n cs): Row A es v n cs:=by
 rcases h with h|⟨f,t,rfl,h1,h2⟩
 ·exact h.row
 ·refine .inr ⟨f,t,0,n,true,false,cs,rfl,h1,Nat.le_refl _,?_⟩;rw[show aB 0 cs=cs from rfl,br _ _ om,←h2,tL]
theorem fj{A:AW}{es:Nat}{v:AV}{n:Nat}{cs:List AV}(h:zo A es v n cs){g:Nat}(hg:v.av g): ∃t,A.heap.get g=some (.cells t false es cs):=by
 rcases h with (⟨rfl,_⟩|⟨f,t,rfl,h1,_⟩)|⟨f,t,rfl,h1,_⟩
 ·exact hg.elim
 ·cases hg;exact⟨t,h1⟩
 ·cases hg;exact⟨t,h1⟩
theorem zp{E:Env}{A:AW}{t e:TypeId}{d de:bH}{z:List AV}{v:AV}{n:Nat}{cs xs:List AV}(ht:E.cf.get t=some d)(hs:d.desc=.slice e)(he:E.cf.get e=some de)(hz:de.zero=some z)
 (hw:Wf A) (hb:zo A de.size v n cs) (hl:xs.length=de.size) (h1:1≤de.size) (hr:eL (n+1) de.bytes=true) :
 ∃v' A1,dP E t v (.slice A.aa 0 0 1 1 true) (A.add (.cells 0 false de.size xs))=.val v' A1∧xM A A1 de.size v v' (n+1) (cs++xs):=by
 rcases hb with hb|⟨f,u,rfl,g1,g2⟩
 ·exact cH ht hs he hz hw hb hl h1 hr
 ·have o1:ac A (A.add (.cells 0 false de.size xs)) ag:=ac.add hw _;have hx:kl (A.add (.cells 0 false de.size xs)) de.size (.slice A.aa 0 0 1 1 true)=some (1,xs):=by
   have e:takeN (Nat.mul 1 de.size) xs=some xs:=by
    have:Nat.mul 1 de.size=de.size:=Nat.one_mul _;rw[this,br _ _ om,←hl,tL]
   simp only[kl,bU,aB];rw[AW.add_get,iP rfl];simp only[Nat.beq_refl,cond_true,e]
  have g3:=o1.ae f _ g1 fun h=>h;have o2:ac (A.add (.cells 0 false de.size xs)) ((A.add (.cells 0 false de.size xs)).add (.cells 0 false de.size (cs++xs))) ag:=ac.add o1.wf _;have e1:Nat.ble 1 de.size=true:=Nat.ble_eq_true_of_le h1;have e2:Nat.ble (Nat.add n 1) n=false:=by
   rw[cT];exact yF (by show ¬n+1≤n;omega)
  have e3:takeN (Nat.mul n de.size) (aB 0 cs)=some cs:=by
   rw[show aB 0 cs=cs from rfl,br _ _ (by rw[g2];exact Nat.le_refl _),show Nat.mul n de.size=n*de.size from rfl,←g2,tL]
  have hr':eL (Nat.add n 1) de.bytes=true:=hr;refine⟨.slice (A.add (.cells 0 false de.size xs)).aa 0 0 (Nat.add n 1) (Nat.add n 1) false,(A.add (.cells 0 false de.size xs)).add (.cells 0 false de.size (cs++xs)),?_,.inr ⟨_,0,rfl,by rw[AW.add_get,iP rfl],by rw[lA,g2,hl,Nat.add_mul];omega,Nat.succ_pos _⟩,(o1.same o2).mono fun g h=>h.elim,fun g hg=>.inr ?_⟩
  ·unfold dP;simp only[ht,hs,he,hz,hx,show Nat.beq 1 0=false from rfl,cond_false,e1,cond_true,gr,g3,Nat.beq_refl,Bool.and_self,e2,hr',e3];rfl
  ·cases hg;exact o1.aa
structure Hi (A:AW) (fr fm:Nat) (vn:AV) (hs:Hs) : Prop where
 cell:A.heap.get fr=some (.cells 0 false 2 [vn,.map fm])
 map:A.heap.get fm=some (.map (uU hs))
 buf:zo A 1 vn hs.length (ip (hs.map Prod.fst))
theorem Hi.ae{A A1:AW}{fr fm:Nat}{vn:AV}{hs:Hs}(h:Hi A fr fm vn hs)(ho:ac A A1 ag): Hi A1 fr fm vn hs:=
 ⟨ho.ae _ _ h.cell fun h=>h,ho.ae _ _ h.map fun h=>h,gQ h.buf ho fun _ _ h=>h⟩
def has(hs:Hs)(k:Str): Bool:=(lk hs k).isSome
theorem gR{K:FuncId}{A:AW}{fr fm:Nat}{vn:AV}{hs:Hs}{k:Str}(h:Hi A fr fm vn hs): aD (ES K) 90 [.ptr fr 0 0,.str k] A fun r A1=>r=.bool (has hs k)∧A1=A:=by
 refine ap rfl rfl rfl ?_;have hc:=h.cell;refine gO ?_;refine mI rfl rfl rfl (mH true h.map) ?_;refine gO ?_;exact af rfl ⟨rfl,rfl⟩
def ix:List Str→Str→Nat→Int
 | [],_,_=>-1
 | x::l,k,i=>if k=x then (i:Int) else ix l k (i+1)
theorem zq:∀(l:List Str) (k:Str) (i:Nat),0≤ix l k i↔k∈l
 | [],k,i=>by simp [ix]
 | x::l,k,i=>by
  unfold ix;by_cases h:k=x
  ·rw[iP h,h];simp
  ·rw[iN h,zq l k (i+1)];simp [h]
theorem tF{K:FuncId}{A:AW}{v:AV}{l:List Str}{k:Str}(h:Row A 1 v l.length (ip l))(hn:l.length<9223372036854775807):
 aD (ES K) 100 [v,.str k] A fun r A1=>r=.int .i64 (ix l k 0)∧A1=A:=by
 refine ap rfl rfl rfl ?_;refine wJ h.bm ?_;refine aE ?_;refine yL (pv 0 v (pv 1 (.str k) (pn 7 l.length (pn 8 0 .nil)))) ?_;refine aV (ι:=Nat) (fun i=>l.length-i) (fun i=>pv 0 v (pv 1 (.str k) (pn 7 l.length (pn 8 i .nil)))) (fun i A1=>A1=A∧i≤l.length∧ix (l.drop i) k i=ix l k 0) ?_ 0 A ⟨rfl,Nat.zero_le _,rfl⟩;rintro i A1 ⟨rfl,hi,hx⟩ ih;refine wD (fun hlt=>?_) fun hge=>?_
 ·have hlt:i<l.length:=Int.ofNat_lt.1 hlt;obtain⟨s,hs⟩:∃s,l[i]?=some s:=⟨l[i],gE hlt⟩;have hd:l.drop i=s::l.drop (i+1):=by
   rw[gE hlt,Option.some.injEq] at hs;rw[←hs];exact List.drop_eq_getElem_cons hlt
  rw[hd] at hx;have hx:(if k=s then (i:Int) else ix (l.drop (i+1)) k (i+1))=ix l k 0:=hx;obtain⟨f,t,o,c,ex,ro,all,rfl,hh,_,hN⟩:=cZ h hs;refine gO ?_;refine zI i rfl hlt ?_;refine wE hh hN ?_;refine zG (fun he=>?_) fun he=>?_
  ·have he:k=s:=he;rw[iP he] at hx;refine gO ?_;exact af rfl ⟨by rw[←hx];rfl,rfl⟩
  ·have he:¬k=s:=he;rw[iN he] at hx;refine wP ?_;refine ai ?_;refine yL (pv 0 (.slice f t o l.length c ex) (pv 1 (.str k) (pn 7 l.length (pn 8 (i+1:Nat) .nil)))) ?_;exact ih (i+1) A1 om ⟨rfl,hlt,hx⟩
 ·have hge:i=l.length:=by
   omega
  subst hge;rw[List.drop_length] at hx;refine ay rfl ?_;refine gO ?_;exact af rfl ⟨by rw[←hx];rfl,rfl⟩
theorem iz{K:FuncId}{A:AW}{v:AV}{l:List Str}{k:Str}(h:Row A 1 v l.length (ip l))(hn:l.length<9223372036854775807):
 aD (ES K) 74 [v,.str k] A fun r A1=>r=.bool (decide (k∈l))∧A1=A:=by
 refine ap rfl rfl rfl ?_;refine wC (tF h hn) ?_;rintro r A1 ⟨rfl,rfl⟩;refine gO ?_;exact af rfl ⟨congrArg AV.bool (decide_eq_decide.2 (zq l k 0)),rfl⟩
def bB:Str:=[79,98,106,101,99,116]
def up(hs:Hs)(k:Str): Str:=(lk hs k).getD []
def cA(hs:Hs): Nat→Str→Bool
 | 0,k=>decide (k≠bB)
 | f+1,k=>if k=bB then false else cA hs f (up hs k)
def iJ(hs:Hs): Nat→Str→List Str
 | 0,k=>[k]
 | f+1,k=>k::(if k=bB then [] else iJ hs f (up hs k))
def nj(hs:Hs)(k:Str): List Str:=if has hs k=true then iJ hs (hs.length+1) k else []
def Good(hs:Hs): Prop:=∀k,has hs k=true→cA hs (hs.length+1) k=false
theorem jJ(hs:Hs): ∀f,iJ hs f bB=[bB]
 | 0=>rfl
 | f+1=>by unfold iJ;rw[iP rfl]
theorem pR{hs:Hs}{f:Nat}{k:Str}(h:cA hs f k=false)(hk:¬k=bB): ∃g,f=g+1∧cA hs g (up hs k)=false∧iJ hs f k=k::iJ hs g (up hs k):=by
 cases f with
 | zero=>
  unfold cA at h;rw[yT hk] at h;cases h
 | succ g=>
  unfold cA at h;rw[iN hk] at h;refine⟨g,rfl,h,?_⟩
  conv=>lhs;unfold iJ
  rw[iN hk]
theorem xP(hs:Hs): ∀f k,(iJ hs f k).length≤f+1
 | 0,k=>Nat.le_refl _
 | f+1,k=>by
  unfold iJ;split
  ·simp
  ·have:=xP hs f (up hs k);simp only[lC];omega
theorem rG(hs:Hs)(k:Str): (nj hs k).length≤hs.length+2:=by
 unfold nj;split
 ·exact xP hs _ k
 ·exact Nat.zero_le _
theorem tG{K:FuncId}{A:AW}{fr fm:Nat}{vn:AV}{hs:Hs}{k:Str}(hw:Wf A)(h:Hi A fr fm vn hs)(hg:Good hs)(hn:hs.length≤100):
 aD (ES K) 77 [.ptr fr 0 0,.str k] A fun r A1=>eH A1 1 r (nj hs k).length (ip (nj hs k))∧ac A A1 ag∧ge A ag r.av:=by
 refine ap rfl rfl rfl ?_;refine wC (gR h) ?_;rintro r A1 ⟨rfl,rfl⟩;refine gO ?_;refine fh rfl (fun hb=>?_) fun hb=>?_
 ·have hb:has hs k=false:=by
   cases hx:has hs k
   ·rfl
   ·rw[hx] at hb;cases hb
  unfold nj;rw[hb];refine gO ?_;exact af rfl ⟨.inl ⟨rfl,rfl,rfl⟩,ac.refl hw _,fun g hg=>.inl hg⟩
 have hb:has hs k=true:=by
  cases hx:has hs k
  ·rw[hx] at hb;cases hb
  ·rfl
 have ha:nj hs k=iJ hs (hs.length+1) k:=by
  unfold nj;rw[iP hb]
 rw[ha];refine gO ?_;refine lZ ?_;refine yL (pp 0 fr (pv 1 (.str k) (.put 5 .aj .nil))) ?_;refine aV (ι:=Nat×Str×List Str×AV) (fun i=>i.1) (fun i=>pp 0 fr (pv 1 (.str i.2.1) (.put 5 i.2.2.2 .nil)))
  (fun i A2=>cA hs i.1 i.2.1=false∧i.2.2.1++iJ hs i.1 i.2.1=iJ hs (hs.length+1) k∧eH A2 1 i.2.2.2 i.2.2.1.length (ip i.2.2.1)∧ac A1 A2 ag∧(∀g,i.2.2.2.av g→A1.aa≤g)∧i.2.2.1.length+i.1=hs.length+1) ?_
  (hs.length+1,k,[],.aj) A1 ⟨hg k hb,rfl,.inl ⟨rfl,rfl,rfl⟩,ac.refl hw _,fun g h=>h.elim,by simp⟩
 rintro ⟨f,q,out,v⟩ A2 ⟨h1,h2,h3,h4,h5,h6⟩ ih;have h1:cA hs f q=false:=h1;have h2:out++iJ hs f q=iJ hs (hs.length+1) k:=h2;have h3:eH A2 1 v out.length (ip out):=h3;have h4:ac A1 A2 ag:=h4;have h5:∀g,v.av g→A1.aa≤g:=h5;have h6:out.length+f=hs.length+1:=h6;refine gO ?_;refine bE rfl rfl rfl rfl rfl (cH (n:=out.length) (de:=d9) rfl rfl rfl rfl h4.wf h3 rfl dE (cU om dE)) ?_;intro v' A3 g;have b3:eH A3 1 v' (out++[q]).length (ip (out++[q])):=by
  have:=g.buf;rw[lA,lS,dZ];exact this
 have o3:ac A1 A3 ag:=ac.fresh hw h4 g.Fi h5;have f3:∀k,v'.av k→A1.aa≤k:=fun k hk=>(g.grow k hk).elim (h5 k) fun h=>Nat.le_trans h4.aa h;refine wD (fun ho=>?_) fun ho=>?_
 ·have ho:q=bB:=ho;rw[ho,jJ] at h2;rw[←h2];rw[ho] at b3;refine gO ?_;exact af rfl ⟨b3,o3,fun g hg=>.inr (f3 g hg)⟩
 ·have ho:¬q=bB:=ho;obtain⟨m,rfl,e1,e2⟩:=pR h1 ho;have hc:=(h.ae o3).cell;refine gO ?_;refine mI rfl rfl rfl (mH false (h.ae o3).map) ?_;refine gO ?_;refine oZ rfl (ld (jd ?_));refine yL (pp 0 fr (pv 1 (.str (up hs q)) (.put 5 v' .nil))) ?_;refine ih (m,up hs q,out++[q],v') A3 (Nat.lt_succ_self _) ⟨e1,?_,b3,o3,f3,?_⟩
  ·show (out++[q])++iJ hs m (up hs q)=_;rw[←h2,e2,aA];rfl
  ·show (out++[q]).length+m=_;rw[lA,lS];omega
def sub(hs:Hs)(a b:Str): Bool:=decide (b∈nj hs a)
theorem Dl{K:FuncId}{A:AW}{fr fm:Nat}{vn:AV}{hs:Hs}{a b:Str}(hw:Wf A)(h:Hi A fr fm vn hs)(hg:Good hs)(hn:hs.length≤100):
 aD (ES K) 132 [.ptr fr 0 0,.str a,.str b] A fun r A1=>r=.bool (sub hs a b)∧ac A A1 ag:=by
 have hl:=rG hs a;refine ap rfl rfl rfl ?_;refine wC (tG hw h hg hn) ?_;rintro r A1 ⟨h1,h2,h3⟩;refine wC (iz h1.row om) ?_;rintro r A2 ⟨rfl,rfl⟩;refine gO ?_;exact af rfl ⟨rfl,h2⟩
theorem dJ{α β:Type}(P:Program): ∀(s:Sem α) (f:α→Sem β),fY P (s >>= f)=(fY P s).bind fun a=>fY P (f a)
 | .pure a,f=>rfl
 | .program k,f=>dJ P (k P) f
 | .load ..,_|.store ..,_|.new ..,_|.shape ..,_|.freeze ..,_|.frozen ..,_|.getObj ..,_|.setObj ..,_|.choose ..,_|.sys ..,_|.mark ..,_|.halt ..,_=>rfl
theorem eqInt{d:Nat}{a b:Int}:fY Tryz.prog (Go.Op.equalIn (d+1) 3 (.int .i64 a) (.int .i64 b))=some (a == b):=by
 unfold Go.Op.equalIn;rw[dJ,show fY Tryz.prog (Go.underlying 3)=some (.int .i64) from by kernel_rfl];rfl
theorem eqStr{d:Nat}{a b:ByteArray}:fY Tryz.prog (Go.Op.equalIn (d+1) 9 (.string a) (.string b))=some (a == b):=by
 unfold Go.Op.equalIn;rw[dJ,show fY Tryz.prog (Go.underlying 9)=some .string from by kernel_rfl];rfl
def jR(s:Str): ByteArray:=⟨(s.map UInt8.ofNat).toArray⟩
def small(s:Str): Prop:=∀b∈s,b<256
theorem xQ{s:Str}(h:small s): (jR s).data.toList.map UInt8.toNat=s:=by
 unfold jR;simp only[List.map_map]
 conv=>rhs;rw[←List.map_id s]
 refine List.map_congr_left fun b hb=>?_;have:=h b hb;show (UInt8.ofNat b).toNat=b;rw[UInt8.toNat_ofNat'];omega
theorem tH(x y:ByteArray): (x == y)=(x.data == y.data):=by
 cases x;cases y;rfl
theorem Dm{s t:Str}(hs:small s)(ht:small t): (jR s == jR t)=decide (s=t):=by
 by_cases h:s=t
 ·rw[h,yT rfl,tH];exact beq_self_eq_true _
 ·rw[yF h,tH];refine beq_eq_false_iff_ne.2 fun e=>h ?_;rw[←xQ hs,←xQ ht,e]
def fK:Field:={ name:= "Kind",type:=3,offset:=0,embedded:=false,tag:= "",pkgPath:= "",byteOffset:=0 }
def fC:Field:={ name:= "Class",type:=9,offset:=1,embedded:=false,tag:= "",pkgPath:= "",byteOffset:=8 }
theorem eqTy{d:Nat}{a b:Int}{x y:ByteArray}:fY Tryz.prog (Go.Op.equalIn (d+2) 30 (.agg #[.int .i64 a,.string x]) (.agg #[.int .i64 b,.string y]))=some ((a == b) && (x == y)):=by
 unfold Go.Op.equalIn;rw[dJ,show fY Tryz.prog (Go.underlying 30)=some (.struct #[fK,fC]) from by kernel_rfl];dsimp only [Option.bind_some];rw[dJ,show fY Tryz.prog Go.program=some Tryz.prog from rfl];dsimp only [Option.bind_some];rw[show Go.Program.stoodInHeld Tryz.prog 30=false from by kernel_rfl,iN dE];rw[List.forIn_toArray,List.forIn_cons];rw[iP (show fK.name≠ "_" from by decide)];simp only[dJ];rw[show fY Tryz.prog (Go.part fK.type #[Value.int .i64 a,Value.string x] fK.offset)=some (.int .i64 a) from by kernel_rfl,show fY Tryz.prog (Go.part fK.type #[Value.int .i64 b,Value.string y] fK.offset)=some (.int .i64 b) from by kernel_rfl];dsimp only [Option.bind_some];rw[show fK.type=3 from rfl,eqInt]
 have e1:fY Tryz.prog (if (!true)=true then pure (ForInStep.done (some false,())) else pure (ForInStep.yield (none,())))=some (ForInStep.yield ((none:Option Bool),())):=rfl;have e2:fY Tryz.prog (if (!false)=true then pure (ForInStep.done (some false,())) else pure (ForInStep.yield ((none:Option Bool),())))=some (ForInStep.done (some false,())):=rfl;cases a == b with
 | false=>
  dsimp only [Option.bind_some];rw[e2];rfl
 | true=>
  dsimp only [Option.bind_some];rw[e1];dsimp only [Option.bind_some];rw[List.forIn_cons];rw[iP (show fC.name≠ "_" from by decide)];simp only[dJ];rw[show fY Tryz.prog (Go.part fC.type #[Value.int .i64 a,Value.string x] fC.offset)=some (.string x) from by kernel_rfl,show fY Tryz.prog (Go.part fC.type #[Value.int .i64 b,Value.string y] fC.offset)=some (.string y) from by kernel_rfl];dsimp only [Option.bind_some];rw[show fC.type=9 from rfl,eqStr];cases x == y with
  | false=>
   dsimp only [Option.bind_some];rw[e2];rfl
  | true=>
   dsimp only [Option.bind_some];rw[e1];rfl
abbrev bM:=Int×Str
def tv(x:bM): AV:=.agg [.int .i64 x.1,.str x.2]
theorem tI{K:FuncId}{A:AW}:∀(s:Sem Value) (v:Value) (a:AV),fY Tryz.prog s=some v→back v=some a→quiet (ES K) s A=.val a A:=fun s v a h1 h2=>by
 unfold quiet;rw[show fY (ES K).P s=some v from h1];simp only[h2]
theorem tyEq{K:FuncId}{A:AW}{x y:bM}(hx:small x.2)(hy:small y.2): kj (ES K) .eql 30 (tv x) (tv y) A=.val (.bool (decide (x=y))) A:=by
 obtain⟨a,s⟩:=x;obtain⟨b,t⟩:=y;have hd:decide ((a,s)=(b,t))=((a == b) && (jR s == jR t)):=by
  rw[Dm hx hy];by_cases h1:a=b<;>by_cases h2:s=t<;>simp [h1,h2]
 have h:fY Tryz.prog (do Go.eqGuard .eql 30 (.tmp 0) (.tmp 0) (.agg #[.int .i64 a,.string (jR s)]) (.agg #[.int .i64 b,.string (jR t)]);Go.binOp .eql 30 (.agg #[.int .i64 a,.string (jR s)]) (.agg #[.int .i64 b,.string (jR t)]))=some (.bool (decide ((a,s)=(b,t)))):=by
  rw[dJ,show fY Tryz.prog (Go.eqGuard .eql 30 (.tmp 0) (.tmp 0) (.agg #[.int .i64 a,.string (jR s)]) (.agg #[.int .i64 b,.string (jR t)]))=some () from by kernel_rfl];dsimp only [Option.bind_some];show fY Tryz.prog (do pure (Value.bool (←Go.Op.equalIn (9998+2) 30 (.agg #[.int .i64 a,.string (jR s)]) (.agg #[.int .i64 b,.string (jR t)]))))=_;rw[dJ,eqTy,hd];rfl
 show quiet (ES K) (do Go.eqGuard .eql 30 (.tmp 0) (.tmp 0) (.agg #[.int .i64 a,.string (jR s)]) (.agg #[.int .i64 b,.string (jR t)]);Go.binOp .eql 30 (.agg #[.int .i64 a,.string (jR s)]) (.agg #[.int .i64 b,.string (jR t)])) A=_;exact tI _ _ _ h rfl
theorem tyNe{K:FuncId}{A:AW}{x y:bM}(hx:small x.2)(hy:small y.2): kj (ES K) .neq 30 (tv x) (tv y) A=.val (.bool (decide (x≠y))) A:=by
 obtain⟨a,s⟩:=x;obtain⟨b,t⟩:=y;have hd:decide ((a,s)≠(b,t))=!((a == b) && (jR s == jR t)):=by
  rw[Dm hx hy];by_cases h1:a=b<;>by_cases h2:s=t<;>simp [h1,h2]
 have h:fY Tryz.prog (do Go.eqGuard .neq 30 (.tmp 0) (.tmp 0) (.agg #[.int .i64 a,.string (jR s)]) (.agg #[.int .i64 b,.string (jR t)]);Go.binOp .neq 30 (.agg #[.int .i64 a,.string (jR s)]) (.agg #[.int .i64 b,.string (jR t)]))=some (.bool (decide ((a,s)≠(b,t)))):=by
  rw[dJ,show fY Tryz.prog (Go.eqGuard .neq 30 (.tmp 0) (.tmp 0) (.agg #[.int .i64 a,.string (jR s)]) (.agg #[.int .i64 b,.string (jR t)]))=some () from by kernel_rfl];dsimp only [Option.bind_some];show fY Tryz.prog (do pure (Value.bool (!(←Go.Op.equalIn (9998+2) 30 (.agg #[.int .i64 a,.string (jR s)]) (.agg #[.int .i64 b,.string (jR t)])))))=_;rw[dJ,eqTy,hd];rfl
 show quiet (ES K) (do Go.eqGuard .neq 30 (.tmp 0) (.tmp 0) (.agg #[.int .i64 a,.string (jR s)]) (.agg #[.int .i64 b,.string (jR t)]);Go.binOp .neq 30 (.agg #[.int .i64 a,.string (jR s)]) (.agg #[.int .i64 b,.string (jR t)])) A=_;exact tI _ _ _ h rfl
section
variable{K:FuncId}{C:bC}{all rest:List Oper}{l:Kn}{A:AW}{Q:Kn→AW→Prop}{d:Tmp}{ty:TypeId}{pos:String}{after:Array Edge}
theorem EI{t':TypeId}{x y:Operand}{a b:bM}(hd:Nat.blt d C.N=true)(hx:dw l x=some (tv a))(hy:dw l y=some (tv b))(sa:small a.2)(sb:small b.2)
 (h:WO (ES K) C all rest (.put d (.bool (decide (a=b))) l) A Q) : WO (ES K) C all (⟨some d,.binOp .eql 30 x y t',ty,pos,after,none⟩::rest) l A Q:=by
 refine bR hd (fun F hF=>?_) h;show ao (kj (ES K) .eql 30 (ev F x) (ev F y) A)=_;rw[hF.ev hx,hF.ev hy,tyEq sa sb];rfl
theorem EJ{t':TypeId}{x y:Operand}{a b:bM}(hd:Nat.blt d C.N=true)(hx:dw l x=some (tv a))(hy:dw l y=some (tv b))(sa:small a.2)(sb:small b.2)
 (h:WO (ES K) C all rest (.put d (.bool (decide (a≠b))) l) A Q) : WO (ES K) C all (⟨some d,.binOp .neq 30 x y t',ty,pos,after,none⟩::rest) l A Q:=by
 refine bR hd (fun F hF=>?_) h;show ao (kj (ES K) .neq 30 (ev F x) (ev F y) A)=_;rw[hF.ev hx,hF.ev hy,tyNe sa sb];rfl
end
end Go.Proofs.YtafamggbkobcfaaGreat.Ae
