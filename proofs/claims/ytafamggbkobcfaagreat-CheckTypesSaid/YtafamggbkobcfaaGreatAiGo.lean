/- A part of the proof of the statement CheckTypes. -/
import Derived.Test.YtafamggbkobcfaaGreatAiExec
import Derived.Scope
import Derived.Orders
namespace Go.AE
set_option linter.unusedVariables false
variable[bu]
section
variable{E:Env}{base:Nat}{μ:Mp}{A:AW}{w:World}
def gl(μ:Mp)(N:Nat)(F:Fr)(a:Act): Prop:=N≤a.tmps.size∧∀t v,F.get t=some v→aQ μ v (a.tmps.getD t undef)
theorem gl.ev{N:Nat}{F:Fr}{a:Act}(h:gl μ N F a)(x:Operand): aQ μ (ev F x) (a.eval x):=by
 cases x with
 | tmp t=>
  simp only[AE.ev];split
  ·rename_i v hv;exact h.2 t v hv
  ·exact .undef _
 | const v=>exact qh μ v
 | global g=>exact .undef _
 | func f=>exact .func f (by simp) (by simp) (by simp) (by simp)
theorem gl.mono{μ':Mp}{N:Nat}{F:Fr}{a:Act}(hm:∀f t p,μ f t=some p→μ' f t=some p)(h:gl μ N F a): gl μ' N F a:=⟨h.1,fun t v hv=>(h.2 t v hv).mono hm⟩
theorem gl.clear{N:Nat}{F:Fr}{a:Act}(h:gl μ N F a): gl μ N F.clear a:=⟨h.1,fun t v hv=>h.2 t v (Fr.Bu hv)⟩
omit [bu] in
theorem xx(tmps:Array Value)(d t:Nat)(v:Value)(h:d<tmps.size): (tmps.setIfInBounds d v).getD t undef=if t=d then v else tmps.getD t undef:=by
 simp only[Array.getD_eq_getD_getElem?];by_cases e:t=d
 ·subst e;simp [h]
 ·rw[if_neg e,Array.getElem?_setIfInBounds_ne (Ne.symm e)]
omit [bu] in
theorem gc{N:Nat}{F F':Fr}{dst:Option Tmp}{v:AV}{A':AW}(hl:lD N F dst v A=.ok F' A'): A'=A∧(∀t,F'.get t=if dst=some t then some v else F.get t)∧∀d,dst=some d→d<N:=by
 unfold lD at hl;split at hl
 ·cases hl;exact⟨rfl,fun t=>by simp,by simp⟩
 ·rename_i d;cases hb:Nat.blt d N<;>rw[hb] at hl<;>simp only[cond_true,cond_false,reduceCtorEq] at hl;cases hl;have hlt:d<N:=by rw[blt_eq] at hb;simpa using hb
  refine⟨rfl,fun t=>?_,fun d' hd'=>by cases hd';exact hlt⟩;rw[Fr.dQ];by_cases e:t=d
  ·subst e;simp
  ·have:¬d=t:=fun h=>e h.symm;simp [e,this]
theorem gl.put{N:Nat}{F F':Fr}{a:Act}{dst:Option Tmp}{v:AV}{cv:Value}{A':AW}(h:gl μ N F a)(hl:lD N F dst v A=.ok F' A')(hv:aQ μ v cv): A'=A∧gl μ N F' (a.put dst cv):=by
 obtain⟨e1,e2,e3⟩:=gc hl;refine⟨e1,?_,fun t u hu=>?_⟩
 ·cases dst with
  | none=>exact h.1
  | some d=>simp only[Act.put,Array.size_setIfInBounds];exact h.1
 ·rw[e2] at hu;cases dst with
  | none=>simp at hu;exact h.2 t u hu
  | some d=>
   have hd:=e3 d rfl;simp only[Act.put];rw[xx _ _ _ _ (Nat.lt_of_lt_of_le hd h.1)];by_cases e:t=d
   ·subst e;simp at hu;subst hu;simpa using hv
   ·have:¬d=t:=fun h=>e h.symm;simp [this] at hu;rw[if_neg e];exact h.2 t u hu
theorem kU{all:List Oper}{F:Fr}{N:Nat}{a:Act}{o:Oper}{b:Bool}(h:gl μ N F a)(hw:bV all F o=some b): Region.wanted o (yielded all.toArray a.tmps)=b:=by
 unfold bV at hw;unfold Region.wanted;cases hg:o.guard with
 | none=>rw[hg] at hw;simp at hw;simp [hw]
 | some jw=>
  obtain⟨j,want⟩:=jw;rw[hg] at hw;simp only at hw ⊢;split at hw
  ·rename_i oj hj;rw[fB] at hj;split at hw
   ·rename_i d hd;have hy:∀v,F.get d=some v→∃cv,yielded all.toArray a.tmps j=(match (some cv:Option Value) with
     | some (.bool b)=>some b
     | _=>none)∧aQ μ v cv:=fun v hv=>by
     have hr:=h.2 d v hv;refine⟨_,?_,hr⟩;unfold yielded;simp only[List.getElem?_toArray,hj,Option.bind_some,hd,Array.getD_eq_getD_getElem?];cases a.tmps[d]? with
     | none=>rfl
     | some x=>rfl
    split at hw
    ·rename_i b' hb';obtain⟨cv,e1,e2⟩:=hy _ hb';cases e2;rw[e1];simp at hw;subst hw;cases b'<;>cases want<;>rfl
    ·rename_i hb';obtain⟨cv,e1,e2⟩:=hy _ hb';obtain⟨us,rfl,_⟩:=sj e2;rw[e1];simp at hw;subst hw;rfl
    ·cases hw
   ·cases hw
  ·cases hw
def kp(E:Env)(base:Nat)(call:FuncId→List AV→AW→Out): Prop:=
 ∀f args A v A' μ w (cargs:Array Value),call f args A=.val v A'→Rel base μ A w→bK μ args cargs.toList→
  Calls E.P f cargs w fun e w'=>∃cv μ',e=.returned cv∧aQ μ' v cv∧Step base μ A w μ' A' w'
theorem uM(hE:dD E){call:FuncId→List AV→AW→Out}(hC:kp E base call){N:Nat}{all:List Oper}{o:Oper}{i:Nat}(hi:all[i]?=some o){F F':Fr}{A':AW}(hl:kn E call N all o F A=.ok F' A')
 (h:Rel base μ A w) {a:Act} (hF:gl μ N F a) {K:Act→World→Prop} {Q:Exit→Act→World→Prop}
 (hK:∀cv w' μ',(∃v,lD N F o.dst v A'=.ok F' A'∧aQ μ' v cv)→Step base μ A w μ' A' w'→gl μ' N F' (a.put o.dst cv)→K (a.put o.dst cv) w') : wpOp E.P all.toArray Q i K a w:=by
 unfold wpOp;simp only[List.getElem?_toArray,hi];unfold kn at hl;have putA:∀{v:AV} {B:AW},lD N F o.dst v B=.ok F' A'→B=A':=fun {v B} hp=>(gc hp).1.symm;have fin:∀{v:AV} {B:AW},lD N F o.dst v B=.ok F' A'→∀cv w' μ',aQ μ' v cv→Step base μ A w μ' B w'→K (a.put o.dst cv) w':=fun {v B} hp cv w' μ' hv hst=>by
  have e:=putA hp;subst e;exact hK cv w' μ' ⟨v,hp,hv⟩ hst ((hF.mono hst.ae).put hp hv).2
 split at hl
 ·rename_i hw;have hwc:=kU hF hw;simp only[hwc,if_true];refine .inl ?_;split at hl
  ·rename_i v B hex;exact AC hE h hex hF.ev (fun cv w' μ' hv hst=>fin hl cv w' μ' hv hst)
  ·rename_i f args hex;split at hl
   ·rename_i v B hcall;obtain⟨cargs,h1,h2⟩:=yN (w:=w) hE hex hF.ev;refine xt h2 ((hC f args A v B μ w cargs hcall h h1).mono ?_);rintro e w' ⟨cv,μ',rfl,q1,q2⟩;exact⟨cv,rfl,fin hl cv w' μ' q1 q2⟩
   ·cases hl
  ·cases hl
 ·rename_i hw;have hwc:=kU hF hw;simp only[hwc,Bool.false_eq_true,if_false];exact fin hl undef w μ (.tuple (by simp) (by simp)) (Step.refl h)
 ·cases hl
theorem uN(hE:dD E){call:FuncId→List AV→AW→Out}(hC:kp E base call){N:Nat}{all:List Oper}{Q:Exit→Act→World→Prop}:∀(rest:List Oper) (k:Nat) (F F':Fr) (A A':AW) (μ:Mp) (w:World) (a:Act),
 (∀j,rest[j]?=all[k+j]?)→oE E call N all rest F A=.ok F' A'→Rel base μ A w→gl μ N F a→
 (∀a' w' μ',a'.defers=a.defers→Step base μ A w μ' A' w'→gl μ' N F' a'→Q .normal a' w')→wpOps E.P all.toArray Q (List.range' k rest.length) a w
 | [],k,F,F',A,A',μ,w,a,hr,hl,h,hF,hQ=>by
  simp only[oE,yA.ok.injEq] at hl;obtain⟨rfl,rfl⟩:=hl;exact hQ a w μ rfl (Step.refl h) hF
 | o::rest,k,F,F',A,A',μ,w,a,hr,hl,h,hF,hQ=>by
  simp only[oE] at hl;split at hl
  ·rename_i F1 A1 h1;have hk:all[k]?=some o:=by have:=hr 0;simpa using this.symm
   simp only[List.length_cons,List.range'_succ];rw[wpOps_cons];refine uM hE hC hk h1 h hF fun cv w' μ' _ hst hF1=>?_;refine uN hE hC rest (k+1) F1 F' A1 A' μ' w' _ (fun j=>by have:=hr (j+1);simpa [Nat.add_assoc,Nat.add_comm 1 j] using this) hl hst.rel hF1 fun a' w'' μ'' hd hst' hF'=>hQ a' w'' μ'' ?_ (hst.trans hst') hF';rw[hd];cases o.dst<;>rfl
  ·cases hl
theorem vP(hE:dD E){call:FuncId→List AV→AW→Out}(hC:kp E base call){N id:Nat}{ops:Array Oper}{F F':Fr}{A':AW}(hl:oE E call N ops.toList ops.toList F A=.ok F' A')(h:Rel base μ A w){a:Act}
 (hF:gl μ N F a) {Q:Exit→Act→World→Prop} (hQ:∀a' w' μ',a'.defers=a.defers→Step base μ A w μ' A' w'→gl μ' N F' a'→Q .normal a' w') : (Code.region id ops false).wp E.P Q a w:=by
 refine wp_region ?_;have:=uN (Q:=Q) hE hC ops.toList 0 F F' A A' μ w a (fun j=>by simp) hl h hF hQ;simpa [List.range_eq_range'] using this
end
end Go.AE
namespace Go.AE
set_option linter.unusedVariables false
variable[bu]
def vQ(E:Env)(base:Nat): Prop:=
 ∀(call:FuncId→List AV→AW→Out),kp E base call→∀(N id:Nat) (ops:Array Oper) (order bs:List Nat) (F F':Fr) (A A':AW) (μ:Mp) (w:World) (a:Act) (Q:Exit→Act→World→Prop),
  yB ops order bs=true→hH E call N ops.toList bs order [] F A=.ok F' A'→Rel base μ A w→gl μ N F a→
  (∀a' w' μ',a'.defers=a.defers→Step base μ A w μ' A' w'→gl μ' N F' a'→Q .normal a' w')→(Code.region id ops true).wp E.P Q a w
section
variable{E:Env}{base:Nat}
def gK(ds:List (Nat×(List Nat×List Nat))): List Item→Prop
 | []=>True
 | .code c::k=>codeOk ds c=true∧gK ds k
 | .inLoop c::k=>codeOk ds c=true∧gK ds k
 | .inScope c::k=>codeOk ds c=true∧gK ds k
 | _::k=>gK ds k
omit [bu] in
theorem gK.tail{ds:List (Nat×(List Nat×List Nat))}{i:Item}{k:List Item}(h:gK ds (i::k)): gK ds k:=by
 cases i<;>first|exact h.2|exact h
omit [bu] in
theorem pD{ds:List (Nat×(List Nat×List Nat))}{id:Nat}:∀{k k':List Item},exitTo id k=some k'→gK ds k→gK ds k'
 | [],_,h,_=>by cases h
 | i::k,k',h,hk=>by
  cases i with
  | inBlock j=>
   simp only[exitTo] at h;split at h
   ·cases h;exact hk.tail
   ·exact pD h hk.tail
  | _=>exact pD (by simpa [exitTo] using h) hk.tail
omit [bu] in
theorem kV{ds:List (Nat×(List Nat×List Nat))}{l:Nat}:∀{c r:Code},findLabel c l=some r→codeOk ds c=true→codeOk ds r=true
 | .seq a b,r,h,hc=>by
  simp only[codeOk,Bool.and_eq_true] at hc;simp only[findLabel] at h;split at h
  ·rename_i x hx;cases h;simp only[codeOk,Bool.and_eq_true];exact⟨kV hx hc.1,hc.2⟩
  ·exact kV h hc.2
 | .label m,r,h,hc=>by
  simp only[findLabel] at h;split at h
  ·cases h;rfl
  ·cases h
 | .skip,r,h,_=>by simp [findLabel] at h
 | .region ..,r,h,_=>by simp [findLabel] at h
 | .cond ..,r,h,_=>by simp [findLabel] at h
 | .block ..,r,h,_=>by simp [findLabel] at h
 | .loop _,r,h,_=>by simp [findLabel] at h
 | .rangeFunc ..,r,h,_=>by simp [findLabel] at h
 | .exit _,r,h,_=>by simp [findLabel] at h
 | .scope _,r,h,_=>by simp [findLabel] at h
 | .goto _,r,h,_=>by simp [findLabel] at h
 | .ret,r,h,_=>by simp [findLabel] at h
 | .refuse _,r,h,_=>by simp [findLabel] at h
omit [bu] in
theorem pE{ds:List (Nat×(List Nat×List Nat))}{l:Nat}:∀{k k':List Item},gotoIn l k=some k'→gK ds k→gK ds k'
 | [],_,h,_=>by cases h
 | i::k,k',h,hk=>by
  cases i with
  | inScope c=>
   simp only[gotoIn] at h;split at h
   ·rename_i r hr;cases h;exact⟨kV hr hk.1,hk.1,hk.2⟩
   ·exact pE h hk.tail
  | _=>exact pE (by simpa [gotoIn] using h) hk.tail
omit [bu] in
theorem sJ:∀(l:List AV) (i:Nat) (F:Fr) (t:Nat),(pr l i F).get t=if i≤t∧t<i+l.length then l[t-i]? else F.get t
 | [],i,F,t=>by simp [pr];intro h1 h2;omega
 | v::l,i,F,t=>by
  simp only[pr];rw[sJ l (Nat.succ i) _ t,Fr.dQ];by_cases e:t=i
  ·subst e;rw[if_neg (by omega),if_pos rfl,if_pos (by simp)];simp
  ·by_cases c:Nat.succ i≤t∧t<Nat.succ i+l.length
   ·rw[if_pos c,if_pos (by simp;omega)];have:t-i=(t-Nat.succ i)+1:=by omega
    rw[this];simp
   ·rw[if_neg c,if_neg e,if_neg (by simp;omega)]
omit [bu] in
theorem xy{mask:Nat}{args:List AV}{t:Nat}{v:AV}(h:(mu mask args).get t=some v): args[t]?=some v:=by
 unfold mu at h;rw[sJ] at h;split at h
 ·simpa using h
 ·unfold Fr.get at h;cases hb:bit mask t
  ·simp [hb,Fr.find] at h
  ·simp [hb,Tr.get] at h
def sL(tmps:Array Value): ResultVar→Sem Value
 | .tmp t=>pure (tmps.getD t undef)
 | .cell a t=>do loadVar t (←asAddr (tmps.getD a undef))
def nS:List Value→Value
 | [v]=>v
 | l=>.tuple l.toArray
theorem iR{μ:Mp}{A:AW}{w:World}(hE:dD E)(h:Rel base μ A w){N:Nat}{F:Fr}{a:Act}(hF:gl μ N F a): ∀(rs:List ResultVar) (vs:List AV),dl E F A rs=some vs→
 ∃cvs:List Value,(rs.mapM (m:=Sem) (sL a.tmps)).run E.P w=.ok cvs w∧bK μ vs cvs
 | [],vs,hl=>by
  simp only[dl,Option.some.injEq] at hl;subst hl;exact⟨[],rfl,bK.nil μ⟩
 | r::rs,vs,hl=>by
  simp only[dl] at hl;split at hl
  ·rename_i v l hv hl2;cases hl;obtain⟨cvs,h1,h2⟩:=iR hE h hF rs l hl2;have key:∃cv,(sL a.tmps r).run E.P w=.ok cv w∧aQ μ v cv:=by
    cases r with
    | tmp t=>
     simp only[ic] at hv;refine⟨_,rfl,?_⟩;split at hv
     ·rename_i x hx;cases hv;exact hF.2 t v hx
     ·cases hv;exact .undef _
    | cell p t=>
     simp only[ic] at hv;split at hv
     ·rename_i x hx;split at hv
      ·rename_i x' A2 hld;cases hv;have hr:=hF.2 p x hx;obtain⟨_,cv,q1,q2⟩:=sn hE.ty h hld hr;refine⟨cv,?_,q2⟩;have:∃ad,a.tmps.getD p undef=.pointer (some ad):=by
        generalize a.tmps.getD p undef=q at hr;unfold fR at hld;split at hld
        ·cases hr;exact⟨_,rfl⟩
        ·cases hld
       obtain⟨ad,hq⟩:=this;simp only[sL,hq];rw[hq] at q1;exact q1
      ·cases hv
     ·cases hv
   obtain⟨cv,k1,k2⟩:=key;refine⟨cv::cvs,?_,bK.cons k2 h2⟩;rw[List.mapM_cons,Sem.run_bind,k1];simp only[Result.andThen_ok,Sem.run_bind,h1,Sem.run_pure]
  ·cases hl
omit [bu] in
theorem qr{P:Program}{fn:Func}{tmps:Array Value}{w:World}{cvs:List Value}(h:(fn.results.toList.mapM (m:=Sem) (sL tmps)).run P w=.ok cvs w): (results fn tmps).run P w=.ok (nS cvs) w:=by
 have e:results fn tmps=(do
  let vs ←fn.results.mapM (m:=Sem) (sL tmps)
  pure (if h:vs.size=1 then vs[0] else .tuple vs)):=by
  unfold results
  congr 1
 rw[e,Sem.run_bind,Array.mapM_eq_mapM_toList,Sem.run_map,h];simp only[Result.andThen_ok,Sem.run_pure]
 congr 1
 match cvs with
 | []=>rfl
 | [v]=>rfl
 | a::b::l=>rfl
theorem sM{μ:Mp}{vs:List AV}{cvs:List Value}(h:bK μ vs cvs): aQ μ (match vs with
 | [v]=>v
 | vs=>.tuple vs) (nS cvs):=by
 match vs,cvs,h with
 | [],cvs,h=>have:=h.fH;subst this;exact ga (bK.nil μ)
 | [v],cvs,h=>
  obtain⟨y,ys,rfl,h1,h2⟩:=h.inv;have:=h2.fH;subst this;exact h1
 | a::b::l,cvs,h=>
  obtain⟨y,ys,rfl,h1,h2⟩:=h.inv;obtain⟨z,zs,rfl,h3,h4⟩:=h2.inv;exact ga h
theorem sN(hE:dD E){n:Nat}(hgo:∀(C:bC) (todo:List Item) (F F':Fr) (A A':AW) (μ:Mp) (w:World) (b:Frame) (a:Act) (cs:List Frame),
 go E n C todo F A=.ret F' A'→gK C.rW todo→Rel base μ A w→gl μ C.N F a→
 ∃a' w' μ' todo',Steps E.P (lone (b.at a todo) cs w) (lone { b.at a' todo' with mode:=.returning } cs w')∧a'.defers=a.defers∧Step base μ A w μ' A' w'∧gl μ' C.N F' a') :
 kp E base (fun f args A=>gI E f args A (go E n)):=by
 intro f args A v A' μ w cargs hl h ha cs;simp only[gI] at hl;split at hl
 ·rename_i e he;obtain⟨f1,f2,f3⟩:=hE.fn f e he;split at hl
  ·rename_i c hc;cases hb:Nat.ble (len args) e.N<;>rw[hb] at hl<;>simp only[cond_true,cond_false,reduceCtorEq] at hl;unfold wY at hl;split at hl
   ·rename_i F A1 hrun
    let b:Frame:={ (default:Frame) with fn:=f,kind:=.normal }
    have henter:Frame.enter E.P f cargs .normal=b.at { tmps:=cargs++Array.replicate (e.fn.ntmps-cargs.size) undef,defers:=[] } [.code c]:=by
     simp [Frame.enter,Frame.at,f1,hc,b]
    have hF:gl μ e.N (mu e.mask args) { tmps:=cargs++Array.replicate (e.fn.ntmps-cargs.size) undef,defers:=[] }:=by
     refine⟨by simp [f2];omega,fun t v hv=>?_⟩;have:=xy hv;obtain⟨y,hy,hr⟩:=ha.get this;have hlt:t<cargs.toList.length:=by rcases Nat.lt_or_ge t cargs.toList.length with h|h;exact h;rw[List.getElem?_eq_none h] at hy;cases hy
     have e1:(cargs++Array.replicate (e.fn.ntmps-cargs.size) undef).getD t undef=y:=by
      rw[Array.getD_eq_getD_getElem?,Array.getElem?_append_left (by simpa using hlt),←Array.getElem?_toList,hy];rfl
     rw[e1];exact hr
    obtain⟨a',w',μ',todo',q1,q2,q3,q4⟩:=hgo e [.code c] (mu e.mask args) F A A1 μ w b _ cs hrun ⟨hE.code f e c he hc,trivial⟩ h hF;rw[←henter] at q1;split at hl
    ·rename_i v0 hres;cases hl;obtain⟨cvs,r1,r2⟩:=iR hE q3.rel q4 _ _ hres;have:=sM r2;exact⟨.returned (nS cvs),w',_,⟨nS cvs,μ',rfl,this,q3⟩,q1,rfl,rfl,q2,rfl,e.fn,f1,qr r1⟩
    ·rename_i vs hne hres;cases hl;obtain⟨cvs,r1,r2⟩:=iR hE q3.rel q4 _ _ hres;have hv:aQ μ' (.tuple vs) (nS cvs):=by
      have:=sM r2;split at this
      ·exact absurd rfl (hne _)
      ·exact this
     exact⟨.returned (nS cvs),w',_,⟨nS cvs,μ',rfl,hv,q3⟩,q1,rfl,rfl,q2,rfl,e.fn,f1,qr r1⟩
    ·cases hl
   ·cases hl
  ·cases hl
 ·cases hl
theorem go_sound(hE:dD E)(hD:vQ E base): ∀(n:Nat) (C:bC) (todo:List Item) (F F':Fr) (A A':AW) (μ:Mp) (w:World) (b:Frame) (a:Act) (cs:List Frame),
 go E n C todo F A=.ret F' A'→gK C.rW todo→Rel base μ A w→gl μ C.N F a→
 ∃a' w' μ' todo',Steps E.P (lone (b.at a todo) cs w) (lone { b.at a' todo' with mode:=.returning } cs w')∧a'.defers=a.defers∧Step base μ A w μ' A' w'∧gl μ' C.N F' a'
 | 0,C,todo,F,F',A,A',μ,w,b,a,cs,hl,ht,h,hF=>by simp [go] at hl
 | n+1,C,todo,F,F',A,A',μ,w,b,a,cs,hl,ht,h,hF=>by
  have one:∀{todo1:List Item},step E.P (lone (b.at a todo) cs w)=.next (lone (b.at a todo1) cs w)→go E n C todo1 F A=.ret F' A'→gK C.rW todo1→
   ∃a' w' μ' todo',Steps E.P (lone (b.at a todo) cs w) (lone { b.at a' todo' with mode:=.returning } cs w')∧a'.defers=a.defers∧Step base μ A w μ' A' w'∧gl μ' C.N F' a':=fun hs hg ht1=>by
   obtain⟨a',w',μ',todo',q1,q2⟩:=go_sound hE hD n C _ F F' A A' μ w b a cs hg ht1 h hF;exact⟨a',w',μ',todo',.head hs q1,q2⟩
  match todo,hl,ht with
  | [],hl,ht=>
   simp only[go,Res.ret.injEq] at hl;obtain⟨rfl,rfl⟩:=hl;exact⟨a,w,μ,[],.one step_end,rfl,Step.refl h,hF⟩
  | .inBlock id::k,hl,ht=>exact one step_inBlock (by simpa only [go] using hl) ht
  | .inScope c::k,hl,ht=>exact one step_inScope (by simpa only [go] using hl) ht.2
  | .inLoop c::k,hl,ht=>exact one step_inLoop (by simpa only [go] using hl) ⟨ht.1,ht⟩
  | .inRegion ..::k,hl,ht=>simp [go] at hl
  | .inRangeFunc _::k,hl,ht=>simp [go] at hl
  | .endRangeFunc _::k,hl,ht=>simp [go] at hl
  | .beginRound::k,hl,ht=>simp [go] at hl
  | .call ..::k,hl,ht=>simp [go] at hl
  | .extern ..::k,hl,ht=>simp [go] at hl
  | .code c::k,hl,ht=>
   obtain⟨hc,hk⟩:=ht
   match c,hl,hc with
   | .skip,hl,hc=>exact one step_skip (by simpa only [go] using hl) hk
   | .label l,hl,hc=>exact one step_label (by simpa only [go] using hl) hk
   | .ret,hl,hc=>
    simp only[go,Res.ret.injEq] at hl;obtain⟨rfl,rfl⟩:=hl;exact⟨a,w,μ,_,.one step_ret,rfl,Step.refl h,hF⟩
   | .seq x y,hl,hc=>
    simp only[codeOk,Bool.and_eq_true] at hc;exact one step_seq (by simpa only [go] using hl) ⟨hc.1,hc.2,hk⟩
   | .cond x y z,hl,hc=>
    simp only[codeOk,Bool.and_eq_true] at hc;have hx:=hF.ev x;simp only[go] at hl;split at hl
    ·rename_i heq;rw[heq] at hx;have hcv:a.eval x=.bool true:=by generalize a.eval x=q at hx;cases hx;rfl
     exact one (step_cond hcv) hl ⟨hc.1,hk⟩
    ·rename_i heq;rw[heq] at hx;have hcv:a.eval x=.bool false:=by generalize a.eval x=q at hx;cases hx;rfl
     exact one (step_cond hcv) hl ⟨hc.2,hk⟩
    ·cases hl
   | .block id x,hl,hc=>exact one step_block (by simpa only [go] using hl) ⟨hc,hk⟩
   | .loop x,hl,hc=>exact one step_loop (by simpa only [go] using hl) ⟨hc,hc,hk⟩
   | .scope x,hl,hc=>exact one step_scope (by simpa only [go] using hl) ⟨hc,hc,hk⟩
   | .exit id,hl,hc=>
    simp only[go] at hl;split at hl
    ·rename_i k' hk';exact one (step_exit hk') hl (pD hk' hk)
    ·cases hl
   | .goto l,hl,hc=>
    simp only[go] at hl;split at hl
    ·rename_i k' hk';exact one (step_goto hk') hl (pE hk' hk)
    ·cases hl
   | .region id ops draw,hl,hc=>
    simp only[go] at hl;split at hl
    ·rename_i F1 A1 hreg;have hC:=sN hE (fun C todo F F' A A' μ w b a cs=>go_sound hE hD n C todo F F' A A' μ w b a cs);have hwp:(Code.region id ops draw).wp E.P (fun e a' w'=>e=.normal∧a'.defers=a.defers∧∃μ',Step base μ A w μ' A1 w'∧gl μ' C.N F1 a') a w:=by
      unfold Br at hreg;cases draw with
      | false=>
       simp only[cond_false] at hreg;exact vP hE hC hreg h hF fun a' w' μ' h1 h2 h3=>⟨rfl,h1,μ',h2,h3⟩
      | true=>
       simp only[cond_true] at hreg;simp only[codeOk] at hc;split at hreg
       ·rename_i order bs hd;rw[hd] at hc;exact hD _ hC C.N id ops order bs F F1 A A1 μ w a _ hc hreg h hF fun a' w' μ' h1 h2 h3=>⟨rfl,h1,μ',h2,h3⟩
       ·cases hreg
     obtain⟨e,a1,w1,⟨rfl,hd1,μ1,hst,hF1⟩,harr⟩:=hwp b k cs;obtain⟨a',w',μ',todo',q1,q2,q3,q4⟩:=go_sound hE hD n C k F1.clear F' A1 A' μ1 w1 b a1 cs hl hk hst.rel hF1.clear;exact⟨a',w',μ',todo',Steps.trans harr q1,q2.trans hd1,hst.trans q3,q4⟩
    ·cases hl
   | .rangeFunc ..,hl,hc=>simp [go] at hl
   | .refuse _,hl,hc=>simp [go] at hl
theorem yO(hE:dD E)(hD:vQ E base)(n:Nat): kp E base (call E n):=
 sN hE (go_sound hE hD n)
end
end Go.AE
