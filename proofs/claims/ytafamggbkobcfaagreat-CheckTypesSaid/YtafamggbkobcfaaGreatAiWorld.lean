/- A part of the proof of the statement CheckTypes. -/
import Derived.Test.YtafamggbkobcfaaGreatAiDef
import Derived.Laws.Append
import Derived.Laws.CopyRow
import Derived.Laws.AppendOwn
import Derived.Calls
namespace Go.AE
theorem Tr.Bs{α:Type}(x:α): ∀(f:Nat) (t:Tr α) (k j:Nat),k<f→(Tr.gq x f t k).get j=if j=k then some x else t.get j:=by
 intro f
 induction f with
 | zero=>intro t k j h;omega
 | succ f ih=>
  intro t k j h;have par:∀a b:Nat,Nat.beq (Nat.mod a 2) 0=Nat.beq (Nat.mod b 2) 0→Nat.div a 2=Nat.div b 2→a=b:=by
   intro a b h1 h2;have h2':a / 2=b / 2:=h2;have e:∀c:Nat,Nat.beq (Nat.mod c 2) 0=true↔c % 2=0:=fun c=>
    ⟨fun h=>Nat.eq_of_beq_eq_true h,fun h=>by show Nat.beq (c % 2) 0=true;rw[h];rfl⟩
   have:(a % 2=0↔b % 2=0):=by rw[←e a,←e b,h1]
   omega
  cases k with
  | zero=>
   cases t with
   | nil=>cases j<;>simp [Tr.gq,Tr.get]
   | node l v r=>cases j<;>simp [Tr.gq,Tr.get]
  | succ k=>
   have hd:Nat.div k 2<f:=by have:k / 2≤k:=Nat.div_le_self k 2;show k / 2<f;omega
   cases hp:Nat.beq (Nat.mod k 2) 0
   ·cases t with
    | nil=>
     cases j with
     | zero=>simp [Tr.gq,Tr.get,hp]
     | succ j=>
      cases hq:Nat.beq (Nat.mod j 2) 0
      ·simp only[Tr.gq,Tr.get,hp,hq,cond_false,ih .nil _ _ hd];by_cases e:Nat.div j 2=Nat.div k 2
       ·have:j=k:=par j k (by rw[hp,hq]) e;simp [this]
       ·have:j≠k:=fun h=>e (by rw[h]);simp [e,this]
      ·have:j≠k:=fun h=>by rw[h,hp] at hq;cases hq
       simp [Tr.gq,Tr.get,hp,hq,this]
    | node l v r=>
     cases j with
     | zero=>simp [Tr.gq,Tr.get,hp]
     | succ j=>
      cases hq:Nat.beq (Nat.mod j 2) 0
      ·simp only[Tr.gq,Tr.get,hp,hq,cond_false,ih r _ _ hd];by_cases e:Nat.div j 2=Nat.div k 2
       ·have:j=k:=par j k (by rw[hp,hq]) e;simp [this]
       ·have:j≠k:=fun h=>e (by rw[h]);simp [e,this]
      ·have:j≠k:=fun h=>by rw[h,hp] at hq;cases hq
       simp [Tr.gq,Tr.get,hp,hq,this]
   ·cases t with
    | nil=>
     cases j with
     | zero=>simp [Tr.gq,Tr.get,hp]
     | succ j=>
      cases hq:Nat.beq (Nat.mod j 2) 0
      ·have:j≠k:=fun h=>by rw[h,hp] at hq;cases hq
       simp [Tr.gq,Tr.get,hp,hq,this]
      ·simp only[Tr.gq,Tr.get,hp,hq,cond_true,ih .nil _ _ hd];by_cases e:Nat.div j 2=Nat.div k 2
       ·have:j=k:=par j k (by rw[hp,hq]) e;simp [this]
       ·have:j≠k:=fun h=>e (by rw[h]);simp [e,this]
    | node l v r=>
     cases j with
     | zero=>simp [Tr.gq,Tr.get,hp]
     | succ j=>
      cases hq:Nat.beq (Nat.mod j 2) 0
      ·have:j≠k:=fun h=>by rw[h,hp] at hq;cases hq
       simp [Tr.gq,Tr.get,hp,hq,this]
      ·simp only[Tr.gq,Tr.get,hp,hq,cond_true,ih l _ _ hd];by_cases e:Nat.div j 2=Nat.div k 2
       ·have:j=k:=par j k (by rw[hp,hq]) e;simp [this]
       ·have:j≠k:=fun h=>e (by rw[h]);simp [e,this]
theorem Tr.dQ{α:Type}(t:Tr α)(k:Nat)(x:α)(j:Nat): (t.set k x).get j=if j=k then some x else t.get j:=
 Tr.Bs x _ t k j (Nat.lt_succ_self k)
theorem Fr.dQ(F:Fr)(t:Nat)(v:AV)(j:Nat): (F.set t v).get j=if j=t then some v else F.get j:=by
 unfold Fr.set;cases h:bit F.mask t
 ·simp only[cond_false];unfold Fr.get;by_cases e:j=t
  ·subst e;simp [h,Fr.find]
  ·cases h2:bit F.mask j
   ·have:Nat.beq t j=false:=by
     cases hb:Nat.beq t j
     ·rfl
     ·exact absurd (Nat.eq_of_beq_eq_true hb).symm e
    simp [Fr.find,this,e]
   ·simp [e]
 ·simp only[cond_true];unfold Fr.get;by_cases e:j=t
  ·subst e;simp [h,Tr.dQ]
  ·cases h2:bit F.mask j<;>simp [Tr.dQ,e]
theorem Fr.Bu{F:Fr}{t:Nat}{v:AV}(h:F.clear.get t=some v): F.get t=some v:=by
 unfold Fr.clear Fr.get at *;cases hb:bit F.mask t
 ·simp [hb,Fr.find] at h
 ·simpa [hb] using h
theorem fB{α:Type}:∀(l:List α) (n:Nat),nth l n=l[n]?
 | [],n=>by simp [nth]
 | x::l,0=>by simp [nth]
 | x::l,n+1=>by simp [nth,fB l n]
theorem ey{α:Type}:∀(l:List α),len l=l.length
 | []=>rfl
 | _::l=>by show Nat.succ (len l)=_;rw[ey l];rfl
theorem cF{α:Type}:∀(n:Nat) (l:List α),aB n l=l.drop n
 | 0,l=>by simp [aB]
 | n+1,[]=>by simp [aB]
 | n+1,_::l=>by simp [aB,cF n l]
theorem sf:∀{l:List AV},ki l=true→∀a∈l,a.one=true
 | [],_,a,h=>by cases h
 | v::l,h,a,hm=>by
  cases hv:v.one
  ·simp [ki,hv] at h
  ·simp only[ki,hv,cond_true] at h;cases hm with
   | head=>exact hv
   | tail _ hm=>exact sf h a hm
theorem eA{α:Type}:∀(n:Nat) (l r:List α),takeN n l=some r→r=l.take n∧r.length=n
 | 0,l,r=>by intro h;simp only[takeN,Option.some.injEq] at h;subst h;simp
 | n+1,[],r=>by simp [takeN]
 | n+1,x::l,r=>by
  simp only[takeN];cases h:takeN n l with
  | none=>simp
  | some ys=>
   obtain⟨h1,h2⟩:=eA n l ys h;simp only[Option.some.injEq];rintro rfl;simp [h1.symm,h2]
theorem br{α:Type}:∀(n:Nat) (l:List α),n≤l.length→takeN n l=some (l.take n)
 | 0,l,_=>by simp [takeN]
 | n+1,[],h=>by simp at h
 | n+1,x::l,h=>by
  have:=br n l (by simpa using h);simp [takeN,this]
theorem Ay{α:Type}:∀(xs l r:List α),over xs l=some r→xs.length≤l.length∧r=xs++l.drop xs.length
 | [],l,r=>by intro h;simp only[over,Option.some.injEq] at h;subst h;simp
 | x::xs,[],r=>by simp [over]
 | x::xs,y::l,r=>by
  simp only[over];cases h:over xs l with
  | none=>simp
  | some q=>
   obtain⟨h1,h2⟩:=Ay xs l q h;simp only[Option.some.injEq];rintro rfl;simp [h1,h2.symm]
theorem mw{α:Type}:∀(n:Nat) (xs l r:List α),iL n xs l=some r→n+xs.length≤l.length∧r=l.take n++xs++l.drop (n+xs.length)
 | 0,xs,l,r=>by
  simp only[iL];intro h;obtain⟨h1,h2⟩:=Ay xs l r h;simpa using ⟨h1,h2⟩
 | n+1,xs,[],r=>by simp [iL]
 | n+1,xs,y::l,r=>by
  simp only[iL];cases h:iL n xs l with
  | none=>simp
  | some q=>
   obtain⟨h1,h2⟩:=mw n xs l q h;simp only[Option.some.injEq];rintro rfl;refine⟨by simp;omega,?_⟩;have:n+1+xs.length=(n+xs.length)+1:=by omega
   rw[this,h2];simp
theorem sg{α:Type}{n:Nat}{xs l r:List α}(h:iL n xs l=some r)(i:Nat):
 r[i]?=if n≤i∧i<n+xs.length then xs[i-n]? else l[i]?:=by
 obtain⟨h1,rfl⟩:=mw n xs l r h;by_cases a:i<n
 ·rw[if_neg (by omega),List.append_assoc,List.getElem?_append_left (by simp;omega),List.getElem?_take_of_lt a]
 ·by_cases b:i<n+xs.length
  ·rw[if_pos (by omega),List.append_assoc,List.getElem?_append_right (by simp;omega),List.getElem?_append_left (by simp;omega)]
   congr 1
   simp;omega
  ·rw[if_neg (by omega),List.getElem?_append_right (by simp;omega),List.getElem?_drop]
   congr 1
   simp;omega
theorem qg{α:Type}{n:Nat}{xs l r:List α}(h:iL n xs l=some r): r.length=l.length:=by
 obtain⟨h1,rfl⟩:=mw n xs l r h;simp;omega
structure Pl where
 c:Nat
 up:Nat
 down:Nat
 n:Nat
 es:Nat
abbrev Mp:=Nat→Nat→Option Pl
class bu where
 n:Nat→Nat
 b:Nat→Bool
 s:Nat→List Nat
 short:∀j,(s j).length≤1000
variable[bu]
def eJ:Bt→Nat
 | .zero=>0
 | .one=>1
 | .var i=>bif bu.b i then 1 else 0
 | .Cw i=>bif bu.b i then 0 else 1
def aP:List Bt→Nat
 | []=>0
 | b::l=>eJ b+2*aP l
inductive aQ (μ:Mp) : AV→Value→Prop
 | undef (x:Value) : aQ μ .undef x
 | bool (b:Bool) : aQ μ (.bool b) (.bool b)
 | int (k:IntKind) (n:Int) : aQ μ (.int k n) (.int k n)
 | float (k:FloatKind) (b:Nat) : aQ μ (.float k b) (.float k b)
 | dh (k:FloatKind) (a b:Nat) : aQ μ (.dh k a b) (.complex k a b)
 | str (s:ByteArray) : aQ μ (.str (s.data.toList.map UInt8.toNat)) (.string s)
 | bJ:aQ μ .bJ (.pointer none)
 | ptr {f t o:Nat} {p:Pl} {off:Nat} (h:μ f t=some p) (e:off+p.down=o+p.up) : aQ μ (.ptr f t o) (.pointer (some ⟨p.c,off,none⟩))
 | aj:aQ μ .aj (.slice none 0 0)
 | emp {z:Bool} (a:Addr) {cap:Nat} (h:z=true→cap=0) : aQ μ (.emp z) (.slice (some a) 0 cap)
 | slice {f t o n c:Nat} {ex:Bool} {p:Pl} {off cap:Nat} (h:μ f t=some p) (e:off+p.down=o+p.up) (hn:n≤c) (hc:c≤cap) (hx:ex=true→cap=c)
  (hr:off+cap*p.es≤p.n) : aQ μ (.slice f t o n c ex) (.slice (some ⟨p.c,off,none⟩) n cap)
 | gC:aQ μ .gC (.map none)
 | map {f:Nat} {p:Pl} (h:μ f 0=some p) : aQ μ (.map f) (.map (some p.c))
 | func (f:FuncId) {xs ys:List AV} {us vs:Array Value} (l1:xs.length=us.size) (h1:∀(i:Nat) x y,xs[i]?=some x→us.toList[i]?=some y→aQ μ x y)
  (l2:ys.length=vs.size) (h2:∀(i:Nat) x y,ys[i]?=some x→vs.toList[i]?=some y→aQ μ x y) : aQ μ (.func f xs ys) (.func (.func f) us vs)
 | nilFunc:aQ μ .nilFunc .nilFunc
 | agg {xs:List AV} {us:Array Value} (l1:xs.length=us.size) (h1:∀(i:Nat) x y,xs[i]?=some x→us.toList[i]?=some y→aQ μ x y) (h2:∀x∈xs,x.one=true) :
  aQ μ (.agg xs) (.agg us)
 | tuple {xs:List AV} {us:Array Value} (l1:xs.length=us.size) (h1:∀(i:Nat) x y,xs[i]?=some x→us.toList[i]?=some y→aQ μ x y) :
  aQ μ (.tuple xs) (.tuple us)
 | rest (k:IntKind) {m r n:Nat} (hn:n<256) (h:n % m=r) : aQ μ (.rest k m r) (.int k (Int.ofNat n))
 | gZ (k:IntKind) {lo hi n:Nat} (h1:lo≤n) (h2:n≤hi) : aQ μ (.gZ k lo hi) (.int k (Int.ofNat n))
 | ff (k:IntKind) {m S n:Nat} (hn:n<256) (h:bit S (n % m)=true) : aQ μ (.ff k m S) (.int k (Int.ofNat n))
 | sym (k:IntKind) {j lo hi:Nat} (h1:lo≤bu.n j) (h2:bu.n j≤hi) : aQ μ (.sym k j lo hi) (.int k (Int.ofNat (bu.n j)))
 | jV {p:List Nat} {j:Nat} {b:ByteArray} (h:b.data.toList.map UInt8.toNat=p++bu.s j) : aQ μ (.jV p j) (.string b)
 | neg (k:IntKind) (n:Nat) : aQ μ (.neg k) (.int k (Int.negSucc n))
 | bits (k:IntKind) (l:List Bt) : aQ μ (.bits k l) (.int k (Int.ofNat (aP l)))
 | gD (k:IntKind) (l:List Bt) : aQ μ (.gD k l) (.int k (Int.negSucc (aP l)))
 | tm (k:IntKind) {m:Nat} {r z:Int} (h:Int.tmod z (Int.ofNat m)=r) : aQ μ (.tm k m r) (.int k z)
 | lB {lo hi:Nat} {b:ByteArray} (h1:lo≤b.size) (h2:b.size≤hi) : aQ μ (.lB lo hi) (.string b)
 | least (k:IntKind) {l:List Bt} {m:Nat} {b:Bool} (h1:m≤65535) (h2:decide (aP l≤m)=b) : aQ μ (.least k l b) (.int k (Int.ofNat m))
theorem aQ.mono{μ μ':Mp}(hm:∀f t p,μ f t=some p→μ' f t=some p){v:AV}{x:Value}(h:aQ μ v x): aQ μ' v x:=by
 induction h with
 | undef x=>exact .undef x
 | bool b=>exact .bool b
 | int k n=>exact .int k n
 | float k b=>exact .float k b
 | dh k a b=>exact .dh k a b
 | str s=>exact .str s
 | bJ=>exact .bJ
 | ptr h e=>exact .ptr (hm _ _ _ h) e
 | aj=>exact .aj
 | emp a h=>exact .emp a h
 | slice h e hn hc hx hr=>exact .slice (hm _ _ _ h) e hn hc hx hr
 | gC=>exact .gC
 | map h=>exact .map (hm _ _ _ h)
 | func f l1 _ l2 _ i1 i2=>exact .func f l1 i1 l2 i2
 | nilFunc=>exact .nilFunc
 | agg l1 _ h2 i1=>exact .agg l1 i1 h2
 | tuple l1 _ i1=>exact .tuple l1 i1
 | rest k hn h=>exact .rest k hn h
 | gZ k h1 h2=>exact .gZ k h1 h2
 | ff k hn h=>exact .ff k hn h
 | sym k h1 h2=>exact .sym k h1 h2
 | jV h=>exact .jV h
 | neg k n=>exact .neg k n
 | bits k l=>exact .bits k l
 | gD k l=>exact .gD k l
 | tm k h=>exact .tm k h
 | lB h1 h2=>exact .lB h1 h2
 | least k h1 h2=>exact .least k h1 h2
theorem aQ.one{μ:Mp}{v:AV}{x:Value}(h:aQ μ v x)(ho:v.one=true): x.oneCell'=true:=by
 cases h<;>first|rfl|cases ho
def bK(μ:Mp)(l:List AV)(vs:List Value): Prop:=l.length=vs.length∧∀(i:Nat) x y,l[i]?=some x→vs[i]?=some y→aQ μ x y
theorem bK.nil(μ:Mp): bK μ [] []:=⟨rfl,by simp⟩
theorem bK.cons{μ:Mp}{x:AV}{y:Value}{l:List AV}{vs:List Value}(h:aQ μ x y)(hl:bK μ l vs): bK μ (x::l) (y::vs):=by
 refine⟨by simp [hl.1],fun i a b h1 h2=>?_⟩;cases i with
 | zero=>simp at h1 h2;subst h1;subst h2;exact h
 | succ i=>exact hl.2 i a b (by simpa using h1) (by simpa using h2)
theorem bK.uncons{μ:Mp}{x:AV}{y:Value}{l:List AV}{vs:List Value}(h:bK μ (x::l) (y::vs)): aQ μ x y∧bK μ l vs:=
 ⟨h.2 0 x y rfl rfl,by have:=h.1;simpa using this,fun i a b h1 h2=>h.2 (i+1) a b (by simpa using h1) (by simpa using h2)⟩
theorem bK.inv{μ:Mp}{x:AV}{l:List AV}{vs:List Value}(h:bK μ (x::l) vs): ∃y ys,vs=y::ys∧aQ μ x y∧bK μ l ys:=by
 cases vs with
 | nil=>have:=h.1;simp at this
 | cons y ys=>exact⟨y,ys,rfl,h.uncons⟩
theorem bK.fH{μ:Mp}{vs:List Value}(h:bK μ [] vs): vs=[]:=by
 cases vs with
 | nil=>rfl
 | cons y ys=>have:=h.1;simp at this
theorem bK.mono{μ μ':Mp}(hm:∀f t p,μ f t=some p→μ' f t=some p){l:List AV}{vs:List Value}(h:bK μ l vs): bK μ' l vs:=
 ⟨h.1,fun i x y h1 h2=>(h.2 i x y h1 h2).mono hm⟩
theorem bK.append{μ:Mp}{l l':List AV}{vs vs':List Value}(h:bK μ l vs)(h':bK μ l' vs'): bK μ (l++l') (vs++vs'):=by
 refine⟨by simp [h.1,h'.1],fun i x y h1 h2=>?_⟩;by_cases a:i<l.length
 ·rw[List.getElem?_append_left a] at h1;rw[List.getElem?_append_left (by rw[←h.1];exact a)] at h2;exact h.2 i x y h1 h2
 ·rw[List.getElem?_append_right (by omega)] at h1;rw[List.getElem?_append_right (by rw[←h.1];omega),←h.1] at h2;exact h'.2 _ x y h1 h2
theorem bK.take{μ:Mp}{l:List AV}{vs:List Value}(h:bK μ l vs)(n:Nat): bK μ (l.take n) (vs.take n):=by
 refine⟨by simp [h.1],fun i x y h1 h2=>?_⟩;rw[List.getElem?_take] at h1 h2;split at h1<;>simp_all
 exact h.2 i x y h1 h2
theorem bK.drop{μ:Mp}{l:List AV}{vs:List Value}(h:bK μ l vs)(n:Nat): bK μ (l.drop n) (vs.drop n):=by
 refine⟨by simp [h.1],fun i x y h1 h2=>?_⟩;rw[List.getElem?_drop] at h1 h2;exact h.2 _ x y h1 h2
theorem bK.get{μ:Mp}{l:List AV}{vs:List Value}(h:bK μ l vs){i:Nat}{x:AV}(hx:l[i]?=some x): ∃y,vs[i]?=some y∧aQ μ x y:=by
 have hlt:i<l.length:=by rcases Nat.lt_or_ge i l.length with h|h;exact h;simp [List.getElem?_eq_none h] at hx
 have hlt':i<vs.length:=by rw[←h.1];exact hlt
 exact⟨vs[i],List.getElem?_eq_getElem hlt',h.2 i x _ hx (List.getElem?_eq_getElem hlt')⟩
theorem si{μ:Mp}{xs:List AV}{x:Value}(h:aQ μ (.agg xs) x): ∃us:Array Value,x=.agg us∧bK μ xs us.toList∧∀a∈xs,a.one=true:=by
 cases h with
 | agg l1 h1 h2=>exact⟨_,rfl,⟨by simpa using l1,h1⟩,h2⟩
theorem iE{μ:Mp}{xs:List AV}{us:List Value}(h:bK μ xs us)(h2:∀a∈xs,a.one=true): aQ μ (.agg xs) (.agg us.toArray):=
 .agg (by simpa using h.1) (by simpa using h.2) h2
theorem sj{μ:Mp}{xs:List AV}{x:Value}(h:aQ μ (.tuple xs) x): ∃us:Array Value,x=.tuple us∧bK μ xs us.toList:=by
 cases h with
 | tuple l1 h1=>exact⟨_,rfl,⟨by simpa using l1,h1⟩⟩
theorem ga{μ:Mp}{xs:List AV}{us:List Value}(h:bK μ xs us): aQ μ (.tuple xs) (.tuple us.toArray):=
 .tuple (by simpa using h.1) (by simpa using h.2)
theorem jW{μ:Mp}{v:AV}{x:Value}{xs:List AV}(h:aQ μ v x)(hc:cellsOf v=some xs): bK μ xs x.cells.toList∧∀a∈xs,a.one=true:=by
 cases h<;>simp only[cellsOf,Option.some.injEq,reduceCtorEq] at hc<;>subst hc
 case agg l1 h1 h2=>exact⟨⟨by simpa [Value.cells] using l1,by simpa [Value.cells] using h1⟩,h2⟩
 all_goals
  refine⟨?_,by simp [AV.one]⟩;simp only[Value.cells];refine bK.cons ?_ (bK.nil μ)
  first
   | exact .bool _|exact .int _ _|exact .float _ _|exact .dh _ _ _|exact .str _|exact .bJ|exact .ptr (by assumption) (by assumption)|exact .aj|exact .emp _ (by assumption)
   | exact .slice (by assumption) (by assumption) (by assumption) (by assumption) (by assumption) (by assumption)|exact .gC|exact .map (by assumption)
   | exact .func _ (by assumption) (by assumption) (by assumption) (by assumption)|exact .nilFunc|exact .rest _ (by assumption) (by assumption)|exact .gZ _ (by assumption) (by assumption)|exact .ff _ (by assumption) (by assumption)|exact .sym _ (by assumption) (by assumption)|exact .jV (by assumption)|exact .neg _ _|exact .bits _ _|exact .gD _ _|exact .tm _ (by assumption)|exact .lB (by assumption) (by assumption)|exact .least _ (by assumption) (by assumption)
theorem nK(μ:Mp)(x:Value): aQ μ (hZ x) x:=by
 unfold hZ;split
 ·exact .bool _
 ·exact .int _ _
 ·exact .float _ _
 ·exact .dh _ _ _
 ·exact .str _
 ·exact .bJ
 ·exact .aj
 ·exact .gC
 ·exact .nilFunc
 ·exact .undef _
theorem qh(μ:Mp)(x:Value): aQ μ (ofConst x) x:=by
 have key:∀l:List Value,bK μ (l.map hZ) l:=fun l=>by
  induction l with
  | nil=>exact bK.nil μ
  | cons a l ih=>exact bK.cons (nK μ a) ih
 unfold ofConst;split
 ·rename_i cs;unfold leaves;cases h:ki (cs.toList.map hZ)
  ·exact .undef _
  ·have:=iE (key cs.toList) (sf h);simpa using this
 ·rename_i cs;have:=ga (key cs.toList);simpa using this
 ·exact nK μ x
end Go.AE
namespace Go.AE
variable[bu]
def eI.cur:eI→Nat
 | .cells cur _ _ _=>cur
 | .map _=>0
def eI.ro:eI→Bool
 | .cells _ ro _ _=>ro
 | .map _=>false
def CR(μ:Mp)(F:eI)(p:Pl)(w:World): Prop:=
 match F with
 | .cells _ ro es cs=>∃(arr:Array Value) (elem:TypeId) (fz:Nat×Nat),w.heap[p.c]?=some (.cells arr elem fz)∧arr.size=p.n∧p.es=es∧(ro=false→fz=(0,0))∧
  ∀(i:Nat) v,cs[i]?=some v→p.down≤i+p.up→v.one=true∧∃cv,arr[i+p.up-p.down]?=some cv∧aQ μ v cv
 | .map es=>∃(ents:Array MapEntry) (clock:Nat),w.heap[p.c]?=some (.map ents clock)∧es.length=ents.size∧
  ∀(i:Nat) k v,es[i]?=some (k,v)→∃e,ents.toList[i]?=some e∧aQ μ k e.key∧aQ μ v e.val
theorem CR.mono{μ μ':Mp}{F:eI}{p:Pl}{w w':World}(hm:∀f t p,μ f t=some p→μ' f t=some p)(hw:w'.heap[p.c]?=w.heap[p.c]?)(h:CR μ F p w): CR μ' F p w':=by
 cases F with
 | cells cur ro es cs=>
  obtain⟨arr,elem,fz,h1,h2,h3,h4,h5⟩:=h;refine⟨arr,elem,fz,hw.trans h1,h2,h3,h4,fun i v hv hd=>?_⟩;obtain⟨ho,cv,a,b⟩:=h5 i v hv hd;exact⟨ho,cv,a,b.mono hm⟩
 | map es=>
  obtain⟨ents,clock,h1,h2,h3⟩:=h;refine⟨ents,clock,hw.trans h1,h2,fun i k v hv=>?_⟩;obtain⟨e,a,b,c⟩:=h3 i k v hv;exact⟨e,a,b.mono hm,c.mono hm⟩
structure Rel (base:Nat) (μ:Mp) (A:AW) (w:World) : Prop where
 iy:base≤w.heap.size
 lt:∀f F,A.heap.get f=some F→f<A.aa
 rd:∀f t p,μ f t=some p→p.c<w.heap.size∧∃F,A.heap.get f=some F∧t≤F.cur
 inj:∀f f' F t t' p p',A.heap.get f=some F→F.ro=false→μ f t=some p→μ f' t'=some p'→p.c=p'.c→f=f'
 own:∀f F t p,A.heap.get f=some F→μ f t=some p→F.ro=false→base≤p.c
 yC:∀f F p,A.heap.get f=some F→μ f F.cur=some p→CR μ F p w
structure Step (base:Nat) (μ:Mp) (A:AW) (w:World) (μ':Mp) (A':AW) (w':World) : Prop where
 pre:Rel base μ A w
 rel:Rel base μ' A' w'
 ae:∀f t p,μ f t=some p→μ' f t=some p
 cC:∀f,f<A.aa→(∀t,μ f t=none)→(∀t,μ' f t=none)∧A'.heap.get f=A.heap.get f
 aa:A.aa≤A'.aa
 src:∀f t p,μ' f t=some p→(∃t0 p0,μ f t0=some p0∧p0.c=p.c)∨w.heap.size≤p.c
 fg:∀f F,A.heap.get f=some F→∃F',A'.heap.get f=some F'∧F'.ro=F.ro∧F.cur≤F'.cur
 os:w'.os=w.os
 tape:w'.tape=w.tape
 output:w'.output=w.output
 size:w.heap.size≤w'.heap.size
 wU:∀b,b<w.heap.size→(∀f F t p,A.heap.get f=some F→F.ro=false→μ f t=some p→p.c≠b)→w'.heap[b]?=w.heap[b]?
section
variable{base:Nat}{μ μ1 μ2:Mp}{A A1 A2:AW}{w w1 w2:World}
theorem Step.refl(h:Rel base μ A w): Step base μ A w μ A w:=
 ⟨h,h,fun _ _ _ h=>h,fun _ _ h=>⟨h,rfl⟩,Nat.le_refl _,fun _ t p h=>.inl ⟨t,p,h,rfl⟩,fun _ F h=>⟨F,h,rfl,Nat.le_refl _⟩,rfl,rfl,rfl,Nat.le_refl _,fun _ _ _=>rfl⟩
theorem Step.trans(h:Step base μ A w μ1 A1 w1)(k:Step base μ1 A1 w1 μ2 A2 w2): Step base μ A w μ2 A2 w2 where
 pre:=h.pre
 rel:=k.rel
 ae:=fun f t p hp=>k.ae _ _ _ (h.ae _ _ _ hp)
 cC:=fun f hf hn=>by
  obtain⟨a,b⟩:=h.cC f hf hn;obtain⟨c,d⟩:=k.cC f (Nat.lt_of_lt_of_le hf h.aa) a;exact⟨c,d.trans b⟩
 aa:=Nat.le_trans h.aa k.aa
 src:=fun f t p hp=>by
  rcases k.src f t p hp with ⟨t0,p0,a,b⟩|a
  ·rcases h.src f t0 p0 a with ⟨t1,p1,c,d⟩|c
   ·exact .inl ⟨t1,p1,c,d.trans b⟩
   ·exact .inr (b▸c)
  ·exact .inr (Nat.le_trans h.size a)
 fg:=fun f F hF=>by
  obtain⟨F1,a,b,c⟩:=h.fg f F hF;obtain⟨F2,d,e,g⟩:=k.fg f F1 a;exact⟨F2,d,e.trans b,Nat.le_trans c g⟩
 os:=k.os.trans h.os
 tape:=k.tape.trans h.tape
 output:=k.output.trans h.output
 size:=Nat.le_trans h.size k.size
 wU:=fun b hb hn=>by
  refine (k.wU b (Nat.lt_of_lt_of_le hb h.size) ?_).trans (h.wU b hb hn);intro f F1 t p hF1 hro hp hc;rcases h.src f t p hp with ⟨t0,p0,a,e⟩|a
  ·obtain⟨_,F,hF,_⟩:=h.pre.rd f t0 p0 a;obtain⟨F1',b1,b2,_⟩:=h.fg f F hF;rw[b1] at hF1;cases hF1;exact hn f F t0 p0 hF (b2▸hro) a (e.trans hc)
  ·omega
def Mp.put(μ:Mp)(f t:Nat)(p:Pl): Mp:=fun f' t'=>if f'=f∧t'=t then some p else μ f' t'
omit [bu] in
theorem Mp.eC(μ:Mp)(f t:Nat)(p:Pl): μ.put f t p f t=some p:=by simp [Mp.put]
omit [bu] in
theorem Mp.kQ(μ:Mp){f t f' t':Nat}(p:Pl)(h:f'≠f∨t'≠t): μ.put f t p f' t'=μ f' t':=by
 unfold Mp.put;rw[if_neg];rintro ⟨rfl,rfl⟩;rcases h with h|h<;>exact h rfl
structure ur (w w':World) : Prop where
 os:w'.os=w.os
 tape:w'.tape=w.tape
 output:w'.output=w.output
theorem Step.new(h:Rel base μ A w)(F:eI)(p:Pl)(hs:ur w w1)(hc:p.c=w.heap.size)(hz:w1.heap.size=w.heap.size+1)
 (hold:∀b,b<w.heap.size→w1.heap[b]?=w.heap[b]?) (hcur:F.cur=0) (hCR:CR μ F p w1) :
 Step base μ A w (μ.put A.aa 0 p) ⟨A.heap.set A.aa F,Nat.succ A.aa⟩ w1:=by
 have hnone:∀t,μ A.aa t=none:=fun t=>by
  cases hp:μ A.aa t with
  | none=>rfl
  | some q=>obtain⟨_,F',hF',_⟩:=h.rd _ _ _ hp;have:=h.lt _ _ hF';omega
 have hkeep:∀f t q,μ f t=some q→(μ.put A.aa 0 p) f t=some q:=fun f t q hq=>by
  rw[Mp.kQ]
  ·exact hq
  ·by_cases e:f=A.aa
   ·subst e;rw[hnone t] at hq;cases hq
   ·exact .inl e
 have hget:∀f,(A.heap.set A.aa F).get f=if f=A.aa then some F else A.heap.get f:=fun f=>Tr.dQ _ _ _ _
 have hinv:∀f t q,(μ.put A.aa 0 p) f t=some q→(f=A.aa∧t=0∧q=p)∨(f≠A.aa∧μ f t=some q):=fun f t q hq=>by
  unfold Mp.put at hq;split at hq
  ·rename_i e;cases hq;exact .inl ⟨e.1,e.2,rfl⟩
  ·rename_i e;refine .inr ⟨fun e'=>?_,hq⟩;subst e';rw[hnone t] at hq;cases hq
 refine⟨h,⟨by have:=h.iy;omega,?_,?_,?_,?_,?_⟩,hkeep,?_,Nat.le_succ _,?_,?_,hs.os,hs.tape,hs.output,by omega,fun b hb _=>hold b hb⟩
 ·intro f F' hF';show f<Nat.succ A.aa;rw[hget] at hF';split at hF'
  ·omega
  ·have:=h.lt _ _ hF';omega
 ·intro f t q hq;rcases hinv f t q hq with ⟨rfl,rfl,rfl⟩|⟨e,hq⟩
  ·exact⟨by omega,F,by simp only[hget];simp,by omega⟩
  ·obtain⟨a,F',b,c⟩:=h.rd _ _ _ hq;exact⟨by omega,F',by simp only[hget];simp [e,b],c⟩
 ·intro f f' F' t t' q q' hF' hro hq hq' hcc;rw[hget] at hF';rcases hinv f t q hq with ⟨rfl,rfl,rfl⟩|⟨e,hq1⟩<;>rcases hinv f' t' q' hq' with ⟨rfl,rfl,rfl⟩|⟨e',hq1'⟩
  ·rfl
  ·have:=(h.rd _ _ _ hq1').1;omega
  ·have:=(h.rd _ _ _ hq1).1;omega
  ·rw[if_neg e] at hF';exact h.inj f f' F' t t' q q' hF' hro hq1 hq1' hcc
 ·intro f F' t q hF' hq hro;rw[hget] at hF';rcases hinv f t q hq with ⟨rfl,rfl,rfl⟩|⟨e,hq1⟩
  ·have:=h.iy;omega
  ·rw[if_neg e] at hF';exact h.own f F' t q hF' hq1 hro
 ·intro f F' q hF' hq;rw[hget] at hF';rcases hinv f F'.cur q hq with ⟨rfl,e0,rfl⟩|⟨e,hq1⟩
  ·simp at hF';subst hF';exact hCR.mono hkeep rfl
  ·rw[if_neg e] at hF';exact (h.yC f F' q hF' hq1).mono hkeep (hold _ (h.rd _ _ _ hq1).1)
 ·intro f hf hn;have e:f≠A.aa:=by omega
  exact⟨fun t=>by rw[Mp.kQ _ _ (.inl e)];exact hn t,by simp only[hget];simp [e]⟩
 ·intro f t q hq;rcases hinv f t q hq with ⟨rfl,rfl,rfl⟩|⟨e,hq1⟩
  ·exact .inr (by omega)
  ·exact .inl ⟨t,q,hq1,rfl⟩
 ·intro f F' hF';have:=h.lt _ _ hF';have e:f≠A.aa:=by omega
  exact⟨F',by simp only[hget];simp [e,hF'],rfl,Nat.le_refl _⟩
theorem Step.write(h:Rel base μ A w){f:Nat}{F F':eI}{p:Pl}(hF:A.heap.get f=some F)(hro:F.ro=false)(hp:μ f F.cur=some p)(hro':F'.ro=false)
 (hcur:F'.cur=F.cur∨F'.cur=Nat.succ F.cur) (hs:ur w w1) (hz:w1.heap.size=w.heap.size) (hold:∀b,b≠p.c→w1.heap[b]?=w.heap[b]?) (hCR:CR μ F' p w1) :
 Step base μ A w (μ.put f F'.cur p) ⟨A.heap.set f F',A.aa⟩ w1:=by
 have hfresh:∀q,μ f F'.cur=some q→q=p:=fun q hq=>by
  rcases hcur with e|e
  ·rw[e,hp] at hq;cases hq;rfl
  ·obtain⟨_,F2,hF2,hle⟩:=h.rd _ _ _ hq;rw[hF] at hF2;cases hF2;omega
 have hkeep:∀g t q,μ g t=some q→(μ.put f F'.cur p) g t=some q:=fun g t q hq=>by
  unfold Mp.put;split
  ·rename_i e;obtain⟨rfl,rfl⟩:=e;rw[hfresh q hq]
  ·exact hq
 have hget:∀g,(A.heap.set f F').get g=if g=f then some F' else A.heap.get g:=fun g=>Tr.dQ _ _ _ _
 have hinv:∀g t q,(μ.put f F'.cur p) g t=some q→(g=f∧t=F'.cur∧q=p)∨μ g t=some q:=fun g t q hq=>by
  unfold Mp.put at hq;split at hq
  ·rename_i e;cases hq;exact .inl ⟨e.1,e.2,rfl⟩
  ·exact .inr hq
 have hcb:∀g t q,(μ.put f F'.cur p) g t=some q→∃t0 q0,μ g t0=some q0∧q0.c=q.c:=fun g t q hq=>by
  rcases hinv g t q hq with ⟨rfl,rfl,rfl⟩|hq
  ·exact⟨_,_,hp,rfl⟩
  ·exact⟨_,_,hq,rfl⟩
 refine⟨h,⟨by have:=h.iy;omega,?_,?_,?_,?_,?_⟩,hkeep,?_,Nat.le_refl _,fun g t q hq=>.inl (hcb g t q hq),?_,hs.os,hs.tape,hs.output,by omega,?_⟩
 ·intro g G hG;rw[hget] at hG;split at hG
  ·rename_i e;subst e;exact h.lt _ _ hF
  ·exact h.lt _ _ hG
 ·intro g t q hq;rcases hinv g t q hq with ⟨rfl,rfl,rfl⟩|hq
  ·have:=(h.rd _ _ _ hp).1;exact⟨by omega,F',by simp only[hget];simp,Nat.le_refl _⟩
  ·obtain⟨a,G,b,c⟩:=h.rd _ _ _ hq;by_cases e:g=f
   ·subst e;rw[hF] at b;cases b;exact⟨by omega,F',by simp only[hget];simp,by rcases hcur with e|e<;>omega⟩
   ·exact⟨by omega,G,by simp only[hget];simp [e,b],c⟩
 ·intro g g' G t t' q q' hG hGro hq hq' hcc;obtain⟨t0,q0,a0,b0⟩:=hcb g t q hq;obtain⟨t1,q1,a1,b1⟩:=hcb g' t' q' hq';rw[hget] at hG;by_cases e:g=f
  ·subst e;exact h.inj g g' F t0 t1 q0 q1 hF hro a0 a1 (by omega)
  ·rw[if_neg e] at hG;exact h.inj g g' G t0 t1 q0 q1 hG hGro a0 a1 (by omega)
 ·intro g G t q hG hq hGro;obtain⟨t0,q0,a0,b0⟩:=hcb g t q hq;rw[hget] at hG;by_cases e:g=f
  ·subst e;rw[←b0];exact h.own g F t0 q0 hF a0 hro
  ·rw[if_neg e] at hG;rw[←b0];exact h.own g G t0 q0 hG a0 hGro
 ·intro g G q hG hq;rw[hget] at hG;by_cases e:g=f
  ·subst e;simp at hG;subst hG;rw[Mp.eC] at hq;cases hq;exact hCR.mono hkeep rfl
  ·rw[if_neg e] at hG;rw[Mp.kQ _ _ (.inl e)] at hq;refine (h.yC g G q hG hq).mono hkeep (hold _ ?_);intro ec;exact e (h.inj f g F _ _ _ _ hF hro hp hq ec.symm).symm
 ·intro g hg hn;have e:g≠f:=fun e=>by subst e;rw[hn] at hp;cases hp
  exact⟨fun t=>by rw[Mp.kQ _ _ (.inl e)];exact hn t,by simp only[hget];simp [e]⟩
 ·intro g G hG;by_cases e:g=f
  ·subst e;rw[hF] at hG;cases hG;exact⟨F',by simp only[hget];simp,by rw[hro,hro'],by rcases hcur with e|e<;>omega⟩
  ·exact⟨G,by simp only[hget];simp [e,hG],rfl,Nat.le_refl _⟩
 ·intro b hb hn;exact hold b (fun e=>hn f F F.cur p hF hro hp e.symm)
theorem Step.move(h:Rel base μ A w){f:Nat}{F F':eI}{p p':Pl}(hF:A.heap.get f=some F)(hro:F.ro=false)(hp:μ f F.cur=some p)(hro':F'.ro=false)
 (hcur:F'.cur=Nat.succ F.cur) (hs:ur w w1) (hc:p'.c=w.heap.size) (hz:w1.heap.size=w.heap.size+1)
 (hold:∀b,b<w.heap.size→w1.heap[b]?=w.heap[b]?) (hCR:CR μ F' p' w1) :
 Step base μ A w (μ.put f F'.cur p') ⟨A.heap.set f F',A.aa⟩ w1:=by
 have hnone:μ f F'.cur=none:=by
  cases hq:μ f F'.cur with
  | none=>rfl
  | some q=>
   obtain⟨_,F2,hF2,hle⟩:=h.rd _ _ _ hq;rw[hF] at hF2;cases hF2;omega
 have hkeep:∀g t q,μ g t=some q→(μ.put f F'.cur p') g t=some q:=fun g t q hq=>by
  unfold Mp.put;split
  ·rename_i e;obtain⟨rfl,rfl⟩:=e;rw[hnone] at hq;cases hq
  ·exact hq
 have hget:∀g,(A.heap.set f F').get g=if g=f then some F' else A.heap.get g:=fun g=>Tr.dQ _ _ _ _
 have hinv:∀g t q,(μ.put f F'.cur p') g t=some q→(g=f∧t=F'.cur∧q=p')∨(μ g t=some q∧q.c<w.heap.size):=fun g t q hq=>by
  unfold Mp.put at hq;split at hq
  ·rename_i e;cases hq;exact .inl ⟨e.1,e.2,rfl⟩
  ·exact .inr ⟨hq,(h.rd _ _ _ hq).1⟩
 refine⟨h,⟨by have:=h.iy;omega,?_,?_,?_,?_,?_⟩,hkeep,?_,Nat.le_refl _,?_,?_,hs.os,hs.tape,hs.output,by omega,fun b hb _=>hold b hb⟩
 ·intro g G hG;rw[hget] at hG;split at hG
  ·rename_i e;subst e;exact h.lt _ _ hF
  ·exact h.lt _ _ hG
 ·intro g t q hq;rcases hinv g t q hq with ⟨rfl,rfl,rfl⟩|⟨hq,_⟩
  ·exact⟨by omega,F',by simp only[hget];simp,Nat.le_refl _⟩
  ·obtain⟨a,G,b,c⟩:=h.rd _ _ _ hq;by_cases e:g=f
   ·subst e;rw[hF] at b;cases b;exact⟨by omega,F',by simp only[hget];simp,by omega⟩
   ·exact⟨by omega,G,by simp only[hget];simp [e,b],c⟩
 ·intro g g' G t t' q q' hG hGro hq hq' hcc;rw[hget] at hG;rcases hinv g t q hq with ⟨rfl,rfl,rfl⟩|⟨hq1,l1⟩<;>rcases hinv g' t' q' hq' with ⟨rfl,rfl,rfl⟩|⟨hq1',l1'⟩
  ·rfl
  ·omega
  ·omega
  ·by_cases e:g=f
   ·subst e;exact h.inj g g' F t t' q q' hF hro hq1 hq1' hcc
   ·rw[if_neg e] at hG;exact h.inj g g' G t t' q q' hG hGro hq1 hq1' hcc
 ·intro g G t q hG hq hGro;rw[hget] at hG;rcases hinv g t q hq with ⟨rfl,rfl,rfl⟩|⟨hq1,l1⟩
  ·have:=h.iy;omega
  ·by_cases e:g=f
   ·subst e;exact h.own g F t q hF hq1 hro
   ·rw[if_neg e] at hG;exact h.own g G t q hG hq1 hGro
 ·intro g G q hG hq;rw[hget] at hG;by_cases e:g=f
  ·subst e;simp at hG;subst hG;rw[Mp.eC] at hq;cases hq;exact hCR.mono hkeep rfl
  ·rw[if_neg e] at hG;rw[Mp.kQ _ _ (.inl e)] at hq;exact (h.yC g G q hG hq).mono hkeep (hold _ (h.rd _ _ _ hq).1)
 ·intro g hg hn;have e:g≠f:=fun e=>by subst e;rw[hn] at hp;cases hp
  exact⟨fun t=>by rw[Mp.kQ _ _ (.inl e)];exact hn t,by simp only[hget];simp [e]⟩
 ·intro g t q hq;rcases hinv g t q hq with ⟨rfl,rfl,rfl⟩|⟨hq,_⟩
  ·exact .inr (by omega)
  ·exact .inl ⟨t,q,hq,rfl⟩
 ·intro g G hG;by_cases e:g=f
  ·subst e;rw[hF] at hG;cases hG;exact⟨F',by simp only[hget];simp,by rw[hro,hro'],by omega⟩
  ·exact⟨G,by simp only[hget];simp [e,hG],rfl,Nat.le_refl _⟩
theorem Rel.side(h:Rel base μ A w)(hh:w1.heap=w.heap): Rel base μ A w1:=by
 refine⟨by rw[hh];exact h.iy,h.lt,fun f t p hp=>by rw[hh];exact h.rd f t p hp,h.inj,h.own,fun f F p hF hp=>(h.yC f F p hF hp).mono (fun _ _ _ h=>h) (by rw[hh])⟩
theorem Step.side(h:Rel base μ A w)(hs:ur w w1)(hh:w1.heap=w.heap): Step base μ A w μ A w1:=
 ⟨h,h.side hh,fun _ _ _ h=>h,fun _ _ h=>⟨h,rfl⟩,Nat.le_refl _,fun _ t p h=>.inl ⟨t,p,h,rfl⟩,fun _ F h=>⟨F,h,rfl,Nat.le_refl _⟩,hs.os,hs.tape,hs.output,by rw[hh];exact Nat.le_refl _,
  fun _ _ _=>by rw[hh]⟩
end
end Go.AE
