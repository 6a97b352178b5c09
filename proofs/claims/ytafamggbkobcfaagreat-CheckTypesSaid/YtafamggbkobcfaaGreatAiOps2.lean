/- A part of the proof of the statement CheckTypes. -/
import Derived.Test.YtafamggbkobcfaaGreatAiOps
namespace Go.AE
set_option linter.unusedVariables false
variable[bu]
omit [bu] in
theorem gi(P:Program)(w:World)(o:Obj): (newObj o).run P w=.ok w.heap.size (w.alloc o):=rfl
section
variable{E:Env}{base:Nat}{μ:Mp}{A:AW}{w:World}
theorem bw.bind{s:Sem Unit}{r:Sem Value}{v:AV}{A':AW}(hs:s.run E.P w=.ok () w)(h:bw E base μ A w r v A'): bw E base μ A w (do s;r) v A':=by
 obtain⟨cv,w',μ',a,b,c⟩:=h;exact⟨cv,w',μ',by rw[Sem.run_bind,hs];exact a,b,c⟩
omit [bu] in
theorem vJ(op:BinOp)(t:TypeId)(p q:Operand){a b:Value}(ha:a≠.nilIface): eqGuard op t p q a b=eqGuard op t (.tmp 0) (.tmp 0) a b:=by
 unfold eqGuard;cases a<;>first|rfl|exact absurd rfl ha|(cases b<;>rfl)
omit [bu] in
theorem cT(a b:Nat): Nat.ble a b=decide (a≤b):=by
 cases h:Nat.ble a b with
 | true=>exact (decide_eq_true (Nat.le_of_ble_eq_true h)).symm
 | false=>exact (decide_eq_false (fun hle=>by rw[Nat.ble_eq_true_of_le hle] at h;cases h)).symm
omit [bu] in
theorem vK(n:Int): IntKind.u64.wrap n=n % 18446744073709551616:=by
 simp [IntKind.wrap,IntKind.signed,IntKind.bits]
omit [bu] in
theorem ig(k:IntKind)(h:Nat.blt 0 (vA k)=true)(r:BitVec k.bits): ∃m:Nat,k.wrap (r.toNat:Int)=Int.ofNat m∧m=r.toNat∧m≤vA k:=by
 have e:k=.u8∨k=.u64:=by cases k<;>first|exact .inl rfl|exact .inr rfl|exact absurd h (by decide)
 have hr:=r.isLt;rcases e with rfl|rfl
 ·have h8:(2:Nat) ^ IntKind.u8.bits=256:=by decide
  rw[h8] at hr;refine⟨r.toNat,IntWalk.u8_in _ (by omega),rfl,?_⟩;show r.toNat≤255;omega
 ·have h8:(2:Nat) ^ IntKind.u64.bits=18446744073709551616:=by decide
  rw[h8] at hr;refine⟨r.toNat,IntWalk.u64_in _ (by omega),rfl,?_⟩;show r.toNat≤18446744073709551615;omega
theorem yE(h:Rel base μ A w){k:IntKind}{t:TypeId}(hk:Nat.blt 0 (vA k)=true)(a b:Int)(p q:Operand):
 bw E base μ A w (do eqGuard .or t p q (.int k a) (.int k b);binOp .or t (.int k a) (.int k b)) (.gZ k 0 (vA k)) A:=by
 obtain⟨m,e1,_,e2⟩:=ig k hk (BitVec.ofInt k.bits a ||| BitVec.ofInt k.bits b);refine bw.bind rfl (bw.same h (cv:=.int k (Int.ofNat m)) ?_ (.gZ k (Nat.zero_le _) e2));simp only[binOp,ne_eq,not_true_eq_false,if_false,Op.intBits];rw[e1];rfl
omit [bu] in
theorem nP:∀{a b:List Nat},dW a b=true→a=b
 | [],[],_=>rfl
 | [],_::_,h=>by simp [dW,isNil] at h
 | _::_,[],h=>by simp [dW] at h
 | x::xs,y::ys,h=>by
  simp only[dW,beq_eq] at h;by_cases e:x=y
  ·simp [e] at h;rw[e,nP h]
  ·simp [e] at h
omit [bu] in
theorem bytes_inj{a b:ByteArray}(h:a.data.toList.map UInt8.toNat=b.data.toList.map UInt8.toNat): a=b:=by
 have h1:a.data.toList=b.data.toList:=by
  have hi:∀l l':List UInt8,l.map UInt8.toNat=l'.map UInt8.toNat→l=l':=by
   intro l
   induction l with
   | nil=>intro l' h;cases l' with
    | nil=>rfl
    | cons y ys=>simp at h
   | cons x xs ih=>
    intro l' h;cases l' with
    | nil=>simp at h
    | cons y ys=>
     simp only[List.map_cons,List.cons.injEq] at h;rw[ih ys h.2,UInt8.toNat_inj.1 h.1]
  exact hi _ _ h
 cases a;cases b;simp only[ByteArray.mk.injEq];exact Array.ext' h1
theorem nQ(h:Rel base μ A w){op:BinOp}{t:TypeId}{k k':IntKind}{lo hi b n:Nat}{v:AV}{A':AW}(p q:Operand)(hl:wV op k lo hi k' b A=.val v A')(h1:lo≤n)(h2:n≤hi):
 bw E base μ A w (do eqGuard op t p q (.int k (Int.ofNat n)) (.int k' (Int.ofNat b));binOp op t (.int k (Int.ofNat n)) (.int k' (Int.ofNat b))) v A':=by
 unfold wV at hl;simp only[Bool.cond_eq_ite,bt,decide_eq_true_eq,blt_eq,cT,Bool.or_eq_true,Bool.and_eq_true] at hl;cases op
 case lss=>
  simp only[] at hl;split at hl
  ·rename_i hk;subst hk;split at hl
   ·cases hl;exact bw.bind rfl (bw.same h (cv:=.bool true) (by simp [binOp,Op.intCmp];omega) (.bool _))
   ·split at hl
    ·cases hl;exact bw.bind rfl (bw.same h (cv:=.bool false) (by simp [binOp,Op.intCmp];omega) (.bool _))
    ·cases hl
  ·cases hl
 case leq=>
  simp only[] at hl;split at hl
  ·rename_i hk;subst hk;split at hl
   ·cases hl;exact bw.bind rfl (bw.same h (cv:=.bool true) (by simp [binOp,Op.intCmp];omega) (.bool _))
   ·split at hl
    ·cases hl;exact bw.bind rfl (bw.same h (cv:=.bool false) (by simp [binOp,Op.intCmp];omega) (.bool _))
    ·cases hl
  ·cases hl
 case gtr=>
  simp only[] at hl;split at hl
  ·rename_i hk;subst hk;split at hl
   ·cases hl;exact bw.bind rfl (bw.same h (cv:=.bool true) (by simp [binOp,Op.intCmp];omega) (.bool _))
   ·split at hl
    ·cases hl;exact bw.bind rfl (bw.same h (cv:=.bool false) (by simp [binOp,Op.intCmp];omega) (.bool _))
    ·cases hl
  ·cases hl
 case geq=>
  simp only[] at hl;split at hl
  ·rename_i hk;subst hk;split at hl
   ·cases hl;exact bw.bind rfl (bw.same h (cv:=.bool true) (by simp [binOp,Op.intCmp];omega) (.bool _))
   ·split at hl
    ·cases hl;exact bw.bind rfl (bw.same h (cv:=.bool false) (by simp [binOp,Op.intCmp];omega) (.bool _))
    ·cases hl
  ·cases hl
 case eql=>
  simp only[] at hl;split at hl
  ·rename_i hk;subst hk;split at hl
   ·cases hl;exact bw.bind rfl (bw.same h (cv:=.bool false) (by simp [binOp,Op.intCmp];omega) (.bool _))
   ·cases hl
  ·cases hl
 case neq=>
  simp only[] at hl;split at hl
  ·rename_i hk;subst hk;split at hl
   ·cases hl;exact bw.bind rfl (bw.same h (cv:=.bool true) (by simp [binOp,Op.intCmp];omega) (.bool _))
   ·cases hl
  ·cases hl
 case shr=>
  simp only[] at hl;split at hl
  ·rename_i hb;cases hl;have hmin:min (Int.ofNat b).toNat k.bits=b:=by
    have:8≤k.bits:=by cases k<;>decide
    simp;omega
   refine bw.bind rfl (bw.same h (cv:=.int k (Int.ofNat (n / 2 ^ b))) ?_ (.gZ k (Nat.div_le_div_right h1) (Nat.div_le_div_right h2)));have e:Int.fdiv (Int.ofNat n) (2 ^ b)=Int.ofNat (n / 2 ^ b):=by
    rw[Int.fdiv_eq_ediv_of_nonneg _ (Int.le_of_lt (Int.pow_pos (by decide)))];simp
   simp only[binOp,Op.shift,hmin];rw[if_neg (by simp)];rw[e];rfl
  ·cases hl
 case shl=>
  simp only[] at hl;split at hl
  ·rename_i hk;subst hk;cases hl;obtain⟨m,e1,e2⟩:∃m:Nat,IntKind.u64.wrap (Int.ofNat n*2 ^ (min (Int.ofNat b).toNat IntKind.u64.bits))=Int.ofNat m∧m≤18446744073709551615:=by
    rw[vK];refine⟨((Int.ofNat n*2 ^ (min (Int.ofNat b).toNat IntKind.u64.bits)) % 18446744073709551616).toNat,?_,?_⟩
    ·have:0≤(Int.ofNat n*2 ^ (min (Int.ofNat b).toNat IntKind.u64.bits)) % 18446744073709551616:=Int.emod_nonneg _ (by decide);simp only[Int.ofNat_eq_natCast] at this ⊢;omega
    ·have:=Int.emod_lt_of_pos (Int.ofNat n*2 ^ (min (Int.ofNat b).toNat IntKind.u64.bits)) (b:=18446744073709551616) (by decide);omega
   refine bw.bind rfl (bw.same h (cv:=.int .u64 (Int.ofNat m)) ?_ (.gZ .u64 (Nat.zero_le _) e2));simp only[binOp,Op.shift];rw[if_neg (by simp)];rw[e1];rfl
  ·cases hl
 case and=>
  simp only[] at hl;split at hl
  ·rename_i hk;obtain⟨rfl,hk⟩:=hk;cases hl;obtain⟨m,e1,_,e2⟩:=ig k (by rw[blt_eq];exact decide_eq_true hk) (BitVec.ofInt k.bits (Int.ofNat n) &&& BitVec.ofInt k.bits (Int.ofNat b));refine bw.bind rfl (bw.same h (cv:=.int k (Int.ofNat m)) ?_ (.gZ k (Nat.zero_le _) e2));simp only[binOp,ne_eq,not_true_eq_false,if_false,Op.intBits];rw[e1];rfl
  ·cases hl
 case or=>
  simp only[] at hl;split at hl
  ·rename_i hk;obtain⟨rfl,rfl,h3,h4⟩:=hk;cases hl;obtain⟨m,e1,e3,e2⟩:=ig .u8 rfl (BitVec.ofInt IntKind.u8.bits (Int.ofNat n) ||| BitVec.ofInt IntKind.u8.bits (Int.ofNat b));refine bw.bind rfl (bw.same h (cv:=.int .u8 (Int.ofNat m)) ?_ (.gZ .u8 ?_ e2))
   ·simp only[binOp,ne_eq,not_true_eq_false,if_false,Op.intBits];rw[e1];rfl
   ·rw[e3,BitVec.toNat_or];have hb:(BitVec.ofInt IntKind.u8.bits (Int.ofNat b)).toNat=b:=by
     have:IntKind.u8.bits=8:=rfl;simp only[this,Int.ofNat_eq_natCast,BitVec.ofInt_natCast,BitVec.toNat_ofNat];omega
    rw[hb];exact Nat.right_le_or
  ·split at hl
   ·rename_i hk;obtain⟨rfl,rfl⟩:=hk;cases hl;exact yE h rfl _ _ p q
   ·cases hl
 all_goals cases hl
omit [bu] in
theorem dV{w x:Nat}(h:x<2 ^ w): (BitVec.ofInt w (Int.ofNat x)).toNat=x:=by
 simp only[Int.ofNat_eq_natCast,BitVec.ofInt_natCast,BitVec.toNat_ofNat];exact Nat.mod_eq_of_lt h
omit [bu] in
theorem yG{k:IntKind}(h:0<vA k): k=.u8∨k=.u64:=by
 cases k<;>first|exact .inl rfl|exact .inr rfl|exact absurd h (by decide)
omit [bu] in
theorem or128:∀x:Fin 256,x.val ||| 128=x.val % 128+128:=by decide +kernel
omit [bu] in
theorem xi {w : Nat} (x : BitVec w) : x ^^^ BitVec.allOnes w = ~~~x := by
  simp
theorem vL(h:Rel base μ A w){t:TypeId}{x y:Nat}(hx:x<2 ^ 64)(hy:y<2 ^ 64)(p q:Operand){v:AV}(hv:aQ μ v (.int .u64 (Int.ofNat (x ||| y)))):
 bw E base μ A w (do eqGuard .or t p q (.int .u64 (Int.ofNat x)) (.int .u64 (Int.ofNat y));binOp .or t (.int .u64 (Int.ofNat x)) (.int .u64 (Int.ofNat y))) v A:=by
 obtain⟨m,e1,e3,e2⟩:=ig .u64 rfl (BitVec.ofInt IntKind.u64.bits (Int.ofNat x) ||| BitVec.ofInt IntKind.u64.bits (Int.ofNat y));have hm:m=x ||| y:=by
  rw[e3,BitVec.toNat_or,dV (show x<2 ^ IntKind.u64.bits from hx),dV (show y<2 ^ IntKind.u64.bits from hy)]
 refine bw.bind rfl (bw.same h (cv:=.int .u64 (Int.ofNat m)) ?_ (by rw[hm];exact hv));simp only[binOp,ne_eq,not_true_eq_false,if_false,Op.intBits];rw[e1];rfl
theorem xj(h:Rel base μ A w){op:BinOp}{t:TypeId}{k k':IntKind}{l:List Bt}{b:Nat}{v:AV}{A':AW}(p q:Operand)(hl:js op k l k' b A=.val v A'):
 bw E base μ A w (do eqGuard op t p q (.int k (Int.ofNat (aP l))) (.int k' (Int.ofNat b));binOp op t (.int k (Int.ofNat (aP l))) (.int k' (Int.ofNat b))) v A':=by
 cases op
 case shr=>
  simp only[js,Bool.cond_eq_ite,cT,decide_eq_true_eq] at hl;split at hl
  ·rename_i hb;cases hl;have hmin:min (Int.ofNat b).toNat k.bits=b:=by
    simp;omega
   have e:Int.fdiv (Int.ofNat (aP l)) (2 ^ b)=Int.ofNat (aP l / 2 ^ b):=by
    rw[Int.fdiv_eq_ediv_of_nonneg _ (Int.le_of_lt (Int.pow_pos (by decide)))];simp
   refine bw.bind rfl (bw.same h (cv:=.int k (Int.ofNat (aP l / 2 ^ b))) ?_ (by rw[←su];exact cR _ _ _));simp only[binOp,Op.shift,hmin];rw[if_neg (by simp)];rw[e];rfl
  ·cases hl
 case shl=>
  simp only[js,Bool.cond_eq_ite,Bool.and_eq_true,bt,cT,decide_eq_true_eq] at hl;split at hl
  ·rename_i hb;obtain⟨rfl,hb⟩:=hb;cases hl;have hmin:min (Int.ofNat b).toNat IntKind.u64.bits=b:=by
    have:IntKind.u64.bits=64:=rfl;simp;omega
   have e:IntKind.u64.wrap (Int.ofNat (aP l)*2 ^ b)=Int.ofNat (aP (gY 64 (nI b l))):=by
    rw[vK,ie,qk,Nat.mul_comm];simp
   refine bw.bind rfl (bw.same h (cv:=.int .u64 (Int.ofNat (aP (gY 64 (nI b l))))) ?_ (cR _ _ _));simp only[binOp,Op.shift,hmin];rw[if_neg (by simp)];rw[e];rfl
  ·cases hl
 case and=>
  simp only[js,Bool.cond_eq_ite,Bool.and_eq_true,bt,cT,blt_eq,beq_eq,decide_eq_true_eq] at hl;split at hl
  ·rename_i hk;obtain⟨rfl,hk,hlen⟩:=hk;have hx:=dm hlen;obtain⟨m,e1,e3,e2⟩:=ig k (by rw[blt_eq];exact decide_eq_true hk) (BitVec.ofInt k.bits (Int.ofNat (aP l)) &&& BitVec.ofInt k.bits (Int.ofNat b));have h8:2 ^ 7≤2 ^ k.bits:=Nat.pow_le_pow_right (by decide) (by rcases yG hk with rfl|rfl<;>decide);split at hl
   ·rename_i hb;subst hb;cases hl;have hm:m=aP (gY 7 l):=by
     rw[e3,BitVec.toNat_and,dV hx,dV (by omega),ie];exact Nat.and_two_pow_sub_one_eq_mod _ 7
    refine bw.bind rfl (bw.same h (cv:=.int k (Int.ofNat m)) ?_ (by rw[hm];exact cR _ _ _));simp only[binOp,ne_eq,not_true_eq_false,if_false,Op.intBits];rw[e1];rfl
   ·split at hl
    ·rename_i hb;subst hb;cases hl;have hm:m=aP (gY 1 l):=by
      rw[e3,BitVec.toNat_and,dV hx,dV (by omega),ie];exact Nat.and_two_pow_sub_one_eq_mod _ 1
     refine bw.bind rfl (bw.same h (cv:=.int k (Int.ofNat m)) ?_ (by rw[hm];exact cR _ _ _));simp only[binOp,ne_eq,not_true_eq_false,if_false,Op.intBits];rw[e1];rfl
    ·cases hl
  ·cases hl
 case or=>
  simp only[js,Bool.cond_eq_ite,Bool.and_eq_true,bt,cT,beq_eq,decide_eq_true_eq] at hl;split at hl
  ·rename_i hk;obtain⟨rfl,rfl,rfl,hlen⟩:=hk;cases hl;have hx:=dm hlen;obtain⟨m,e1,e3,e2⟩:=ig .u8 rfl (BitVec.ofInt IntKind.u8.bits (Int.ofNat (aP l)) ||| BitVec.ofInt IntKind.u8.bits (Int.ofNat 128));have hm:m=aP (lH 7 (gY 7 l)++[.one]):=by
    have hbits:IntKind.u8.bits=8:=rfl;rw[e3,BitVec.toNat_or,dV (by rw[hbits];exact hx),dV (by rw[hbits];decide),sw,kC,ie,lT _ _ (uJ _ _)];exact or128 ⟨aP l,hx⟩
   refine bw.bind rfl (bw.same h (cv:=.int .u8 (Int.ofNat m)) ?_ (by rw[hm];exact cR _ _ _));simp only[binOp,ne_eq,not_true_eq_false,if_false,Op.intBits];rw[e1];rfl
  ·split at hl
   ·rename_i hk;obtain⟨rfl,rfl,hb,hlen⟩:=hk;split at hl
    ·rename_i r hr;cases hl;have hb':b<2 ^ 64:=Nat.lt_succ_of_le hb;refine vL h (dm hlen) hb' p q ?_;have e:=oJ hr;rw[sB,Nat.mod_eq_of_lt hb'] at e;rw[←e];exact cR _ _ _
    ·cases hl
   ·cases hl
 case xor=>
  simp only[js,Bool.cond_eq_ite,Bool.and_eq_true,Bool.or_eq_true,bt,cT,beq_eq,decide_eq_true_eq] at hl;split at hl
  ·rename_i hk;subst hk;split at hl
   ·rename_i hk;obtain⟨rfl,hk⟩:=hk;cases hl;have hx:aP l<2 ^ k.bits:=by
     rcases hk with ⟨rfl,hk⟩|⟨rfl,hk⟩
     ·exact dm hk
     ·exact dm (Nat.le_succ_of_le hk)
    have e:k.wrap ((BitVec.ofInt k.bits (Int.ofNat (aP l)) ^^^ BitVec.ofInt k.bits (Int.ofNat 0)).toNat:Int)=Int.ofNat (aP l):=by
     rw[BitVec.toNat_xor,dV hx,dV (Nat.two_pow_pos _),Nat.xor_zero];rcases hk with ⟨rfl,hk⟩|⟨rfl,hk⟩
     ·have:IntKind.u64.bits=64:=rfl;rw[this] at hx;exact IntWalk.u64_in _ (by omega)
     ·have:=dm hk;exact IntWalk.i64_in _ (by omega)
    refine bw.bind rfl (bw.same h (cv:=.int k (Int.ofNat (aP l))) ?_ (cR _ _ _));simp only[binOp,ne_eq,not_true_eq_false,if_false,Op.intBits];rw[e];rfl
   ·split at hl
    ·rename_i hk;obtain⟨rfl,hlen,rfl⟩:=hk;cases hl;have hx:=dm hlen;have hc:=lU (lH 64 l);rw[kC,lT _ _ hlen] at hc;have e:IntKind.u64.wrap ((BitVec.ofInt IntKind.u64.bits (Int.ofNat (aP l)) ^^^ BitVec.ofInt IntKind.u64.bits (Int.ofNat 18446744073709551615)).toNat:Int)=Int.ofNat (aP (ot (lH 64 l))):=by
      have ho:BitVec.ofInt 64 (Int.ofNat 18446744073709551615)=BitVec.allOnes 64:=by decide +kernel
      have hb:IntKind.u64.bits=64:=rfl;have e0:(BitVec.ofInt IntKind.u64.bits (Int.ofNat (aP l)) ^^^ BitVec.ofInt IntKind.u64.bits (Int.ofNat 18446744073709551615)).toNat=2 ^ 64-1-aP l:=by
       show (BitVec.ofInt 64 (Int.ofNat (aP l)) ^^^ BitVec.ofInt 64 (Int.ofNat 18446744073709551615)).toNat=_;rw[ho,xi,BitVec.toNat_not,dV hx]
      rw[e0];have:(2 ^ 64-1-aP l:Nat)=aP (ot (lH 64 l)):=by omega
      rw[this];exact IntWalk.u64_in _ (by omega)
     refine bw.bind rfl (bw.same h (cv:=.int .u64 (Int.ofNat (aP (ot (lH 64 l))))) ?_ (cR _ _ _));simp only[binOp,ne_eq,not_true_eq_false,if_false,Op.intBits];rw[e];rfl
    ·cases hl
  ·cases hl
 all_goals exact nQ h p q hl (uI l) (px l)
theorem xk(h:Rel base μ A w){t:TypeId}{l:List Bt}(hlen:gB l≤63)(p q:Operand):
 bw E base μ A w (do eqGuard .xor t p q (.int .i64 (Int.ofNat (aP l))) (.int .i64 (Int.negSucc 0));binOp .xor t (.int .i64 (Int.ofNat (aP l))) (.int .i64 (Int.negSucc 0))) (.gD .i64 l) A:=by
 have hx:=dm hlen;have hx':aP l<2 ^ 64:=Nat.lt_trans hx (by decide);have e:IntKind.i64.wrap ((BitVec.ofInt IntKind.i64.bits (Int.ofNat (aP l)) ^^^ BitVec.ofInt IntKind.i64.bits (Int.negSucc 0)).toNat:Int)=Int.negSucc (aP l):=by
  have ho:BitVec.ofInt 64 (Int.negSucc 0)=BitVec.allOnes 64:=by decide +kernel
  have e0:(BitVec.ofInt IntKind.i64.bits (Int.ofNat (aP l)) ^^^ BitVec.ofInt IntKind.i64.bits (Int.negSucc 0)).toNat=2 ^ 64-1-aP l:=by
   show (BitVec.ofInt 64 (Int.ofNat (aP l)) ^^^ BitVec.ofInt 64 (Int.negSucc 0)).toNat=_;rw[ho,xi,BitVec.toNat_not,dV hx']
  rw[e0,IntKind.wrap_i64];omega
 refine bw.bind rfl (bw.same h (cv:=.int .i64 (Int.negSucc (aP l))) ?_ (.gD _ _));simp only[binOp,ne_eq,not_true_eq_false,if_false,Op.intBits];rw[e];rfl
theorem yH(h:Rel base μ A w){op:BinOp}{t:TypeId}{x y v:AV}{A':AW}{cx cy:Value}(p q:Operand)(hl:uE op x y A=.val v A')(hx:aQ μ x cx)(hy:aQ μ y cy):
 bw E base μ A w (do eqGuard op t p q cx cy;binOp op t cx cy) v A':=by
 unfold uE at hl;split at hl
 ·rename_i k m r k' b;split at hl
  ·cases hc:(aT k k' && (Nat.blt 0 b && Nat.beq (Nat.mod m b) 0))<;>rw[hc] at hl<;>simp only[cond_true,cond_false,reduceCtorEq] at hl;simp only[Bool.and_eq_true,bt,blt_eq,beq_eq,decide_eq_true_eq] at hc;obtain⟨rfl,hb,hm⟩:=hc;obtain⟨rfl,rfl⟩:=jx hl;cases hy;cases hx with
   | rest _ hn he=>
    rename_i n;refine bw.bind rfl (bw.same h (cv:=.int k (Int.ofNat (n % b))) ?_ ?_)
    ·have hb0:(Int.ofNat b)≠0:=by simp;omega
     simp only[binOp];simp [Op.intDiv];rw[if_neg (by omega)];rfl
    ·have:n % b=Nat.mod r b:=by
      have hd:b ∣ m:=Nat.dvd_of_mod_eq_zero hm;rw[←he];exact (Nat.mod_mod_of_dvd n hd).symm
     rw[this];exact .int _ _
  ·cases hl
 ·rename_i k m S k' b;split at hl
  ·cases hc:(aT k k' && (Nat.blt 0 b && Nat.beq m b))<;>rw[hc] at hl<;>simp only[cond_true,cond_false,reduceCtorEq] at hl;simp only[Bool.and_eq_true,bt,blt_eq,beq_eq,decide_eq_true_eq] at hc;obtain⟨rfl,hb,rfl⟩:=hc;cases hl;cases hy;cases hx with
   | ff _ hn he=>
    rename_i n;have hlt:n % m<256:=Nat.lt_of_le_of_lt (Nat.mod_le _ _) hn;refine bw.bind rfl (bw.same h (cv:=.int k (Int.ofNat (n % m))) ?_ (.ff k hlt (by rw[Nat.mod_eq_of_lt hlt];exact he)));have hb0:(Int.ofNat m)≠0:=by simp;omega
    simp only[binOp];simp [Op.intDiv];rw[if_neg (by omega)];rfl
  ·cases hl
 ·cases hy;cases hx with
  | gZ _ h1 h2=>exact nQ h p q hl h1 h2
 ·rename_i k lo hi k' b;cases hy;cases hx with
  | gZ _ h1 h2=>
   simp only[Bool.cond_eq_ite,bt,decide_eq_true_eq] at hl;cases op
   case eql=>
    simp only[] at hl;split at hl
    ·rename_i hk;subst hk;cases hl;exact bw.bind rfl (bw.same h (cv:=.bool false) (by simp [binOp,Op.intCmp]<;>omega) (.bool _))
    ·cases hl
   case neq=>
    simp only[] at hl;split at hl
    ·rename_i hk;subst hk;cases hl;exact bw.bind rfl (bw.same h (cv:=.bool true) (by simp [binOp,Op.intCmp]<;>omega) (.bool _))
    ·cases hl
   case lss=>
    simp only[] at hl;split at hl
    ·rename_i hk;subst hk;cases hl;exact bw.bind rfl (bw.same h (cv:=.bool false) (by simp [binOp,Op.intCmp]<;>omega) (.bool _))
    ·cases hl
   case geq=>
    simp only[] at hl;split at hl
    ·rename_i hk;subst hk;cases hl;exact bw.bind rfl (bw.same h (cv:=.bool true) (by simp [binOp,Op.intCmp]<;>omega) (.bool _))
    ·cases hl
   all_goals cases hl
 ·cases hy;cases hx with
  | sym _ h1 h2=>exact nQ h p q hl h1 h2
 ·rename_i k k' b;cases hy;cases hx with
  | neg _ n=>
   simp only[Bool.cond_eq_ite,bt,decide_eq_true_eq] at hl;cases op
   case eql=>
    simp only[] at hl;split at hl
    ·rename_i hk;subst hk;cases hl;exact bw.bind rfl (bw.same h (cv:=.bool false) (by simp [binOp,Op.intCmp]<;>omega) (.bool _))
    ·cases hl
   case neq=>
    simp only[] at hl;split at hl
    ·rename_i hk;subst hk;cases hl;exact bw.bind rfl (bw.same h (cv:=.bool true) (by simp [binOp,Op.intCmp]<;>omega) (.bool _))
    ·cases hl
   case lss=>
    simp only[] at hl;split at hl
    ·rename_i hk;subst hk;cases hl;exact bw.bind rfl (bw.same h (cv:=.bool true) (by simp [binOp,Op.intCmp]<;>omega) (.bool _))
    ·cases hl
   case leq=>
    simp only[] at hl;split at hl
    ·rename_i hk;subst hk;cases hl;exact bw.bind rfl (bw.same h (cv:=.bool true) (by simp [binOp,Op.intCmp]<;>omega) (.bool _))
    ·cases hl
   case gtr=>
    simp only[] at hl;split at hl
    ·rename_i hk;subst hk;cases hl;exact bw.bind rfl (bw.same h (cv:=.bool false) (by simp [binOp,Op.intCmp]<;>omega) (.bool _))
    ·cases hl
   case geq=>
    simp only[] at hl;split at hl
    ·rename_i hk;subst hk;cases hl;exact bw.bind rfl (bw.same h (cv:=.bool false) (by simp [binOp,Op.intCmp]<;>omega) (.bool _))
    ·cases hl
   all_goals cases hl
 ·rename_i k l k' m b;cases hx;cases hy with
  | least _ h1 h2=>
   rename_i y;split at hl
   ·simp only[Bool.cond_eq_ite,Bool.and_eq_true,bt,decide_eq_true_eq] at hl;split at hl
    ·rename_i hk;obtain⟨rfl,he⟩:=hk;cases hl;refine bw.bind rfl (bw.same h (cv:=.bool b) ?_ (.bool _));rw[←h2,←gk he];simp [binOp,Op.intCmp]
    ·cases hl
   ·simp only[Bool.cond_eq_ite,Bool.and_eq_true,bt,decide_eq_true_eq] at hl;split at hl
    ·rename_i hk;obtain⟨rfl,he⟩:=hk;cases hl;refine bw.bind rfl (bw.same h (cv:=.bool (!b)) ?_ (.bool _));rw[←h2,←gk he];by_cases hle:aP l≤y
     ·simp [binOp,Op.intCmp,hle]
     ·simp [binOp,Op.intCmp,hle];omega
    ·cases hl
   ·cases hl
 ·rename_i k l b k' c;cases hy;cases hx with
  | least _ h1 h2=>
   split at hl
   ·simp only[Bool.cond_eq_ite,Bool.and_eq_true,bt,beq_eq,decide_eq_true_eq] at hl;split at hl
    ·rename_i hk;obtain⟨rfl,rfl⟩:=hk;cases hl;exact bw.bind rfl (bw.same h (cv:=.bool false) (by simp [binOp,Op.intCmp]) (.bool _))
    ·cases hl
   ·cases hl
 ·rename_i k m r k' b;split at hl
  ·cases hc:(aT k k' && (Nat.beq m b && Nat.blt 0 b))<;>rw[hc] at hl<;>simp only[cond_true,cond_false,reduceCtorEq] at hl;simp only[Bool.and_eq_true,bt,blt_eq,beq_eq,decide_eq_true_eq] at hc;obtain⟨rfl,rfl,hb⟩:=hc;obtain⟨rfl,rfl⟩:=jx hl;cases hy;cases hx with
   | tm _ he=>
    rename_i z;refine bw.bind rfl (bw.same h (cv:=.int k r) ?_ (.int _ _));simp only[binOp];simp [Op.intDiv];rw[if_neg (by omega)];rw[←he];rfl
  ·cases hl
 ·cases hy;cases hx;exact xj h p q hl
 ·rename_i k l k' b;cases hy;cases hx;split at hl
  ·simp only[Bool.cond_eq_ite,Bool.and_eq_true,bt,cT,beq_eq,decide_eq_true_eq] at hl;split at hl
   ·rename_i hk;obtain⟨rfl,rfl,rfl,hlen⟩:=hk;cases hl;exact xk h hlen p q
   ·cases hl
  ·cases hl
 ·rename_i k l k' b;cases hy;cases hx;split at hl
  ·simp only[Bool.cond_eq_ite,Bool.and_eq_true,bt,cT,beq_eq,decide_eq_true_eq] at hl;split at hl
   ·rename_i hk;obtain⟨rfl,rfl,hlen⟩:=hk;cases hl;have hx:=dm hlen;refine bw.bind rfl (bw.same h (cv:=.int .i64 (Int.negSucc 0)) ?_ (.int _ _));have hmin:min (Int.ofNat 63).toNat IntKind.i64.bits=63:=by decide
    have e:Int.fdiv (Int.negSucc (aP l)) (2 ^ 63)=Int.negSucc 0:=by
     rw[Int.fdiv_eq_ediv_of_nonneg _ (by decide)];omega
    simp only[binOp,Op.shift,hmin];rw[if_neg (by simp)];rw[e];rfl
   ·cases hl
  ·cases hl
 ·rename_i k a k' l;cases hy;cases hx;split at hl
  ·simp only[Bool.cond_eq_ite,Bool.and_eq_true,bt,cT,decide_eq_true_eq] at hl;split at hl
   ·rename_i hk;obtain⟨rfl,rfl,ha,hlen⟩:=hk;split at hl
    ·rename_i r hr;cases hl;have ha':a<2 ^ 64:=Nat.lt_succ_of_le ha;refine vL h ha' (dm hlen) p q ?_;have e:=oJ hr;rw[sB,Nat.mod_eq_of_lt ha'] at e;rw[←e];exact cR _ _ _
    ·cases hl
   ·cases hl
  ·cases hl
 ·rename_i k l k' m;cases hy;cases hx;split at hl
  ·simp only[Bool.cond_eq_ite,Bool.and_eq_true,bt,cT,decide_eq_true_eq] at hl;split at hl
   ·rename_i hk;obtain⟨rfl,rfl,h1,h2⟩:=hk;split at hl
    ·rename_i r hr;cases hl;refine vL h (dm h1) (dm h2) p q ?_;rw[←oJ hr];exact cR _ _ _
    ·cases hl
   ·cases hl
  ·simp only[Bool.cond_eq_ite,Bool.and_eq_true,bt,decide_eq_true_eq] at hl;split at hl
   ·rename_i hk;obtain⟨rfl,he⟩:=hk;cases hl;exact bw.bind rfl (bw.same h (cv:=.bool true) (by simp [binOp,Op.intCmp,gk he]) (.bool _))
   ·cases hl
  ·simp only[Bool.cond_eq_ite,Bool.and_eq_true,bt,decide_eq_true_eq] at hl;split at hl
   ·rename_i hk;obtain⟨rfl,he⟩:=hk;cases hl;exact bw.bind rfl (bw.same h (cv:=.bool false) (by simp [binOp,Op.intCmp,gk he]) (.bool _))
   ·cases hl
  ·cases hl
 ·rename_i k l k' m;cases hy;cases hx;split at hl
  ·simp only[Bool.cond_eq_ite,Bool.and_eq_true,bt,decide_eq_true_eq] at hl;split at hl
   ·rename_i hk;obtain⟨rfl,he⟩:=hk;cases hl;exact bw.bind rfl (bw.same h (cv:=.bool true) (by simp [binOp,Op.intCmp,gk he]) (.bool _))
   ·cases hl
  ·simp only[Bool.cond_eq_ite,Bool.and_eq_true,bt,decide_eq_true_eq] at hl;split at hl
   ·rename_i hk;obtain⟨rfl,he⟩:=hk;cases hl;exact bw.bind rfl (bw.same h (cv:=.bool false) (by simp [binOp,Op.intCmp,gk he]) (.bool _))
   ·cases hl
  ·cases hl
 ·rename_i a p' j;split at hl
  ·simp only[Bool.cond_eq_ite,cT,decide_eq_true_eq] at hl;split at hl
   ·rename_i hle;cases hl;cases hx with
    | str sa=>
     cases hy with
     | jV hb=>
      rename_i b;have hs:∀s:ByteArray,s.data.toList.length=s.size:=fun s=>by rw[Array.length_toList];rfl
      have l1:b.size=p'.length+(bu.s j).length:=by
       have:=congrArg List.length hb;rw[List.length_map,hs,List.length_append] at this;exact this
      have l2:=bu.short j;rw[ey,ey,List.length_map,hs] at hle;have hle':sa.size+(p'.length+1000)≤4611686018427387904:=hle;refine bw.bind rfl (bw.same h (cv:=.string (sa++b)) ?_ (.jV ?_))
      ·have hm:IntKind.i64.max=9223372036854775807:=by decide
       simp only[binOp,Op.stringOp,hm];rw[Sem.run_ite,if_neg (by omega)];rfl
      ·rw[ByteArray.data_append];simp [hb]
   ·cases hl
  ·cases hl
 ·rename_i p1 j1 p2 j2;split at hl
  ·simp only[Bool.cond_eq_ite,Bool.and_eq_true,beq_eq,decide_eq_true_eq] at hl;split at hl
   ·rename_i hc;cases hl;cases hx with
    | jV ha=>
     cases hy with
     | jV hb=>
      have e:=nP hc.1;rw[←e,←hc.2] at hb;have he:=bytes_inj (ha.trans hb.symm);subst he;refine bw.bind rfl (bw.same h (cv:=.bool true) ?_ (.bool _));simp only[binOp,Op.stringOp,beq_self_eq_true];rfl
   ·cases hl
  ·simp only[Bool.cond_eq_ite,Bool.and_eq_true,beq_eq,decide_eq_true_eq] at hl;split at hl
   ·rename_i hc;cases hl;cases hx with
    | jV ha=>
     cases hy with
     | jV hb=>
      have e:=nP hc.1;rw[←e,←hc.2] at hb;have he:=bytes_inj (ha.trans hb.symm);subst he;refine bw.bind rfl (bw.same h (cv:=.bool false) ?_ (.bool _));simp only[binOp,Op.stringOp,beq_self_eq_true];rfl
   ·cases hl
  ·cases hl
 ·rename_i k a k' lo hi;split at hl
  ·cases hc:(aT k k' && aT k .u64)<;>rw[hc] at hl<;>simp only[cond_true,cond_false,reduceCtorEq] at hl;simp only[Bool.and_eq_true,bt,decide_eq_true_eq] at hc;obtain⟨rfl,rfl⟩:=hc;cases hl;cases hx;cases hy with
   | gZ _ h1 h2=>exact yE h rfl _ _ p q
  ·cases hl
 ·rename_i k lo hi k' lo' hi';split at hl
  ·cases hc:(aT k k' && aT k .u64)<;>rw[hc] at hl<;>simp only[cond_true,cond_false,reduceCtorEq] at hl;simp only[Bool.and_eq_true,bt,decide_eq_true_eq] at hc;obtain⟨rfl,rfl⟩:=hc;cases hl;cases hx with
   | gZ _ h1 h2=>
    cases hy with
    | gZ _ h3 h4=>exact yE h rfl _ _ p q
  ·cases hl
 ·cases hl
theorem yI(hE:dS E)(h:Rel base μ A w){op:BinOp}{t:TypeId}{x y v:AV}{A':AW}{cx cy:Value}(p q:Operand)(hl:kj E op t x y A=.val v A')(hx:aQ μ x cx)(hy:aQ μ y cy):
 bw E base μ A w (do eqGuard op t p q cx cy;binOp op t cx cy) v A':=by
 unfold kj at hl;split at hl
 ·rename_i k a k' b;cases hx;cases hy;exact bw.bind (by cases op<;>rfl) (xe h hl)
 ·rename_i a b;cases hx;cases hy;exact bw.bind (by cases op<;>rfl) (xf h hl)
 ·rename_i a b;cases hx;cases hy;refine bw.bind (by cases op<;>rfl) ?_;have key:∀d,E.cf.get t=some d→d.desc=.bool→(Op.equal t (.bool a) (.bool b)).run E.P w=.ok (a == b) w:=fun d hd hdd=>by
   have hu:=(hE t d hd).cX w;unfold Op.equal Op.equalIn Op.maxDepth;rw[Sem.run_bind,hu,hdd];rfl
  split at hl
  ·split at hl
   ·rename_i d hd;split at hl
    ·rename_i hdd;obtain⟨rfl,rfl⟩:=eW hl;exact bw.same h (by simp only[binOp];rw[Sem.run_bind,key d hd hdd];rfl) (.bool _)
    ·cases hl
   ·cases hl
  ·split at hl
   ·rename_i d hd;split at hl
    ·rename_i hdd;obtain⟨rfl,rfl⟩:=eW hl;exact bw.same h (by simp only[binOp];rw[Sem.run_bind,key d hd hdd];rfl) (.bool _)
    ·cases hl
   ·cases hl
  ·cases hl
 ·split at hl
  ·rename_i k b hn;split at hl
   ·rename_i d hd;cases hk:Nat.beq (mV d.desc) k
    ·simp [hk] at hl
    ·simp only[hk,cond_true] at hl;obtain⟨h1,h2,h3,h4⟩:=xh (w:=w) hE hn hd (Nat.eq_of_beq_eq_true hk) hx hy;refine bw.bind (h4 op p q) ?_;split at hl
     ·obtain⟨rfl,rfl⟩:=eW hl;exact bw.same h (by rw[h2,Sem.run_bind,h1];rfl) (.bool _)
     ·obtain⟨rfl,rfl⟩:=eW hl;exact bw.same h (by rw[h3,Sem.run_bind,h1];rfl) (.bool _)
     ·cases hl
   ·cases hl
  ·split at hl
   ·rename_i a b ha hb;have e1:=sq ha hx;have e2:=sq hb hy;subst e1;subst e2;rw[vJ op t p q (sr ha)];exact bw.quiet h hl
   ·exact yH h p q hl hx hy
theorem Bz(h:Rel base μ A w){op:UnOp}{x v:AV}{A':AW}{cx:Value}(hl:unA E op x A=.val v A')(hx:aQ μ x cx): bw E base μ A w (Op.unary op cx) v A':=by
 unfold unA at hl;split at hl
 ·cases hx;obtain⟨rfl,rfl⟩:=eW hl;exact bw.same h rfl (.bool _)
 ·rename_i k n;cases hx;obtain⟨rfl,rfl⟩:=jx hl;rw[gJ,vI];exact bw.same h rfl (.int _ _)
 ·split at hl
  ·rename_i a ha;have e1:=sq ha hx;subst e1;exact bw.quiet h hl
  ·cases hl
theorem jy(hE:dS E)(h:Rel base μ A w){w1:World}(hs:ur w w1)(hh:w1.heap=w.heap){cs:List AV}{vs:List Value}(elem:TypeId)(es:Nat)(hr:bK μ cs vs)(h1:∀x∈cs,x.one=true)(rest:List Value):
 Step base μ A w (μ.put A.aa 0 ⟨w.heap.size,0,0,(vs++rest).length,es⟩) (gG A es cs) (w1.alloc (.cells (vs++rest).toArray elem)):=by
 have:=Step.newRow (es:=es) (ro:=false) (fz:=(0,0)) h hs hh elem (cs:=cs) (arr:=(vs++rest).toArray) (fun _=>rfl) (pu hr h1 rest);simpa [gG] using this
theorem xl(hE:dS E)(h:Rel base μ A w){t:TypeId}{d:bH}{z:List AV}(hd:E.cf.get t=some d)(hz:d.zero=some z):
 bw E base μ A w (Instr.alloc t true (.tuple #[])) (.ptr A.aa 0 0) (gG A (kO E d) z):=by
 have ht:=hE t d hd;obtain⟨zv,h1,h2,h3,_⟩:=ht.iF w hz μ;have hst:=jy hE h ⟨rfl,rfl,rfl⟩ rfl t (kO E d) h2 h3 [];refine⟨.pointer (some ⟨w.heap.size,0,none⟩),_,_,?_,.ptr (Mp.eC _ _ _ _) rfl,hst⟩;simp only[Instr.alloc,Sem.run_bind,h1,Result.andThen_ok,newVar,newRow,gi,Sem.run_pure,List.append_nil]
theorem BA(hE:dS E)(h:Rel base μ A w){t:TypeId}{d:bH}{x:AV}{cs:List AV}{cx:Value}(hx:aQ μ x cx)(hc:cellsOf x=some cs):
 bw E base μ A w (Instr.box t cx) (.ptr A.aa 0 0) (gG A (kO E d) cs):=by
 obtain⟨h2,h3⟩:=jW hx hc;have hst:=jy hE h ⟨rfl,rfl,rfl⟩ rfl t (kO E d) h2 h3 [];refine⟨.pointer (some ⟨w.heap.size,0,none⟩),_,_,?_,.ptr (Mp.eC _ _ _ _) rfl,hst⟩;simp only[Instr.box,Sem.run_bind,newVar,newRow,gi,Result.andThen_ok,Sem.run_pure,List.append_nil]
omit [bu] in
theorem ut(xs:List Value)(off:Nat): ∀(k:Nat) (cells:Array Value),
 ((xs.zipIdx k).foldl (fun cs (p:Value×Nat)=>cs.setIfInBounds (off+p.2) p.1) cells).toList=(xs.zipIdx k).foldl (fun (cs:List Value) (p:Value×Nat)=>cs.set (off+p.2) p.1) cells.toList:=by
 induction xs with
 | nil=>intro k cells;rfl
 | cons x xs ih=>intro k cells;simp only[List.zipIdx_cons,List.foldl_cons];rw[ih];simp
omit [bu] in
theorem uu(xs:List Value)(off:Nat): ∀(k:Nat) (l:List Value) (i:Nat),off+k+xs.length≤l.length→
 ((xs.zipIdx k).foldl (fun (cs:List Value) (p:Value×Nat)=>cs.set (off+p.2) p.1) l)[i]?=if off+k≤i∧i<off+k+xs.length then xs[i-(off+k)]? else l[i]?:=by
 induction xs with
 | nil=>intro k l i h;simp;omega
 | cons x xs ih=>
  intro k l i h;simp only[List.zipIdx_cons,List.foldl_cons];rw[ih (k+1) _ i (by simp at h ⊢;omega)];simp only[List.length_cons] at h ⊢;by_cases a:i=off+k
  ·subst a;rw[if_neg (by omega),if_pos (by omega),List.getElem?_set_self (by omega)];simp
  ·by_cases b:off+(k+1)≤i∧i<off+(k+1)+xs.length
   ·rw[if_pos b,if_pos (by omega)];have:i-(off+k)=(i-(off+(k+1)))+1:=by omega
    rw[this];simp
   ·rw[if_neg b,if_neg (by omega),List.getElem?_set_ne (by omega)]
theorem CK{μ:Mp}{off:Nat}{xs cs cs':List AV}{vs:List Value}{cells:Array Value}(hp:iL off xs cs=some cs')(hx:bK μ xs vs)(hc:bK μ cs cells.toList):
 bK μ cs' ((vs.zipIdx).foldl (fun cs (p:Value×Nat)=>cs.setIfInBounds (off+p.2) p.1) cells).toList:=by
 have hlen:=qg hp;obtain⟨hfit,_⟩:=mw _ _ _ _ hp;have h1:=hx.1;have h2:=hc.1;rw[ut];have hl:∀(k:Nat) (l:List Value),((vs.zipIdx k).foldl (fun (cs:List Value) (p:Value×Nat)=>cs.set (off+p.2) p.1) l).length=l.length:=by
  clear h1 hx
  induction vs with
  | nil=>intro k l;rfl
  | cons v vs ih=>intro k l;simp only[List.zipIdx_cons,List.foldl_cons];rw[ih];simp
 refine⟨by rw[hl,hlen,h2],fun i a b ha hb=>?_⟩;rw[uu vs off 0 _ i (by omega)] at hb;rw[sg hp] at ha;simp only[Nat.add_zero] at hb;by_cases c:off≤i∧i<off+xs.length
 ·rw[if_pos c] at ha;rw[if_pos (by omega)] at hb;exact hx.2 _ a b ha hb
 ·rw[if_neg c] at ha;rw[if_neg (by omega)] at hb;exact hc.2 _ a b ha hb
omit [bu] in
theorem CL{off:Nat}{xs cs cs':List AV}(hp:iL off xs cs=some cs')(hx:∀x∈xs,x.one=true)(hc:∀x∈cs,x.one=true): ∀x∈cs',x.one=true:=fun x hm=>by
 obtain⟨i,hi⟩:=List.mem_iff_getElem?.1 hm;rw[sg hp] at hi;split at hi
 ·exact hx _ (List.mem_of_getElem? hi)
 ·exact hc _ (List.mem_of_getElem? hi)
def BB(μ:Mp): List (Nat×AV)→List (Nat×Value)→Prop
 | [],[]=>True
 | (i,x)::l,(j,y)::r=>i=j∧aQ μ x y∧BB μ l r
 | _,_=>False
theorem jz{μ:Mp}{pl:Nat→Option (Nat×Nat)}{pl':Nat→Option (Nat×Nat)}(hpl:∀i q,pl i=some q→pl' i=some q): ∀{ps:List (Nat×AV)} {qs:List (Nat×Value)} {cs cs':List AV} {cells:Array Value},
 mW pl cs ps=some cs'→BB μ ps qs→bK μ cs cells.toList→(∀x∈cs,x.one=true)→
 ∃cells',Instr.fill pl' cells qs=some cells'∧bK μ cs' cells'.toList∧∀x∈cs',x.one=true
 | [],[],cs,cs',cells,h,_,hc,h1=>by simp only[mW,Option.some.injEq] at h;subst h;exact⟨cells,rfl,hc,h1⟩
 | [],_::_,_,_,_,_,hp,_,_=>hp.elim
 | (i,x)::ps,[],_,_,_,_,hp,_,_=>hp.elim
 | (i,x)::ps,(j,y)::qs,cs,cs',cells,h,hp,hc,h1=>by
  obtain⟨rfl,hxy,hp⟩:=hp;simp only[mW] at h;split at h
  ·rename_i off size xs hpi hxs;obtain⟨hr,ho⟩:=jW hxy hxs;cases hb:Nat.beq (len xs) size
   ·simp [hb] at h
   ·simp only[hb,cond_true] at h;have hsz:=Nat.eq_of_beq_eq_true hb;rw[ey] at hsz;split at h
    ·rename_i cs2 hput;obtain⟨hfit,_⟩:=mw _ _ _ _ hput;have e1:y.cells.size=xs.length:=by rw[hr.1];simp
     have e2:cells.size=cs.length:=by rw[hc.1];simp
     obtain⟨cells',a,b,c⟩:=jz hpl h hp (CK hput hr hc) (CL hput ho h1);refine⟨cells',?_,b,c⟩;simp only[Instr.fill,hpl i _ hpi];rw[if_neg (by simp;omega)];rw[←a]
     congr 1
     rw[←Array.foldl_toList,Array.toList_zipIdx]
    ·cases h
  ·cases h
omit [bu] in
theorem pA{pl:Nat→Option (Nat×Nat)}:∀{ps:List (Nat×AV)} {cs cs':List AV},mW pl cs ps=some cs'→cs'.length=cs.length
 | [],cs,cs',h=>by simp only[mW,Option.some.injEq] at h;subst h;rfl
 | (i,x)::ps,cs,cs',h=>by
  simp only[mW] at h;split at h
  ·rename_i off size xs _ _;cases hb:Nat.beq (len xs) size
   ·simp [hb] at h
   ·simp only[hb,cond_true] at h;split at h
    ·rename_i cs2 hput;rw[pA h,qg hput]
    ·cases h
  ·cases h
theorem kR{μ:Mp}{F:Fr}{ρ:Operand→Value}(hρ:∀x,aQ μ (ev F x) (ρ x)): ∀l:List (Nat×Operand),BB μ (fV F l) (l.map fun (i,x)=>(i,ρ x))
 | []=>trivial
 | (_,x)::l=>⟨rfl,hρ x,kR hρ l⟩
theorem mz{μ:Mp}{F:Fr}{ρ:Operand→Value}(hρ:∀x,aQ μ (ev F x) (ρ x)): ∀l:List Operand,bK μ (qH F l) (l.map ρ)
 | []=>bK.nil μ
 | x::l=>bK.cons (hρ x) (mz hρ l)
end
end Go.AE
