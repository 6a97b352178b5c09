/- A part of the proof of the statement CheckTypes. -/
import Derived.Test.YtafamggbkobcfaaGreatAiOps4
import Derived.Lib.ConvBytes
import Derived.Laws.BytesString
import Derived.Lib.AppendStr
namespace Go.AE
set_option linter.unusedVariables false
variable[bu]
section
variable{E:Env}{base:Nat}{μ:Mp}{A:AW}{w:World}
theorem jB(μ:Mp): ∀l:List UInt8,bK μ (gj (l.map UInt8.toNat)) (l.map fun b=>Value.int .u8 b.toNat)
 | []=>bK.nil μ
 | b::l=>bK.cons (.int _ _) (jB μ l)
omit [bu] in
theorem jC:∀(l:List Nat),∀x∈gj l,x.one=true
 | [],x,h=>by cases h
 | b::l,x,h=>by
  cases h with
  | head=>rfl
  | tail _ h=>exact jC l x h
omit [bu] in
theorem kT(hE:dS E){e:TypeId}(h:oz E e=true): E.P.underlying e=some (.int .u8)∧∃d,E.cf.get e=some d∧d.size=1:=by
 unfold oz at h;split at h
 ·rename_i d hd;split at h
  ·rename_i hdd;exact⟨by rw[(hE e d hd).yy,hdd],d,hd,Nat.eq_of_beq_eq_true h⟩
  ·cases h
 ·cases h
theorem qn{μ:Mp}:∀(cs:List AV) (r:List Nat) (vs:List Value),bytesOf cs=some r→bK μ cs vs→∃ns:List Int,vs=ns.map (Value.int .u8 ·)∧r=(ns.map fun n=>UInt8.ofNat n.toNat).map UInt8.toNat
 | [],r,vs,h,hr=>by
  simp only[bytesOf,Option.some.injEq] at h;subst h;exact⟨[],hr.fH,rfl⟩
 | c::cs,r,vs,h,hr=>by
  obtain⟨y,ys,rfl,h1,h2⟩:=hr.inv;cases h1<;>try (simp only[bytesOf,reduceCtorEq] at h;done)
  case int k n=>
   cases k<;>try (simp only[bytesOf,reduceCtorEq] at h;done)
   cases n with
   | negSucc n=>simp only[bytesOf,reduceCtorEq] at h
   | ofNat n=>
    simp only[bytesOf] at h;split at h
    ·rename_i r' hr';cases h;obtain⟨ns,e1,e2⟩:=qn cs r' ys hr' h2;refine⟨Int.ofNat n::ns,by rw[e1];rfl,?_⟩;rw[e2];simp only[List.map_cons,Int.ofNat_eq_natCast,Int.toNat_natCast,UInt8.toNat_ofNat'];rfl
    ·cases h
theorem qo{μ:Mp}:∀(cs:List AV) (vs:List Value),mr cs=true→bK μ cs vs→∃ns:List Int,vs=ns.map (Value.int .u8 ·)
 | [],vs,_,hr=>⟨[],hr.fH⟩
 | c::cs,vs,h,hr=>by
  obtain⟨y,ys,rfl,h1,h2⟩:=hr.inv;simp only[mr] at h;cases hb:isByte c<;>rw[hb] at h<;>simp only[cond_true,cond_false,Bool.false_eq_true] at h;obtain⟨ns,hn⟩:=qo cs ys h h2;have key:∃n:Int,y=.int .u8 n:=by
   cases h1<;>simp only[isByte,Bool.false_eq_true] at hb
   case int k n=>
    cases n with
    | ofNat n=>
     simp only[bt,decide_eq_true_eq] at hb;subst hb;exact⟨_,rfl⟩
    | negSucc n=>simp only[Bool.false_eq_true] at hb
   case gZ k _ _ _ _ _=>
    simp only[bt,decide_eq_true_eq] at hb;subst hb;exact⟨_,rfl⟩
   case bits k l=>
    simp only[bt,decide_eq_true_eq] at hb;subst hb;exact⟨_,rfl⟩
  obtain⟨n,rfl⟩:=key;exact⟨n::ns,by rw[hn];rfl⟩
theorem xq{k:IntKind}{x v:AV}{A':AW}{cx:Value}(hl:Av k x A=.val v A')(hx:aQ μ x cx):
 ∃k0 n,∃m:Nat,cx=.int k0 n∧k.wrap n=Int.ofNat m∧aQ μ v (.int k (Int.ofNat m))∧A'=A:=by
 unfold Av at hl;split at hl
 ·split at hl
  ·cases hl;cases hx with
   | rest _ hn he=>exact⟨_,_,_,rfl,IntWalk.i64_in _ (by simp only[Int.ofNat_eq_natCast];omega),.rest _ hn he,rfl⟩
  ·cases hl;cases hx with
   | ff _ hn he=>exact⟨_,_,_,rfl,IntWalk.i64_in _ (by simp only[Int.ofNat_eq_natCast];omega),.ff _ hn he,rfl⟩
  ·rename_i lo hi;simp only[Bool.cond_eq_ite,cT,decide_eq_true_eq] at hl;split at hl
   ·cases hl;cases hx with
    | gZ _ h1 h2=>exact⟨_,_,_,rfl,IntWalk.i64_in _ (by simp only[Int.ofNat_eq_natCast];omega),.gZ _ h1 h2,rfl⟩
   ·cases hl
  ·rename_i j lo hi;simp only[Bool.cond_eq_ite,cT,decide_eq_true_eq] at hl;split at hl
   ·cases hl;cases hx with
    | sym _ h1 h2=>exact⟨_,_,_,rfl,IntWalk.i64_in _ (by simp only[Int.ofNat_eq_natCast];omega),.sym _ h1 h2,rfl⟩
   ·cases hl
  ·rename_i l;simp only[Bool.cond_eq_ite,cT,decide_eq_true_eq] at hl;split at hl
   ·rename_i hlen;cases hl;cases hx;have hb:=px l;exact⟨_,_,_,rfl,IntWalk.i64_in _ (by simp only[Int.ofNat_eq_natCast];omega),cR _ _ _,rfl⟩
   ·cases hl
  ·cases hl;cases hx with
   | least _ h1 h2=>exact⟨_,_,_,rfl,IntWalk.i64_in _ (by simp only[Int.ofNat_eq_natCast];omega),.least _ h1 h2,rfl⟩
  ·cases hl
 ·split at hl
  ·cases hl;cases hx with
   | ff _ hn he=>exact⟨_,_,_,rfl,IntWalk.u8_in _ (by simp only[Int.ofNat_eq_natCast];omega),.ff _ hn he,rfl⟩
  ·rename_i lo hi;simp only[Bool.cond_eq_ite,cT,decide_eq_true_eq] at hl;split at hl
   ·cases hl;cases hx with
    | gZ _ h1 h2=>exact⟨_,_,_,rfl,IntWalk.u8_in _ (by simp only[Int.ofNat_eq_natCast];omega),.gZ _ h1 h2,rfl⟩
   ·cases hl;cases hx with
    | gZ _ h1 h2=>
     rename_i n;refine⟨_,.ofNat n,n % 256,rfl,?_,.gZ _ (Nat.zero_le _) (by omega),rfl⟩;simp [IntKind.wrap,IntKind.signed,IntKind.bits]
  ·rename_i l;cases hl;cases hx;refine⟨_,.ofNat (aP l),aP (gY 8 l),rfl,?_,cR _ _ _,rfl⟩;rw[ie];simp [IntKind.wrap,IntKind.signed,IntKind.bits]
  ·cases hl
 ·split at hl
  ·rename_i lo hi;simp only[Bool.cond_eq_ite,cT,decide_eq_true_eq] at hl;split at hl
   ·cases hl;cases hx with
    | gZ _ h1 h2=>exact⟨_,_,_,rfl,IntWalk.u64_in _ (by simp only[Int.ofNat_eq_natCast];omega),.gZ _ h1 h2,rfl⟩
   ·cases hl
  ·rename_i l;simp only[Bool.cond_eq_ite,cT,decide_eq_true_eq] at hl;split at hl
   ·rename_i hlen;cases hl;cases hx;have hb:=dm hlen;exact⟨_,.ofNat (aP l),_,rfl,IntWalk.u64_in _ (by simp only[Int.ofNat_eq_natCast];omega),cR _ _ _,rfl⟩
   ·cases hl
  ·cases hl;cases hx with
   | least _ h1 h2=>exact⟨_,.ofNat _,_,rfl,IntWalk.u64_in _ (by simp only[Int.ofNat_eq_natCast];omega),.least _ h1 h2,rfl⟩
  ·rename_i l;simp only[Bool.cond_eq_ite,cT,decide_eq_true_eq] at hl;split at hl
   ·rename_i hlen;cases hl;cases hx;have hc:=lU (lH 64 l);rw[kC,lT _ _ hlen] at hc;have hb:=dm hlen;refine⟨_,.negSucc (aP l),aP (ot (lH 64 l)),rfl,?_,cR _ _ _,rfl⟩;rw[vK];simp only[Int.ofNat_eq_natCast];omega
   ·cases hl
  ·cases hl
 ·cases hl
theorem uw (hE : dS E) (h : Rel base μ A w) {s t : TypeId} {x v : AV} {A' : AW} {cx : Value} (hl : fZ E s t x A = .val v A') (hx : aQ μ x cx) : bw E base μ A w (convert s t cx) v A' := by
  unfold fZ at hl;split at hl
  · rename_i ds dd hds hdd
    have hs := (hE s ds hds).cX w;have ht := (hE t dd hdd).cX w;split at hl
    · rename_i k k' n hk
      cases hx;obtain ⟨rfl, rfl⟩ := jx hl;rw [gJ];refine bw.same h (cv := .int k (k.wrap n)) ?_ (.int _ _);simp only [convert, Sem.run_bind, hs, ht, Result.andThen_ok, hk];rfl
    · rename_i l hk
      cases hx;cases hl;refine bw.same h (cv := .string _) ?_ (.str _);simp only [convert, Sem.run_bind, hs, ht, Result.andThen_ok, hk];cases ds.desc <;> rfl
    · rename_i e l hk
      cases hb : oz E e <;> rw [hb] at hl <;> simp only [cond_true, cond_false] at hl <;> cases hl;obtain ⟨u1, d, u2, u3⟩ := kT hE hb;cases hx with
      | str b =>
        have hbs : b.data.toList.length = b.size := by rw [Array.length_toList]; rfl
        have hge : b.size ≤ grownCap w b.size 0 e := grownCap_ge w b.size 0 e;have hsz : (Lib.bytesCells w e b).size = grownCap w b.size 0 e := by
          unfold Lib.bytesCells;rw [Array.size_append, Array.size_map, Array.size_replicate];have : b.data.size = b.size := rfl;omega
        have hrel : ∀ (i : Nat) v, (gj (b.data.toList.map UInt8.toNat))[i]? = some v → v.one = true ∧ ∃ cv, (Lib.bytesCells w e b)[i]? = some cv ∧ aQ μ v cv := fun i v hv => by
          have := pu (jB μ b.data.toList) (jC _) (List.replicate (grownCap w b.size 0 e - b.size) (Value.int .u8 0)) i v hv;have e : (b.data.toList.map (fun b => Value.int .u8 b.toNat) ++ List.replicate (grownCap w b.size 0 e - b.size) (Value.int .u8 0)).toArray = Lib.bytesCells w e b := by
            apply Array.ext';simp [Lib.bytesCells]
          rw [e] at this;exact this
        have hstep := Step.new (w1 := Lib.bytesWorld w e b) h (.cells 0 true 1 (gj (b.data.toList.map UInt8.toNat))) ⟨w.heap.size, 0, 0, (Lib.bytesCells w e b).size, 1⟩ ⟨rfl, rfl, rfl⟩ rfl (Lib.bytesWorld_size w e b)
          (fun j hj => Lib.bytesWorld_at_old w e b j hj) rfl ⟨_, _, _, Lib.bytesWorld_at_new w e b, rfl, rfl, (fun e => by cases e), fun i v hv _ => by simpa using hrel i v hv⟩
        refine ⟨.slice (some ⟨w.heap.size, 0, none⟩) b.size (grownCap w b.size 0 e), _, _, Lib.run_convert_string_bytes w s t e b (hE s ds hds).yy (by rw [(hE t dd hdd).yy, hk]) u1, ?_, hstep⟩;have hn : len (b.data.toList.map UInt8.toNat) = b.size := by rw [ey, List.length_map, hbs]
        rw [hn];refine .slice (p := ⟨w.heap.size, 0, 0, (Lib.bytesCells w e b).size, 1⟩) (off := 0) (cap := grownCap w b.size 0 e) (Mp.eC _ _ _ _) rfl (Nat.le_refl _) hge (fun e => by cases e) ?_;show 0 + _ * 1 ≤ (Lib.bytesCells w e b).size;omega
    · rename_i hk
      split at hl
      · rename_i e hds'
        cases hb : oz E e <;> rw [hb] at hl <;> simp only [cond_true, cond_false] at hl <;> cases hl;obtain ⟨u1, d, u2, u3⟩ := kT hE hb;cases hx;have e0 := run_convert_bytes_string (P := E.P) w s t e none 0 0 (by rw [(hE s ds hds).yy, hds']) u1 (by rw [(hE t dd hdd).yy, hk]);refine bw.same h (cv := .string .empty) (by rw [e0]; rfl) ?_;exact .str ByteArray.empty
      · cases hl
    · rename_i z hk
      split at hl
      · rename_i e hds'
        cases hb : oz E e <;> rw [hb] at hl <;> simp only [cond_true, cond_false] at hl <;> cases hl;obtain ⟨u1, d, u2, u3⟩ := kT hE hb;cases hx with
        | emp a hz =>
          rename_i cap;have e0 := run_convert_bytes_string (P := E.P) w s t e (some a) 0 cap (by rw [(hE s ds hds).yy, hds']) u1 (by rw [(hE t dd hdd).yy, hk]);refine bw.same h (cv := .string .empty) (by rw [e0]; rfl) ?_;exact .str ByteArray.empty
      · cases hl
    · rename_i f u o n c ex hk
      split at hl
      · rename_i e hds'
        cases hb : oz E e <;> rw [hb] at hl <;> simp only [cond_true, cond_false] at hl
        · cases hl
        · obtain ⟨u1, d, u2, u3⟩ := kT hE hb
          split at hl
          · rename_i cs hcs
            split at hl
            · rename_i r hr
              cases hl;cases hx with
              | slice hp he hn hc hxx hrr =>
                rename_i p off cap;obtain ⟨cvs, c1, c2, c3, c4⟩ := kB h hcs hp he;obtain ⟨ns, d1, d2⟩ := qn cs r cvs hr c1;have e0 := run_convert_bytes_string (P := E.P) w s t e (some ⟨p.c, off, none⟩) n cap (by rw [(hE s ds hds).yy, hds']) u1 (by rw [(hE t dd hdd).yy, hk]);have e1 := run_loadCells_list (P := E.P) w _ cvs c4;rw [c2, d1] at e1;have e2 := run_bytesToString (P := E.P) w ⟨p.c, off, none⟩ n cap ns e1;have e3 : ∀ (ns : List Int) (b : ByteArray), (ns.foldl (fun r n => r.push (UInt8.ofNat n.toNat)) b).data.toList = b.data.toList ++ ns.map fun n => UInt8.ofNat n.toNat := fun ns => by
                  induction ns with
                  | nil => intro b; simp
                  | cons n ns ih => intro b; simp only [List.foldl_cons]; rw [ih]; simp [ByteArray.push]
                refine bw.same h (cv := .string _) (by rw [e0]; exact e2) ?_;rw [d2];have e4 := e3 ns ByteArray.empty;rw [show ByteArray.empty.data.toList = [] from rfl, List.nil_append] at e4;rw [← e4];exact .str _
            · cases ha : mr cs <;> rw [ha] at hl <;> simp only [cond_true, cond_false, reduceCtorEq] at hl
              cases hl;cases hx with
              | slice hp he hn hc hxx hrr =>
                rename_i p off cap;obtain ⟨cvs, c1, c2, c3, c4⟩ := kB h hcs hp he;obtain ⟨ns, d1⟩ := qo cs cvs ha c1;have e0 := run_convert_bytes_string (P := E.P) w s t e (some ⟨p.c, off, none⟩) n cap (by rw [(hE s ds hds).yy, hds']) u1 (by rw [(hE t dd hdd).yy, hk]);have e1 := run_loadCells_list (P := E.P) w _ cvs c4;have hlen : ns.length = n := by
                  have := c2;rw [d1, List.length_map] at this;exact this
                rw [c2, d1] at e1;have e2 := run_bytesToString (P := E.P) w ⟨p.c, off, none⟩ n cap ns e1;have e3 : ∀ (ns : List Int) (b : ByteArray), (ns.foldl (fun r n => r.push (UInt8.ofNat n.toNat)) b).size = b.size + ns.length := fun ns => by
                  induction ns with
                  | nil => intro b; simp
                  | cons n ns ih =>
                    intro b;simp only [List.foldl_cons, List.length_cons];rw [ih, ByteArray.size_push];omega
                have e4 := e3 ns ByteArray.empty;have e5 : ByteArray.empty.size = 0 := rfl;refine bw.same h (cv := .string _) (by rw [e0]; exact e2) (.lB ?_ ?_) <;> omega
          · cases hl
      · cases hl
    · rename_i k k' n hk
      cases hx;cases hl;refine bw.same h (cv := .float k (k.nearest n)) ?_ (.float _ _);simp only [convert, Sem.run_bind, hs, ht, Result.andThen_ok, hk];rfl
    · unfold wW at hl
      generalize hk : dd.desc = d0 at hl;split at hl
      · rename_i k
        obtain ⟨k0, n, m, rfl, e1, e2, rfl⟩ := xq hl hx;refine bw.same h (cv := .int k (Int.ofNat m)) ?_ e2;have hc : Conv.intToInt k n = pure (.int k (k.wrap n)) := rfl;rw [e1] at hc;simp only [convert, Sem.run_bind, Result.andThen_ok, *];rfl
      · cases hl
  · cases hl
theorem BC(hE:dS E)(h:Rel base μ A w){t:TypeId}{x v:AV}{A':AW}{cx:Value}(hl:eo E t x A=.val v A')(hx:aQ μ x cx)(ts:Array TypeId)(ty:TypeId)(args:Array Value)
 (hts:ts[0]?=some t) (hargs:args[0]?=some cx) : bw E base μ A w (Builtin.len_ ts ty args) v A':=by
 unfold eo at hl;split at hl
 ·rename_i d hd;have ht:=(hE t d hd).cX w;split at hl
  ·rename_i l hk;cases hx with
   | str s=>
    cases hl;refine bw.same h (cv:=goInt s.size) ?_ ?_
    ·simp only[Builtin.len_,hts,hargs,Sem.run_bind,ht,hk,Result.andThen_ok];rfl
    ·rw[ey,List.length_map,Array.length_toList];exact .int _ _
  ·rename_i lo hi hk;cases hx with
   | lB h1 h2=>
    rename_i b;have hr:(Builtin.len_ ts ty args).run E.P w=.ok (goInt b.size) w:=by
     simp only[Builtin.len_,hts,hargs,Sem.run_bind,ht,hk,Result.andThen_ok];rfl
    cases hb:Nat.beq lo hi<;>rw[hb] at hl<;>simp only[cond_true,cond_false] at hl<;>cases hl
    ·exact bw.same h hr (.gZ _ h1 h2)
    ·have:=Nat.eq_of_beq_eq_true hb;have e:b.size=lo:=by omega
     refine bw.same h hr ?_;rw[e];exact .int _ _
  ·rename_i n e hk;cases hl;refine bw.same h (cv:=goInt n) ?_ (.int _ _);simp only[Builtin.len_,hts,hargs,Sem.run_bind,ht,hk,Result.andThen_ok];rfl
  ·rename_i e f s o n c ex hk;cases hx;cases hl;refine bw.same h (cv:=goInt n) ?_ (.int _ _);simp only[Builtin.len_,hts,hargs,Sem.run_bind,ht,hk,Result.andThen_ok];rfl
  ·rename_i e hk;cases hx;cases hl;refine bw.same h (cv:=goInt 0) ?_ (.int _ _);simp only[Builtin.len_,hts,hargs,Sem.run_bind,ht,hk,Result.andThen_ok];rfl
  ·rename_i e z hk;cases hx;cases hl;refine bw.same h (cv:=goInt 0) ?_ (.int _ _);simp only[Builtin.len_,hts,hargs,Sem.run_bind,ht,hk,Result.andThen_ok];rfl
  ·rename_i e z hk;cases hx;cases hl;refine bw.same h (cv:=goInt 0) ?_ (.int _ _);simp only[Builtin.len_,hts,hargs,Sem.run_bind,ht,hk,Result.andThen_ok];rfl
  ·rename_i e z f hk;split at hl
   ·rename_i es hF;cases hl;cases hx with
    | map hp=>
     rename_i p;obtain⟨ents,clock,a1,a2,a3⟩:=h.yC f _ p hF hp;refine bw.same h (cv:=goInt ents.size) ?_ (by rw[ey,a2];exact .int _ _);have hg:(getObj p.c).run E.P w=.ok (.map ents clock) w:=by simp [getObj,Sem.run,a1]
     simp only[Builtin.len_,hts,hargs,Sem.run_bind,ht,hk,Result.andThen_ok,hg];rfl
   ·cases hl
  ·cases hl
 ·cases hl
omit [bu] in
theorem oK:∀(n:Nat),∀a∈lP n,a.one=true
 | 0,a,h=>by cases h
 | n+1,a,h=>by
  simp only[lP,List.mem_cons] at h;rcases h with rfl|h
  ·rfl
  ·exact oK n a h
theorem oL(μ:Mp): ∀(l:List UInt8),bK μ (lP l.length) (l.map fun b=>Value.int .u8 b.toNat)
 | []=>bK.nil μ
 | b::l=>bK.cons (.gZ .u8 (Nat.zero_le _) (by have:=b.toNat_lt;omega)) (oL μ l)
theorem BD(h:Rel base μ A w){size m:Nat}{xs:List AV}{x:AV}{cx:Value}(hs:kl A size x=some (m,xs))(hx:aQ μ x cx):
 ∃vs:List Value,bK μ xs vs∧(∀a∈xs,a.one=true)∧vs.length=m*size∧(∀w',(Builtin.lenOf cx).run E.P w'=.ok m w')∧∀w',w'.heap=w.heap→(Builtin.firstCells size m cx).run E.P w'=.ok vs.toArray w':=by
 unfold kl at hs;split at hs
 ·cases hx;simp only[Option.some.injEq,Prod.mk.injEq] at hs;obtain⟨rfl,rfl⟩:=hs;exact⟨[],bK.nil μ,by simp,by simp,fun _=>rfl,fun _ _=>rfl⟩
 ·cases hx with
  | emp a hz=>
   simp only[Option.some.injEq,Prod.mk.injEq] at hs;obtain⟨rfl,rfl⟩:=hs;refine⟨[],bK.nil μ,by simp,by simp,fun _=>rfl,fun w' _=>?_⟩;have:=run_firstCells_some (P:=E.P) w' size 0 a 0 0 [] (by simp) (by simp);simp only[Builtin.firstCells] at this ⊢;exact this
 ·rename_i f u o n c ex;split at hs
  ·rename_i cs hcs;simp only[Option.some.injEq,Prod.mk.injEq] at hs;obtain⟨rfl,rfl⟩:=hs;cases hx with
   | slice hp he hn hc hxx hr=>
    rename_i p off cap;obtain⟨cvs,c1,c2,c3,c4⟩:=kB h hcs hp he;refine⟨cvs,c1,c3,c2,fun _=>rfl,fun w' hw=>?_⟩;exact run_firstCells_some (P:=E.P) w' size n ⟨p.c,off,none⟩ n cap cvs c2 (fun j v hv=>by have:=c4 j v hv;simpa [World.cell?,hw] using this)
  ·cases hs
 ·rename_i l;cases hb:Nat.beq size 1<;>rw[hb] at hs<;>simp only[cond_true,cond_false,reduceCtorEq] at hs;have h1:=Nat.eq_of_beq_eq_true hb;simp only[Option.some.injEq,Prod.mk.injEq] at hs;obtain⟨rfl,rfl⟩:=hs;subst h1;cases hx with
  | str s=>
   have hb:s.data.toList.length=s.size:=by rw[Array.length_toList];rfl
   refine⟨s.data.toList.map fun b=>Value.int .u8 b.toNat,jB μ _,jC _,by simp [ey],fun _=>?_,fun w' _=>?_⟩
   ·rw[ey,List.length_map,hb];rfl
   ·rw[ey,List.length_map,hb];have:=Lib.run_firstCells_string (P:=E.P) w' 1 s;rw[this];rfl
 ·rename_i lo hi;cases hb:(Nat.beq size 1 && Nat.beq lo hi)<;>rw[hb] at hs<;>simp only[cond_true,cond_false,reduceCtorEq] at hs;simp only[Bool.and_eq_true,beq_eq,decide_eq_true_eq] at hb;obtain⟨rfl,rfl⟩:=hb;simp only[Option.some.injEq,Prod.mk.injEq] at hs;obtain⟨rfl,rfl⟩:=hs;cases hx with
  | lB h1 h2=>
   rename_i s;have hb:s.data.toList.length=s.size:=by rw[Array.length_toList];rfl
   have hlo:s.size=lo:=by omega
   subst hlo;refine⟨s.data.toList.map fun b=>Value.int .u8 b.toNat,?_,oK _,by simp [hb],fun _=>rfl,fun w' _=>?_⟩
   ·have:=oL μ s.data.toList;rw[hb] at this;exact this
   ·have:=Lib.run_firstCells_string (P:=E.P) w' 1 s;rw[this];rfl
 ·cases hs
section
variable{t t' e ty:TypeId}{d d' de:bH}{m:Nat}{xs:List AV}{vs:List Value}{cx:Value}
omit [bu] in
theorem lV{P:Program}{w w1:World}{i:TypeInfo}{k:TypeDesc}(hu:P.underlying t=some (.slice e))(hu':P.underlying t'=some k)(hk:(∃e,k=.slice e)∨k=.string)(hi:P.info? e=some i)
 (hlen:∀w',(Builtin.lenOf cx).run P w'=.ok m w') (hfc:(Builtin.firstCells i.size m cx).run P w=.ok vs.toArray w)
 {a:Option Addr} {n cap:Nat} (hroom:n+m≤cap) (hst:match a with
  | some ad=>(storeCells (ad.add (n*i.size)) vs).run P w=.ok () w1
  | none=>w1=w) :
 (Builtin.append_ #[t,t'] ty #[.slice a n cap,cx]).run P w=.ok (.slice a (n+m) cap) w1:=by
 rcases hk with ⟨e',rfl⟩|rfl
 ·cases a with
  | none=>
   simp only at hst;subst hst;simp [Builtin.append_,run_underlying hu,run_underlying hu',sizeOf,typeInfo,hi,hlen,hroom,hfc]
  | some ad=>simp [Builtin.append_,run_underlying hu,run_underlying hu',sizeOf,typeInfo,hi,hlen,hroom,hfc,hst]
 ·cases a with
  | none=>
   simp only at hst;subst hst;simp [Builtin.append_,run_underlying hu,run_underlying hu',sizeOf,typeInfo,hi,hlen,hroom,hfc]
  | some ad=>simp [Builtin.append_,run_underlying hu,run_underlying hu',sizeOf,typeInfo,hi,hlen,hroom,hfc,hst]
omit [bu] in
theorem qp{P:Program}{w:World}{i:TypeInfo}{z:Value}{k:TypeDesc}(hu:P.underlying t=some (.slice e))(hu':P.underlying t'=some k)(hk:(∃e,k=.slice e)∨k=.string)(hi:P.info? e=some i)(hz:i.zero=some z)
 (hlen:∀w',(Builtin.lenOf cx).run P w'=.ok m w') (hfc:∀w',w'.heap=w.heap→(Builtin.firstCells i.size m cx).run P w'=.ok vs.toArray w')
 {a:Option Addr} {n cap:Nat} {olds:List Value} (hold:∀w',w'.heap=w.heap→(Builtin.firstCells i.size n (.slice a n cap)).run P w'=.ok olds.toArray w')
 (hg:cap<n+m) (h63:((n+m:Nat) : Int)≤9223372036854775807) (hfit:Builtin.nextslicecap (n+m) cap*i.bytes≤281474976710656) :
 (Builtin.append_ #[t,t'] ty #[.slice a n cap,cx]).run P w=.ok (.slice (some ⟨w.heap.size,0,none⟩) (n+m) (grownCap w (n+m) cap e))
  (w.drew.alloc (.cells (olds++vs++(Builtin.zeroCells z.cells (grownCap w (n+m) cap e-(n+m))).toList).toArray e)):=by
 have hn:¬(n+m≤cap):=by omega
 have h63':¬(9223372036854775807<((n:Int)+(m:Int))):=by omega
 have h48':¬(281474976710656<Builtin.nextslicecap (n+m) cap*i.bytes):=by omega
 have hf:=hfc w.drew rfl;have ho:=hold w.drew rfl;rcases hk with ⟨e',rfl⟩|rfl<;>
  (simp [Builtin.append_,run_underlying hu,run_underlying hu',sizeOf,typeInfo,zeroValue,hi,hz,hlen,hn,h63',h48',Question.forced,hf,ho,newRow,grownCap]
   congr 2
   apply Array.ext';simp)
omit [bu] in
theorem sE{n bytes:Nat}(h:eL n bytes=true): ((n:Nat) : Int)≤9223372036854775807∧n*bytes≤140737488355328:=by
 unfold eL ju at h;simp only[Bool.and_eq_true] at h;have h1:n≤70368744177664:=Nat.le_of_ble_eq_true h.1;have h2:n*bytes≤70368744177664:=Nat.le_of_ble_eq_true h.2;omega
theorem xr{μ:Mp}{f c n cap es sz:Nat}(hn:n≤cap)(hm:cap*es≤sz): aQ (μ.put f 0 ⟨c,0,0,sz,es⟩) (.slice f 0 0 n n false) (.slice (some ⟨c,0,none⟩) n cap):=
 .slice (Mp.eC _ _ _ _) rfl (Nat.le_refl _) hn (fun e=>by cases e) (by simpa using hm)
omit [bu] in
theorem mZ(z:Array Value)(n:Nat): (Builtin.zeroCells z n).toList.length=n*z.size:=by simp [Builtin.zeroCells]
theorem oO(hE:dS E)(h:Rel base μ A w){s x v:AV}{A':AW}{cs:Value}(hl:dP E t s x A=.val v A')(hd':E.cf.get t'=some d')(hk:(∃e,d'.desc=.slice e)∨d'.desc=.string)
 (hs:aQ μ s cs) (hx:aQ μ x cx) : bw E base μ A w (Builtin.append_ #[t,t'] ty #[cs,cx]) v A':=by
 have hu':=(hE t' d' hd').yy;unfold dP at hl;split at hl
 ·rename_i d hd;split at hl
  ·rename_i e hdd;have hu:E.P.underlying t=some (.slice e):=by rw[(hE t d hd).yy,hdd]
   split at hl
   ·rename_i de hde;split at hl
    ·rename_i z0 m xs hz hsrc;have hte:=hE e de hde;obtain⟨i,hi,hisz,hiby,hzz⟩:=hte.info;obtain⟨zv,z1,z2,z3,_,z4⟩:=hzz z0 hz;have hzs:zv.cells.size=de.size:=by rw[←z3,z2];simp
     obtain⟨vs,r1,r2,r3,r4,r5⟩:=BD (E:=E) h hsrc hx;rw[←hisz] at r5
     have fresh:∀(a:Option Addr) (n cap:Nat) (old:List AV) (olds:List Value),bK μ old olds→(∀y∈old,y.one=true)→olds.length=n*de.size→cs=.slice a n cap→cap<n+m→eL (n+m) de.bytes=true→
      (∀w',w'.heap=w.heap→(Builtin.firstCells i.size n (.slice a n cap)).run E.P w'=.ok olds.toArray w')→
      bw E base μ A w (Builtin.append_ #[t,t'] ty #[cs,cx]) (.slice A.aa 0 0 (n+m) (n+m) false) (gG A de.size (old++xs)):=by
      intro a n cap old olds o1 o2 o3 hcs hcap hroom hfo;subst hcs;obtain⟨q1,q2⟩:=sE hroom;have hrun:=qp (ty:=ty) hu hu' hk hi z1 r4 r5 hfo hcap q1 (by rw[hiby];exact growslice_fits hcap q2);have hst:=jy hE h (w1:=w.drew) ⟨rfl,rfl,rfl⟩ rfl e de.size (o1.append r1) (fun y hy=>by
       rcases List.mem_append.1 hy with hy|hy
       ·exact o2 y hy
       ·exact r2 y hy) (Builtin.zeroCells zv.cells (grownCap w (n+m) cap e-(n+m))).toList
      have hge:=grownCap_ge w (n+m) cap e;refine⟨_,_,_,hrun,xr hge ?_,hst⟩;simp only[List.length_append,mZ,hzs,o3,r3];have:grownCap w (n+m) cap e=n+m+(grownCap w (n+m) cap e-(n+m)):=by omega
      rw[this,Nat.add_mul,Nat.add_mul];have e0:n+m+(grownCap w (n+m) cap e-(n+m))-(n+m)=grownCap w (n+m) cap e-(n+m):=by omega
      rw[e0];exact Nat.le_refl _
     cases hm:Nat.beq m 0
     ·rw[hm] at hl;have hm0:m≠0:=fun e=>by subst e;cases hm
      cases h1:Nat.ble 1 de.size
      ·rw[h1] at hl;cases hl
      ·rw[h1] at hl;have hpos:1≤de.size:=Nat.le_of_ble_eq_true h1;have hxpos:0<xs.length:=by
        rw[r1.1,r3];exact Nat.mul_pos (by omega) hpos
       simp only[cond_true,cond_false] at hl;split at hl
       ·cases hs;unfold ia at hl;cases hr:eL m de.bytes<;>rw[hr] at hl<;>simp only[cond_true,cond_false,reduceCtorEq] at hl;cases hl;have:=fresh none 0 0 [] [] (bK.nil μ) (by simp) (by simp) rfl (by omega) (by simpa using hr) (fun w' hw=>rfl);simpa using this
       ·cases hs with
        | emp a hz0=>
         have hc0:=hz0 rfl;subst hc0;unfold ia at hl;cases hr:eL m de.bytes<;>rw[hr] at hl<;>simp only[cond_true,cond_false,reduceCtorEq] at hl;cases hl;have:=fresh (some a) 0 0 [] [] (bK.nil μ) (by simp) (by simp) rfl (by omega) (by simpa using hr) (fun w' hw=>by
          have:=run_firstCells_some (P:=E.P) w' i.size 0 a 0 0 [] (by simp) (by simp);simpa using this)
         simpa using this
       ·rename_i f u o n c ex;cases hs with
        | slice hp he hn hc hxx hrr=>
         rename_i p off cap;unfold gr at hl;split at hl
         ·rename_i cur ro es' cs0 hF;cases hb:(Nat.beq cur u && Nat.beq es' de.size)<;>rw[hb] at hl<;>simp only[cond_true,cond_false,reduceCtorEq] at hl;simp only[Bool.and_eq_true] at hb;have b1:=Nat.eq_of_beq_eq_true hb.1;have b2:=Nat.eq_of_beq_eq_true hb.2;subst b1;subst b2;have hcon:=h.yC f _ p hF hp;obtain⟨arr,elem,fz,a1,a2,a3,a4,a5⟩:=hcon;have inplace:∀cs1,ro=false→iL (Nat.add o (Nat.mul n de.size)) xs cs0=some cs1→n+m≤cap→
           ∃w1,(Builtin.append_ #[t,t'] ty #[.slice (some ⟨p.c,off,none⟩) n cap,cx]).run E.P w=.ok (.slice (some ⟨p.c,off,none⟩) (n+m) cap) w1∧Step base μ A w (μ.put f cur p) ⟨A.heap.set f (.cells cur false de.size cs1),A.aa⟩ w1:=by
           intro cs1 hro hput hroom;subst hro;obtain⟨w1,s1,s2⟩:=uH (E:=E) (o:=o+n*de.size) (off:=off+n*de.size) h hF hp (by omega) r1 r2 hput hxpos;refine⟨w1,lV (w1:=w1) (ty:=ty) hu hu' hk hi r4 (r5 w rfl) hroom ?_,s2⟩;simp only[Addr.add_lit,hisz];exact s1
          cases hfit:Nat.ble (Nat.add n m) c
          ·rw[hfit] at hl;have hnc:¬n+m≤c:=fun hle=>by rw[show Nat.ble (Nat.add n m) c=true from Nat.ble_eq_true_of_le hle] at hfit;cases hfit
           simp only[cond_false] at hl;cases hr:eL (Nat.add n m) de.bytes<;>rw[hr] at hl<;>simp only[cond_true,cond_false,reduceCtorEq] at hl;cases hex:ex
           ·subst hex;simp only[cond_false] at hl;cases hro:ro<;>rw[hro] at hl<;>simp only[cond_true,cond_false,reduceCtorEq] at hl;subst hro;split at hl
            ·rename_i old hold;cases hl;obtain⟨q1,q2⟩:=eA _ _ _ hold;by_cases hroom:n+m≤cap
             ·have hfz:=a4 rfl;subst hfz;have hvone:∀v∈vs,v.oneCell'=true:=fun v hv=>by
               obtain⟨j,hj⟩:=List.mem_iff_getElem?.1 hv;have hlt:j<xs.length:=by rw[r1.1];rcases Nat.lt_or_ge j vs.length with h|h;exact h;rw[List.getElem?_eq_none h] at hj;cases hj
               have hxj:xs[j]?=some xs[j]:=List.getElem?_eq_getElem hlt;exact (r1.2 j _ v hxj hj).one (r2 _ (List.mem_of_getElem? hxj))
              have hxl:=r1.1;have hmul:n*de.size+m*de.size≤cap*de.size:=by rw[←Nat.add_mul];exact Nat.mul_le_mul_right _ hroom
              rw[a3] at hrr;have hfit2:off+n*de.size+0+vs.length≤arr.size:=by omega
              have hrun:=run_storeCells_at E.P p.c (off+n*de.size) elem vs 0 arr w a1 hfit2 hvone;have happ:=lV (ty:=ty) (a:=some ⟨p.c,off,none⟩) hu hu' hk hi r4 (r5 w rfl) hroom (by simp only[Addr.add_lit,hisz];exact hrun);refine⟨_,_,_,happ,?_,Step.write (F':=.cells (Nat.succ cur) false de.size (old++xs)) (w1:=w.setRow p.c (arr.toList.take (off+n*de.size+0)++vs++arr.toList.drop (off+n*de.size+0+vs.length)).toArray)
               h hF rfl hp rfl (.inr rfl) ⟨rfl,rfl,rfl⟩ (by simp) (fun b hb=>setRow_other w p.c b _ hb) ?_⟩
              ·exact .slice (p:=p) (off:=off) (cap:=cap) (Mp.eC _ _ _ _) he (Nat.le_refl _) hroom (fun e=>by cases e) (by rw[a3];exact hrr)
              ·refine⟨_,elem,(0,0),setRow_heap w p.c arr _ elem _ a1,?_,a3,fun _=>rfl,fun j v hv hdn=>?_⟩
               ·simp only[List.size_toArray,List.length_append,List.length_take,List.length_drop,Array.length_toList];omega
               ·simp only[List.getElem?_toArray,Nat.add_zero];by_cases hlo:j<old.length
                ·rw[List.getElem?_append_left hlo] at hv;have hv':cs0[j]?=some v:=by
                  rw[q1] at hv;rw[List.getElem?_take] at hv;split at hv
                  ·exact hv
                  ·cases hv
                 obtain⟨ho,cv,c1,c2⟩:=a5 j v hv' hdn;refine⟨ho,cv,?_,c2⟩;have hjl:j<o+n*de.size:=by rw[q2] at hlo;exact hlo
                 have c1':arr.toList[j+p.up-p.down]?=some cv:=by simpa using c1
                 rw[List.append_assoc,List.getElem?_append_left (by simp;omega),List.getElem?_take_of_lt (by omega)];exact c1'
                ·rw[List.getElem?_append_right (by omega)] at hv;have hjl:o+n*de.size≤j:=by rw[q2] at hlo;exact Nat.le_of_not_lt hlo
                 obtain⟨y,hy,hr2⟩:=r1.get hv;have hylt:j-old.length<vs.length:=by rcases Nat.lt_or_ge (j-old.length) vs.length with h|h;exact h;rw[List.getElem?_eq_none h] at hy;cases hy
                 refine⟨r2 v (List.mem_of_getElem? hv),y,?_,hr2⟩;have q2':old.length=o+n*de.size:=q2;rw[List.append_assoc,List.getElem?_append_right (by simp;omega),List.getElem?_append_left (by simp;omega)];rw[←hy]
                 congr 1
                 simp;omega
             ·have q2':old.length=o+n*de.size:=q2;have hcl:o+n*de.size≤cs0.length:=by
               have:old.length≤cs0.length:=by rw[q1];exact List.length_take_le' _ _
               omega
              have hread:bU A f cur o (n*de.size)=some ((cs0.drop o).take (n*de.size)):=by
               unfold bU;rw[hF];simp only[Nat.beq_refl,cond_true,cF];exact br _ _ (by simp;omega)
              obtain⟨cvs,c1,c2,c3,c4⟩:=kB h hread hp he;obtain⟨g1,g2⟩:=sE hr;have hcapn:cap<n+m:=by omega
              have hrun:=qp (ty:=ty) (a:=some ⟨p.c,off,none⟩) (n:=n) (cap:=cap) (olds:=cvs) hu hu' hk hi z1 r4 r5 (fun w' hw=>by
               rw[hisz];exact run_firstCells_some (P:=E.P) w' de.size n ⟨p.c,off,none⟩ n cap cvs c2 (fun j v hv=>by have:=c4 j v hv;simpa [World.cell?,hw] using this)) hcapn g1 (by rw[hiby];exact growslice_fits hcapn g2)
              have hge:=grownCap_ge w (n+m) cap e;have hlen:(cvs++vs++(Builtin.zeroCells zv.cells (grownCap w (n+m) cap e-(n+m))).toList).length=grownCap w (n+m) cap e*de.size:=by
               simp only[List.length_append,mZ,hzs,c2,r3];have e1:grownCap w (n+m) cap e=n+m+(grownCap w (n+m) cap e-(n+m)):=by omega
               rw[e1,Nat.add_mul,Nat.add_mul];have e0:n+m+(grownCap w (n+m) cap e-(n+m))-(n+m)=grownCap w (n+m) cap e-(n+m):=by omega
               rw[e0]
              refine⟨_,_,_,hrun,?_,Step.move (F':=.cells (Nat.succ cur) false de.size (old++xs)) (p':=⟨w.heap.size,0,o,(cvs++vs++(Builtin.zeroCells zv.cells (grownCap w (n+m) cap e-(n+m))).toList).length,de.size⟩)
               (w1:=w.drew.alloc (.cells (cvs++vs++(Builtin.zeroCells zv.cells (grownCap w (n+m) cap e-(n+m))).toList).toArray e))
               h hF rfl hp rfl rfl ⟨rfl,rfl,rfl⟩ rfl (jv w.drew _) (fun b hb=>ks w.drew _ b hb) ?_⟩
              ·refine .slice (p:=⟨w.heap.size,0,o,(cvs++vs++(Builtin.zeroCells zv.cells (grownCap w (n+m) cap e-(n+m))).toList).length,de.size⟩) (off:=0) (Mp.eC _ _ _ _) ?_ (Nat.le_refl _) hge (fun e=>by cases e) ?_
               ·show 0+o=o+0;omega
               ·show 0+_*de.size≤(_:List Value).length;rw[hlen];omega
              ·refine⟨_,e,(0,0),kA w.drew _,by simp,rfl,fun _=>rfl,fun j v hv hdn=>?_⟩;have hdn':o≤j:=by simpa using hdn
               simp only[List.getElem?_toArray,Nat.add_zero];by_cases hlo:j<old.length
               ·rw[List.getElem?_append_left hlo] at hv;have hv':cs0[j]?=some v:=by
                 rw[q1,List.getElem?_take] at hv;split at hv
                 ·exact hv
                 ·cases hv
                have hjl:j<o+n*de.size:=by omega
                have hv2:((cs0.drop o).take (n*de.size))[j-o]?=some v:=by
                 rw[List.getElem?_take_of_lt (by omega),List.getElem?_drop,←hv']
                 congr 1
                 omega
                obtain⟨y,hy,hr2⟩:=c1.get hv2;refine⟨c3 v (List.mem_of_getElem? hv2),y,?_,hr2⟩;rw[List.append_assoc,List.getElem?_append_left (by omega)];exact hy
               ·rw[List.getElem?_append_right (by omega)] at hv;obtain⟨y,hy,hr2⟩:=r1.get hv;have hylt:j-old.length<vs.length:=by rcases Nat.lt_or_ge (j-old.length) vs.length with h|h;exact h;rw[List.getElem?_eq_none h] at hy;cases hy
                refine⟨r2 v (List.mem_of_getElem? hv),y,?_,hr2⟩;rw[List.append_assoc,List.getElem?_append_right (by omega),List.getElem?_append_left (by omega)];rw[←hy]
                congr 1
                omega
            ·cases hl
           ·subst hex;simp only[cond_true] at hl;split at hl
            ·rename_i old hold;cases hl;have hcc:=hxx rfl;have hread:bU A f cur o (n*de.size)=some old:=by
              unfold bU;rw[hF];simp only[Nat.beq_refl,cond_true];exact hold
             obtain⟨cvs,c1,c2,c3,c4⟩:=kB h hread hp he;exact fresh _ n cap old cvs c1 c3 c2 rfl (by omega) hr (fun w' hw=>by
              rw[hisz];exact run_firstCells_some (P:=E.P) w' de.size n ⟨p.c,off,none⟩ n cap cvs c2 (fun j v hv=>by have:=c4 j v hv;simpa [World.cell?,hw] using this))
            ·cases hl
          ·rw[hfit] at hl;have hnc:n+m≤c:=Nat.le_of_ble_eq_true hfit;simp only[cond_true] at hl;cases hro:ro<;>rw[hro] at hl<;>simp only[cond_true,cond_false,reduceCtorEq] at hl;split at hl
           ·rename_i cs1 hput;cases hl;obtain⟨w1,s1,s2⟩:=inplace cs1 hro hput (by omega);refine⟨_,w1,_,s1,?_,s2⟩;exact (aQ.slice (p:=p) (off:=off) (cap:=cap) hp he (show n+m≤c by omega) hc hxx hrr).mono s2.ae
           ·cases hl
         ·cases hl
       ·cases hl
     ·rw[hm] at hl;have hm0:m=0:=Nat.eq_of_beq_eq_true hm;subst hm0;have hv0:vs=[]:=List.eq_nil_of_length_eq_zero (by simpa using r3);subst hv0;simp only[cond_true] at hl;have ae:∀(a:Option Addr) (n cap:Nat),cs=.slice a n cap→n≤cap→(Builtin.append_ #[t,t'] ty #[cs,cx]).run E.P w=.ok (.slice a n cap) w:=by
       intro a n cap hcs hle;subst hcs;refine lV (w1:=w) (ty:=ty) hu hu' hk hi r4 (r5 w rfl) (by omega) ?_;cases a with
       | none=>rfl
       | some ad=>rfl
      split at hl
      ·cases hs;cases hl;exact bw.same h (ae _ _ _ rfl (Nat.le_refl _)) .aj
      ·cases hs with
       | emp a hz0=>
        cases hl;exact bw.same h (ae _ _ _ rfl (Nat.zero_le _)) (.emp a hz0)
      ·cases hs with
       | slice hp he hn hc hxx hrr=>
        cases hl;exact bw.same h (ae _ _ _ rfl (by omega)) (.slice hp he hn hc hxx hrr)
      ·cases hl
    ·cases hl
   ·cases hl
  ·cases hl
 ·cases hl
end
end
end Go.AE
