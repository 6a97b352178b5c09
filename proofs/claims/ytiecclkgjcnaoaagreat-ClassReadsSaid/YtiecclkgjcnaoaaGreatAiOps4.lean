/-
  EACH OPERATION OF THE EVALUATOR IS ONE OF THE MODEL's, fourth part: slicing, conversions, lengths.
-/
import Derived.Test.YtiecclkgjcnaoaaGreatAiOps3
import Derived.Lib.Strings
namespace Go.AE
set_option linter.unusedVariables false
variable [Rho]
section
variable {E : Env} {base : Nat} {μ : Mp} {A : AW} {w : World}
def ORel (μ : Mp) : Option AV → Option Value → Prop
  | none, none => True
  | some x, some y => VRel μ x y
  | _, _ => False
theorem bound_run {P : Program} {μ : Mp} {x : AV} {cx : Value} {top top' d n : Nat} (hb : bound (some x) top d = some n) (hx : VRel μ x cx) (ht : top ≤ top') (code : BoundsCode) (w : World) :
    (Instr.sliceBound cx top' code).run P w = .ok n w ∧ n ≤ top := by
  cases hx <;> try (simp only [bound, reduceCtorEq] at hb; done)
  case int k m =>
    cases m with
    | negSucc m => simp only [bound, reduceCtorEq] at hb
    | ofNat m =>
      simp only [bound] at hb
      cases hle : Nat.ble m top
      · rw [hle] at hb; cases hb
      · rw [hle] at hb
        simp only [cond_true, Option.some.injEq] at hb
        subst hb
        have : m ≤ top := Nat.le_of_ble_eq_true hle
        refine ⟨?_, this⟩
        simp only [Instr.sliceBound, asIntOf, Sem.run_bind, Sem.run_pure, Result.andThen_ok]
        rw [Sem.run_ite, if_pos (by simp only [Int.ofNat_eq_natCast]; omega)]
        simp
theorem bounds2_run {P : Program} {μ : Mp} {lo hi : Option AV} {clo chi : Option Value} {n c cap h l : Nat} (hh : bound hi c n = some h) (hl : bound lo h 0 = some l) (hlo : ORel μ lo clo) (hhi : ORel μ hi chi)
    (hc : c ≤ cap) (hn : n ≤ c) (isSlice : Bool) (w : World) : (Instr.sliceBounds isSlice n cap clo chi none).run P w = .ok (l, h, cap) w ∧ l ≤ h ∧ h ≤ c := by
  have e1 : ∃ s : Sem Nat, s.run P w = .ok h w ∧ h ≤ c ∧ (match chi with
      | some v => Instr.sliceBound v cap (if isSlice then .sliceAcap else .sliceAlen)
      | none => pure n) = s := by
    cases hi with
    | none =>
      cases chi with
      | none => simp only [bound, Option.some.injEq] at hh; subst hh; exact ⟨_, rfl, hn, rfl⟩
      | some v => exact hhi.elim
    | some x =>
      cases chi with
      | none => exact hhi.elim
      | some v => exact ⟨_, (bound_run hh hhi hc _ w).1, (bound_run (P := P) hh hhi hc .index w).2, rfl⟩
  obtain ⟨s, s1, s2, s3⟩ := e1
  have e2 : l ≤ h ∧ ∀ code, (match clo with
      | some v => Instr.sliceBound v h code
      | none => pure 0).run P w = .ok l w := by
    cases lo with
    | none =>
      cases clo with
      | none => simp only [bound, Option.some.injEq] at hl; subst hl; exact ⟨Nat.zero_le _, fun _ => rfl⟩
      | some v => exact hlo.elim
    | some x =>
      cases clo with
      | none => exact hlo.elim
      | some v => exact ⟨(bound_run (P := P) hl hlo (Nat.le_refl _) .index w).2, fun code => (bound_run hl hlo (Nat.le_refl _) code w).1⟩
  refine ⟨?_, e2.1, s2⟩
  have e3 := e2.2 .sliceB
  subst s3
  unfold Instr.sliceBounds
  cases chi <;> cases clo <;> simp only [Sem.run_bind, Sem.run_pure, Result.andThen_ok, Option.isSome_none, Bool.false_eq_true, if_false] at s1 e3 ⊢ <;>
    first
      | (rw [s1]; simp only [Result.andThen_ok]; rw [e3]; rfl)
      | (cases s1; rw [e3]; rfl)
      | (rw [s1]; simp only [Result.andThen_ok]; cases e3; rfl)
      | (cases s1; cases e3; rfl)
theorem bounds3_run {P : Program} {μ : Mp} {lo : Option AV} {hi mx : AV} {clo : Option Value} {chi cmx : Value} {n c cap m h l : Nat} (hm : bound (some mx) c 0 = some m) (hh : bound (some hi) m 0 = some h) (hl : bound lo h 0 = some l)
    (hlo : ORel μ lo clo) (hhi : VRel μ hi chi) (hmx : VRel μ mx cmx) (hc : c ≤ cap) (w : World) : (Instr.sliceBounds true n cap clo (some chi) (some cmx)).run P w = .ok (l, h, m) w ∧ l ≤ h ∧ h ≤ m ∧ m ≤ c := by
  obtain ⟨_, m1⟩ := bound_run (P := P) hm hmx hc .index w
  obtain ⟨_, h1⟩ := bound_run (P := P) hh hhi (Nat.le_refl _) .index w
  have em := (bound_run (P := P) hm hmx hc .slice3Acap w).1
  have eh := (bound_run (P := P) hh hhi (Nat.le_refl _) .slice3B w).1
  have e2 : l ≤ h ∧ ∀ code, (match clo with
      | some v => Instr.sliceBound v h code
      | none => pure 0).run P w = .ok l w := by
    cases lo with
    | none =>
      cases clo with
      | none => simp only [bound, Option.some.injEq] at hl; subst hl; exact ⟨Nat.zero_le _, fun _ => rfl⟩
      | some v => exact hlo.elim
    | some x =>
      cases clo with
      | none => exact hlo.elim
      | some v => exact ⟨(bound_run (P := P) hl hlo (Nat.le_refl _) .index w).2, fun code => (bound_run hl hlo (Nat.le_refl _) code w).1⟩
  refine ⟨?_, e2.1, h1, m1⟩
  have e3 := e2.2 .slice3C
  unfold Instr.sliceBounds
  cases clo <;> simp only [Sem.run_bind, Sem.run_pure, Result.andThen_ok, if_true, em, eh, Option.isSome_some] at e3 ⊢
  · cases e3; rfl
  · rw [e3]; rfl
theorem sliceNone_sound (hE : TysOk E) (h : Rel base μ A w) {t e : TypeId} {d de : ATy} (hd : E.tys.get t = some d) (hdd : d.desc = .slice e) (hde : E.tys.get e = some de) {all cut v : AV} {lo hi mx : Option AV} {A' : AW} {clo chi cmx : Option Value}
    (hl : sliceNone all cut lo hi mx A = .val v A') (hlo : ORel μ lo clo) (hhi : ORel μ hi chi) (hmx : ORel μ mx cmx) {a : Option Addr} {cap : Nat} (hall : ∀ a', (a' = a ∨ a' = a.map (·.add (0 * de.size))) → VRel μ all (.slice a' 0 (cap - 0)))
    (hcut : ∀ a', (a' = a ∨ a' = a.map (·.add (0 * de.size))) → VRel μ cut (.slice a' 0 0)) : Ans E base μ A w (Instr.sliceAt t (.slice a 0 cap) clo chi cmx) v A' := by
  have hu := (hE t d hd).run_und w
  have hsz := (hE e de hde).run_size w
  unfold sliceNone at hl
  split at hl
  · cases cmx with
    | some _ => exact hmx.elim
    | none =>
      split at hl
      · rename_i hh l hhb hlb
        cases hl
        have z1 : bound lo hh 0 = some l := by
          cases lo with
          | none => exact hlb
          | some x =>
            have := hhb
            cases hi with
            | none => simp only [bound, Option.some.injEq] at hhb; subst hhb; exact hlb
            | some y =>
              cases chi with
              | none => exact hhi.elim
              | some cy => have := (bound_run (P := E.P) hhb hhi (Nat.le_refl _) .index w).2; have e0 : hh = 0 := by omega
                           subst e0; exact hlb
        obtain ⟨e1, e2, e3⟩ := bounds2_run (P := E.P) (n := 0) (c := 0) (cap := cap) hhb z1 hlo hhi (Nat.zero_le _) (Nat.le_refl _) true w
        have h0 : hh = 0 := by omega
        have l0 : l = 0 := by omega
        subst h0; subst l0
        by_cases hc : cap = 0
        · subst hc
          refine Ans.same h (cv := .slice a (0 - 0) (0 - 0)) ?_ (hall _ (.inl rfl))
          simp only [Instr.sliceAt, Sem.run_bind, hu, hdd, Result.andThen_ok, Instr.slice, Sem.run_pure, e1, hsz, if_true]
        · refine Ans.same h (cv := .slice (a.map (·.add (0 * de.size))) (0 - 0) (cap - 0)) ?_ (hall _ (.inr rfl))
          simp only [Instr.sliceAt, Sem.run_bind, hu, hdd, Result.andThen_ok, Instr.slice, Sem.run_pure, e1, hsz, hc, if_false]
      · cases hl
  · rename_i mxv
    cases cmx with
    | none => exact hmx.elim
    | some cm =>
      split at hl
      · rename_i m hiv hmb
        cases chi with
        | none => exact hhi.elim
        | some ch =>
          split at hl
          · rename_i hh l hhb hlb
            cases hl
            have m0 : m = 0 := by have := (bound_run (P := E.P) hmb hmx (Nat.le_refl _) .index w).2; omega
            subst m0
            have h0 : hh = 0 := by have := (bound_run (P := E.P) hhb hhi (Nat.le_refl _) .index w).2; omega
            subst h0
            obtain ⟨e1, e2, e3, e4⟩ := bounds3_run (P := E.P) (n := 0) (c := 0) (cap := cap) hmb hhb hlb hlo hhi hmx (Nat.zero_le _) w
            have l0 : l = 0 := by omega
            subst l0
            refine Ans.same h (cv := .slice a (0 - 0) (0 - 0)) ?_ (hcut _ (.inl rfl))
            simp only [Instr.sliceAt, Sem.run_bind, hu, hdd, Result.andThen_ok, Instr.slice, Sem.run_pure, e1, hsz, if_true]
          · cases hl
      · cases hl
theorem slice_sound (hE : TysOk E) (h : Rel base μ A w) {t : TypeId} {x v : AV} {lo hi mx : Option AV} {A' : AW} {cx : Value} {clo chi cmx : Option Value} (hl : sliceA E t x lo hi mx A = .val v A') (hx : VRel μ x cx)
    (hlo : ORel μ lo clo) (hhi : ORel μ hi chi) (hmx : ORel μ mx cmx) : Ans E base μ A w (Instr.sliceAt t cx clo chi cmx) v A' := by
  unfold sliceA at hl
  split at hl
  · cases hl
  · rename_i d hd
    have ht := hE t d hd
    have hu := ht.run_und w
    split at hl
    · -- texts
      rename_i hdd
      split at hl
      · rename_i s
        cases cmx with
        | some _ => exact hmx.elim
        | none =>
          cases hx with
          | str s =>
            unfold sliceStr at hl
            simp only [len_eq, List.length_map, Array.length_toList] at hl
            split at hl
            · rename_i hh hhb
              split at hl
              · rename_i l hlb
                split at hl
                · rename_i r hr
                  cases hl
                  obtain ⟨e1, e2, e3⟩ := bounds2_run (P := E.P) hhb hlb hlo hhi (Nat.le_refl _) (Nat.le_refl _) false w
                  obtain ⟨q1, q2⟩ := takeN_eq _ _ _ hr
                  rw [dropN_eq] at q1
                  have q3 : r = (s.extract l hh).data.toList.map UInt8.toNat := by
                    rw [q1, Lib.extract_data, List.map_take, List.map_drop]
                    rfl
                  refine Ans.same h (cv := .string (s.extract l hh)) ?_ (by rw [q3]; exact .str _)
                  simp only [Instr.sliceAt, Sem.run_bind, hu, hdd, Result.andThen_ok, Instr.slice, Option.isSome_none, Bool.false_eq_true, if_false]
                  have e1' : (Instr.sliceBounds false s.size s.size clo chi none).run E.P w = .ok (l, hh, s.size) w := e1
                  simp only [e1', Result.andThen_ok, Sem.run_pure]
                · cases hl
              · cases hl
            · cases hl
      · cases hl
    · -- arrays
      rename_i n e hdd
      split at hl
      · rename_i f s o de hde
        cases cmx with
        | some _ => exact hmx.elim
        | none =>
          cases hx with
          | ptr hp he =>
            rename_i p off
            unfold sliceArr at hl
            split at hl
            · rename_i cur ro es' cs hF
              cases hb : (Nat.beq es' de.size && (Nat.beq cur s && (Nat.ble 1 de.size && Nat.ble (Nat.add o (Nat.mul n de.size)) (len cs))))
              · rw [hb] at hl; cases hl
              · rw [hb] at hl
                simp only [Bool.and_eq_true] at hb
                obtain ⟨b1, b2, b3, b4⟩ := hb
                have c1 := Nat.eq_of_beq_eq_true b1
                have c2 := Nat.eq_of_beq_eq_true b2
                have c3 : 1 ≤ de.size := Nat.le_of_ble_eq_true b3
                have c4 : o + n * de.size ≤ len cs := Nat.le_of_ble_eq_true b4
                rw [len_eq] at c4
                subst c1; subst c2
                simp only [cond_true] at hl
                split at hl
                · rename_i hh hhb
                  split at hl
                  · rename_i l hlb
                    obtain ⟨e1, e2, e3⟩ := bounds2_run (P := E.P) hhb hlb hlo hhi (Nat.le_refl _) (Nat.le_refl _) false w
                    have hsz := (hE e de hde).run_size w
                    cases hq : Nat.beq l n <;> rw [hq] at hl <;> simp only [cond_true, cond_false] at hl <;> cases hl
                    · have hne : ¬ n = l := fun e => by subst e; simp at hq
                      refine Ans.same h (cv := .slice (some ⟨p.c, off + l * de.size, none⟩) (hh - l) (n - l)) ?_ ?_
                      · simp only [Instr.sliceAt, Sem.run_bind, hu, hdd, Result.andThen_ok, Instr.sureAddr, Sem.run_pure, e1, hsz, hne, if_false, Addr.add_lit]
                      · obtain ⟨arr, elem, fz, a1, a2, a3, a4, a5⟩ := h.con f _ p hF hp
                        have hpos : 1 * 1 ≤ n * de.size := Nat.mul_le_mul (by omega) c3
                        have hlt : o + n * de.size - 1 < cs.length := by omega
                        obtain ⟨_, cv, d1, _⟩ := a5 _ _ (List.getElem?_eq_getElem hlt) (by omega)
                        have d2 := (Array.getElem?_eq_some_iff.1 d1).1
                        have d3 : l * de.size + (n - l) * de.size = n * de.size := by rw [← Nat.add_mul]; congr 1; omega
                        refine .slice hp (by show off + l * de.size + p.down = o + l * de.size + p.up; omega) (by show hh - l ≤ n - l; omega) (Nat.le_refl _) (fun _ => rfl) ?_
                        rw [a3]
                        omega
                    · have heq : l = n := Nat.eq_of_beq_eq_true hq
                      subst heq
                      have h0 : hh - l = 0 := by omega
                      refine Ans.same h (cv := .slice (some ⟨p.c, off, none⟩) (hh - l) (l - l)) ?_ ?_
                      · simp only [Instr.sliceAt, Sem.run_bind, hu, hdd, Result.andThen_ok, Instr.sureAddr, Sem.run_pure, e1, hsz, if_true]
                      · rw [h0]; exact .emp _ (fun _ => by omega)
                  · cases hl
                · cases hl
            · cases hl
      · cases hl
    · -- slices
      rename_i e hdd
      split at hl
      · rename_i f s o n c ex
        split at hl
        · rename_i de hde
          cases hx with
          | slice hp he hn hc hxx hr =>
            rename_i p off cap
            have hsz := (hE e de hde).run_size w
            unfold sliceRow at hl
            split at hl
            · rename_i cur ro es' cs hF
              cases hb : (Nat.beq es' de.size && Nat.beq cur s)
              · rw [hb] at hl; cases hl
              · rw [hb] at hl
                simp only [Bool.and_eq_true] at hb
                obtain ⟨b1, b2⟩ := hb
                have c1 := Nat.eq_of_beq_eq_true b1
                have c2 := Nat.eq_of_beq_eq_true b2
                subst c1; subst c2
                obtain ⟨arr, elem, fz, a1, a2, a3, a4, a5⟩ := h.con f _ p hF hp
                rw [a3] at hr
                simp only [cond_true] at hl
                split at hl
                · cases cmx with
                  | some _ => exact hmx.elim
                  | none =>
                    split at hl
                    · rename_i hh hhb
                      split at hl
                      · rename_i l hlb
                        obtain ⟨e1, e2, e3⟩ := bounds2_run (P := E.P) hhb hlb hlo hhi hc hn true w
                        cases hq : Nat.beq l c <;> rw [hq] at hl <;> simp only [cond_true, cond_false] at hl <;> cases hl
                        · have hne' : ¬ c = l := fun e => by subst e; simp at hq
                          have hne : ¬ cap = l := by omega
                          refine Ans.same h (cv := .slice (some ⟨p.c, off + l * de.size, none⟩) (hh - l) (cap - l)) ?_ ?_
                          · simp only [Instr.sliceAt, Sem.run_bind, hu, hdd, Result.andThen_ok, Instr.slice, Sem.run_pure, e1, hsz, hne, if_false, Option.map_some, Addr.add_lit]
                          · have d3 : l * de.size + (cap - l) * de.size = cap * de.size := by rw [← Nat.add_mul]; congr 1; omega
                            refine .slice hp (by show off + l * de.size + p.down = o + l * de.size + p.up; omega) (by show hh - l ≤ c - l; omega) (by show c - l ≤ cap - l; omega) (fun hx => by have := hxx hx; show cap - l = c - l; omega) ?_
                            rw [a3]
                            omega
                        · have heq : l = c := Nat.eq_of_beq_eq_true hq
                          have h0 : hh - l = 0 := by omega
                          by_cases hm : cap = l
                          · subst hm
                            refine Ans.same h (cv := .slice (some ⟨p.c, off, none⟩) (hh - cap) (cap - cap)) ?_ ?_
                            · simp only [Instr.sliceAt, Sem.run_bind, hu, hdd, Result.andThen_ok, Instr.slice, Sem.run_pure, e1, hsz, if_true]
                            · rw [h0]; exact .emp _ (fun hx => by omega)
                          · refine Ans.same h (cv := .slice (some ⟨p.c, off + l * de.size, none⟩) (hh - l) (cap - l)) ?_ ?_
                            · simp only [Instr.sliceAt, Sem.run_bind, hu, hdd, Result.andThen_ok, Instr.slice, Sem.run_pure, e1, hsz, hm, if_false, Option.map_some, Addr.add_lit]
                            · rw [h0]; exact .emp _ (fun hx => by have := hxx hx; omega)
                      · cases hl
                    · cases hl
                · rename_i mxv
                  cases cmx with
                  | none => exact hmx.elim
                  | some cm =>
                    split at hl
                    · rename_i m hiv hmb
                      cases chi with
                      | none => exact hhi.elim
                      | some ch =>
                        split at hl
                        · rename_i hh hhb
                          split at hl
                          · rename_i l hlb
                            obtain ⟨e1, e2, e3, e4⟩ := bounds3_run (P := E.P) (n := n) hmb hhb hlb hlo hhi hmx hc w
                            cases hq : Nat.beq l m <;> rw [hq] at hl <;> simp only [cond_true, cond_false] at hl <;> cases hl
                            · have hne : ¬ m = l := fun e => by subst e; simp at hq
                              refine Ans.same h (cv := .slice (some ⟨p.c, off + l * de.size, none⟩) (hh - l) (m - l)) ?_ ?_
                              · simp only [Instr.sliceAt, Sem.run_bind, hu, hdd, Result.andThen_ok, Instr.slice, Sem.run_pure, e1, hsz, hne, if_false, Option.map_some, Addr.add_lit]
                              · have d3 : l * de.size + (m - l) * de.size = m * de.size := by rw [← Nat.add_mul]; congr 1; omega
                                have d4 : m * de.size ≤ cap * de.size := Nat.mul_le_mul_right _ (by omega)
                                refine .slice hp (by show off + l * de.size + p.down = o + l * de.size + p.up; omega) (by show hh - l ≤ m - l; omega) (Nat.le_refl _) (fun _ => rfl) ?_
                                rw [a3]
                                omega
                            · have heq : l = m := Nat.eq_of_beq_eq_true hq
                              have h0 : hh - l = 0 := by omega
                              subst heq
                              refine Ans.same h (cv := .slice (some ⟨p.c, off, none⟩) (hh - l) (l - l)) ?_ ?_
                              · simp only [Instr.sliceAt, Sem.run_bind, hu, hdd, Result.andThen_ok, Instr.slice, Sem.run_pure, e1, hsz, if_true]
                              · rw [h0]; exact .emp _ (fun hx => by omega)
                          · cases hl
                        · cases hl
                    · cases hl
            · cases hl
        · cases hl
      · split at hl
        · rename_i de hde
          cases hx
          exact sliceNone_sound hE h hd hdd hde hl hlo hhi hmx (fun a' ha => by rcases ha with rfl | rfl <;> exact .nils) (fun a' ha => by rcases ha with rfl | rfl <;> exact .nils)
        · cases hl
      · split at hl
        · rename_i de hde
          cases hx with
          | emp a hz =>
            exact sliceNone_sound hE h hd hdd hde hl hlo hhi hmx (fun a' ha => by rcases ha with rfl | rfl <;> exact .emp _ (fun hx => by have := hz hx; omega))
              (fun a' ha => by rcases ha with rfl | rfl <;> exact .emp _ (fun _ => rfl))
        · cases hl
      · cases hl
    · cases hl
end
end Go.AE
