/-
  EACH OPERATION OF THE EVALUATOR IS ONE OF THE MODEL's, third part: structs, slices, places.
-/
import Derived.Test.YtiecclkgjcnaoaaGreatAiOps2
namespace Go.AE
set_option linter.unusedVariables false
variable [Rho]
section
variable {E : Env} {base : Nat} {μ : Mp} {A : AW} {w : World}
omit [Rho] in
theorem sizesOf_sound (hE : TysOk E) (w : World) : ∀ (fs : List Field) (pl : List (Nat × Nat)), sizesOf E fs = some pl →
    ((fs.mapM (m := Sem) fun f => do pure (f.offset, ← sizeOf f.type)).run E.P w) = .ok pl w
  | [], pl, h => by simp only [sizesOf, Option.some.injEq] at h; subst h; rfl
  | f :: fs, pl, h => by
    simp only [sizesOf] at h
    split at h
    · rename_i d l hd hl
      cases h
      have h1 := (hE f.type d hd).run_size w
      have h2 := sizesOf_sound hE w fs l hl
      simp only [List.mapM_cons, Sem.run_bind, h1, Result.andThen_ok, Sem.run_pure, h2]
    · cases h
theorem build_sound (hE : TysOk E) (h : Rel base μ A w) {t : TypeId} {ps : List (Nat × AV)} {qs : Array (Nat × Value)} {v : AV} {A' : AW} (hl : buildA E t ps A = .val v A') (hp : PRel μ ps qs.toList) :
    Ans E base μ A w (Instr.build t qs) v A' := by
  unfold buildA at hl
  split at hl
  · rename_i d hd
    have ht := hE t d hd
    split at hl
    · rename_i z hz
      obtain ⟨zv, h1, h2, h3, _⟩ := ht.run_zero w hz μ
      split at hl
      · rename_i fields hdd
        split at hl
        · rename_i pl hpl
          split at hl
          · rename_i cs hcs
            cases hl
            have hs := sizesOf_sound hE w _ _ hpl
            have hs' : (fields.mapM (m := Sem) fun f => do pure (f.offset, ← sizeOf f.type)).run E.P w = .ok pl.toArray w := by
              rw [Array.mapM_eq_mapM_toList, Sem.run_map, hs]
              rfl
            obtain ⟨cells', a, b, c⟩ := fill_sound (pl' := fun i => pl.toArray[i]?) (fun i q hq => by rw [nth_eq] at hq; simpa using hq) hcs hp h2 h3
            refine Ans.same h (cv := .agg cells') ?_ (by have := vrel_agg_mk b c; simpa using this)
            simp only [Instr.build, Sem.run_bind, h1, Result.andThen_ok, ht.run_und, hdd, hs']
            rw [a]
            rfl
          · cases hl
        · cases hl
      · rename_i n e hdd
        split at hl
        · rename_i de hde
          split at hl
          · rename_i cs hcs
            cases hl
            have hs := (hE e de hde).run_size w
            obtain ⟨cells', a, b, c⟩ := fill_sound (pl' := fun i => some (i * de.size, de.size)) (fun i q hq => hq) hcs hp h2 h3
            refine Ans.same h (cv := .agg cells') ?_ (by have := vrel_agg_mk b c; simpa using this)
            simp only [Instr.build, Sem.run_bind, h1, Result.andThen_ok, ht.run_und, hdd, hs]
            rw [a]
            rfl
          · cases hl
        · cases hl
      · cases hl
    · cases hl
  · cases hl
omit [Rho] in
theorem repeatL_len (z : List AV) : ∀ n, (repeatL z n).length = n * z.length
  | 0 => by simp [repeatL]
  | n + 1 => by simp [repeatL, repeatL_len z n, Nat.succ_mul]; omega
omit [Rho] in
theorem repeatL_get (z : List AV) : ∀ (n i : Nat), i < n * z.length → (repeatL z n)[i]? = z[i % z.length]?
  | 0, i, h => by simp at h
  | n + 1, i, h => by
    rw [Nat.succ_mul] at h
    simp only [repeatL]
    by_cases a : i < z.length
    · rw [List.getElem?_append_left a, Nat.mod_eq_of_lt a]
    · rw [List.getElem?_append_right (by omega), repeatL_get z n _ (by omega)]
      congr 1
      rw [← Nat.mod_eq_sub_mod (by omega)]
theorem repeat_rel {μ : Mp} {z : List AV} {zv : Array Value} (hz : LRel μ z zv.toList) (hp : 0 < z.length) (n : Nat) :
    LRel μ (repeatL z n) ((Array.range (n * z.length)).map fun i => zv[i % zv.size]!).toList := by
  have e : zv.size = z.length := by rw [hz.1]; simp
  refine ⟨by simp [repeatL_len], fun i x y hx hy => ?_⟩
  have hi : i < n * z.length := by
    rcases Nat.lt_or_ge i (n * z.length) with h | h
    · exact h
    · rw [List.getElem?_eq_none (by rw [repeatL_len]; omega)] at hx; cases hx
  rw [repeatL_get z n i hi] at hx
  have hm : i % z.length < z.length := Nat.mod_lt _ hp
  rw [Array.getElem?_toList, Array.getElem?_map, Array.getElem?_range, if_pos hi] at hy
  simp only [Option.map_some, Option.some.injEq] at hy
  subst hy
  refine hz.2 (i % z.length) x _ hx ?_
  rw [e, Array.getElem?_toList, getElem!_pos zv _ (by omega), Array.getElem?_eq_getElem (by omega)]
omit [Rho] in
theorem repeat_one {z : List AV} (h : ∀ x ∈ z, x.one = true) : ∀ n, ∀ x ∈ repeatL z n, x.one = true
  | 0, x, hx => by cases hx
  | n + 1, x, hx => by
    simp only [repeatL, List.mem_append] at hx
    rcases hx with hx | hx
    · exact h x hx
    · exact repeat_one h n x hx
theorem new_slice {μ : Mp} {f c n m es sz : Nat} {ex : Bool} (hn : n ≤ m) (hm : m * es ≤ sz) : VRel (μ.put f 0 ⟨c, 0, 0, sz, es⟩) (.slice f 0 0 n m ex) (.slice (some ⟨c, 0, none⟩) n m) :=
  .slice (Mp.put_same _ _ _ _) rfl hn (Nat.le_refl _) (fun _ => rfl) (by simpa using hm)
theorem buildSlice_sound (hE : TysOk E) (h : Rel base μ A w) {t : TypeId} {n : Nat} {ps : List (Nat × AV)} {qs : Array (Nat × Value)} {v : AV} {A' : AW} (hl : buildSliceA E t n ps A = .val v A') (hp : PRel μ ps qs.toList) :
    Ans E base μ A w (Instr.buildSlice t n qs) v A' := by
  unfold buildSliceA at hl
  split at hl
  · rename_i d hd
    split at hl
    · rename_i e hdd
      split at hl
      · rename_i de hde
        split at hl
        · rename_i z hz
          cases hb : Nat.ble (Nat.mul n de.size) 4096
          · rw [hb] at hl; cases hl
          · cases hb1 : Nat.ble 1 de.size
            · rw [hb, hb1] at hl; cases hl
            · rw [hb, hb1] at hl
              simp only [cond_true] at hl
              have hle : n * de.size ≤ 4096 := Nat.le_of_ble_eq_true hb
              have hpos : 1 ≤ de.size := Nat.le_of_ble_eq_true hb1
              split at hl
              · rename_i cs hcs
                cases hl
                have ht := hE t d hd
                have hte := hE e de hde
                obtain ⟨zv, h1, h2, h3, hsz, _⟩ := hte.run_zero w hz μ
                have hr := repeat_rel (n := n) h2 (by omega)
                rw [hsz] at hr
                obtain ⟨cells', a, b, c⟩ := fill_sound (pl' := fun i => some (i * de.size, de.size)) (fun i q hq => hq) hcs hp hr (repeat_one h3 n)
                have hst := newFam_ans hE h ⟨rfl, rfl, rfl⟩ rfl e de.size b c []
                have hlen : cells'.toList.length = n * de.size := by rw [← b.1, fillA_len hcs, repeatL_len, hsz]
                refine ⟨.slice (some ⟨w.heap.size, 0, none⟩) n n, _, _, ?_, new_slice (Nat.le_refl _) (by simp [hlen]), hst⟩
                simp only [Instr.buildSlice, Sem.run_bind, ht.run_und, hdd, Result.andThen_ok, hte.run_size]
                rw [Sem.run_ite, if_neg (by omega)]
                by_cases h0 : n * de.size = 0
                · have e0 : ((Array.range (n * de.size)).map fun x => (#[] : Array Value)[x % (#[] : Array Value).size]!) = ((Array.range (n * de.size)).map fun i => zv.cells[i % zv.cells.size]!) := by rw [h0]; simp
                  rw [Sem.run_ite, if_pos h0]
                  simp only [Sem.run_bind, Sem.run_pure, Result.andThen_ok]
                  rw [e0, a]
                  simp only [Sem.run_bind, newRow, run_new, Result.andThen_ok, Sem.run_pure, List.append_nil]
                · rw [Sem.run_ite, if_neg h0]
                  simp only [Sem.run_bind, h1, Result.andThen_ok, Sem.run_pure]
                  rw [a]
                  simp only [Sem.run_bind, newRow, run_new, Result.andThen_ok, Sem.run_pure, List.append_nil]
              · cases hl
        · cases hl
      · cases hl
    · cases hl
  · cases hl
theorem makeSlice_sound (hE : TysOk E) (h : Rel base μ A w) {t : TypeId} {l c v : AV} {A' : AW} {cl cc : Value} (hl : makeSliceA E t l c A = .val v A') (h1 : VRel μ l cl) (h2 : VRel μ c cc) :
    Ans E base μ A w (Instr.makeSlice t cl cc) v A' := by
  unfold makeSliceA at hl
  split at hl
  · rename_i k l k' c
    cases h1; cases h2
    split at hl
    · rename_i d hd
      split at hl
      · rename_i e hdd
        split at hl
        · rename_i de hde
          split at hl
          · rename_i z hz
            cases hb1 : Nat.ble l c <;> rw [hb1] at hl <;> try (cases hl; done)
            cases hb2 : Nat.ble c 1048576 <;> rw [hb2] at hl <;> try (cases hl; done)
            cases hb3 : Nat.ble de.bytes 1048576 <;> rw [hb3] at hl <;> try (cases hl; done)
            cases hb4 : Nat.ble 1 de.size <;> rw [hb4] at hl <;> try (cases hl; done)
            simp only [cond_true] at hl
            cases hl
            have i1 : l ≤ c := Nat.le_of_ble_eq_true hb1
            have i2 : c ≤ 1048576 := Nat.le_of_ble_eq_true hb2
            have i3 : de.bytes ≤ 1048576 := Nat.le_of_ble_eq_true hb3
            have i4 : 1 ≤ de.size := Nat.le_of_ble_eq_true hb4
            have ht := hE t d hd
            have hte := hE e de hde
            obtain ⟨zv, z1, z2, z3, hsz, _⟩ := hte.run_zero w hz μ
            obtain ⟨i, j1, j2, j3⟩ := hte.run_info w
            have hr := repeat_rel (n := c) z2 (by omega)
            rw [hsz] at hr
            have hst := newFam_ans hE h ⟨rfl, rfl, rfl⟩ rfl e de.size hr (repeat_one z3 c) []
            have hmul : de.bytes * c ≤ 1099511627776 := by
              have := Nat.mul_le_mul i3 i2
              omega
            have hmul' : (i.bytes : Int) * (c : Int) ≤ 281474976710656 := by
              rw [j3]; omega
            have hmul2 : (i.bytes : Int) * (l : Int) ≤ 281474976710656 := by
              have := Nat.mul_le_mul_left de.bytes i1
              rw [j3]; omega
            have wl : IntKind.i64.wrap (Int.ofNat l) = (l : Int) := IntWalk.i64_in _ (by simp only [Int.ofNat_eq_natCast]; omega)
            have wc : IntKind.i64.wrap (Int.ofNat c) = (c : Int) := IntWalk.i64_in _ (by simp only [Int.ofNat_eq_natCast]; omega)
            refine ⟨.slice (some ⟨w.heap.size, 0, none⟩) l c, _, _, ?_, new_slice i1 (by simp), hst⟩
            simp only [Instr.makeSlice, Sem.run_bind, ht.run_und, hdd, Result.andThen_ok, asInt, asIntOf, Sem.run_pure, j1, wl, wc]
            rw [Sem.run_ite, if_neg (by simp; omega)]
            simp only [Sem.run_bind, run_askRoom, Result.andThen_ok, hte.run_size, Int.toNat_natCast]
            by_cases h0 : c * de.size = 0
            · have e0 : ((Array.range (c * de.size)).map fun x => (#[] : Array Value)[x % (#[] : Array Value).size]!) = ((Array.range (c * de.size)).map fun i => zv.cells[i % zv.cells.size]!) := by rw [h0]; simp
              rw [Sem.run_ite, if_pos h0]
              simp only [Sem.run_bind, Sem.run_pure, Result.andThen_ok, newRow, run_new, List.append_nil]
              rw [e0]
            · rw [Sem.run_ite, if_neg h0]
              simp only [Sem.run_bind, Sem.run_pure, Result.andThen_ok, newRow, run_new, List.append_nil, z1]
          · cases hl
        · cases hl
      · cases hl
    · cases hl
  · cases hl
theorem fieldAddr_sound (hE : TysOk E) (h : Rel base μ A w) {s : TypeId} {x v : AV} {i : Nat} {A' : AW} {cx : Value} (hl : fieldAddrA E s x i A = .val v A') (hx : VRel μ x cx) :
    Ans E base μ A w (Instr.fieldAt s cx i) v A' := by
  unfold fieldAddrA at hl
  split at hl
  · rename_i f t o d hd
    split at hl
    · rename_i fields hdd
      split at hl
      · rename_i fl hfl
        rw [nth_eq] at hfl
        have hfl' : fields[i]? = some fl := by simpa using hfl
        split at hl
        · rename_i df hdf
          cases hb : Nat.ble 1 df.size
          · rw [hb] at hl; cases hl
          · rw [hb] at hl
            cases hl
            have hpos : 1 ≤ df.size := Nat.le_of_ble_eq_true hb
            cases hx with
            | ptr hp he =>
              rename_i p off
              have ht := hE s d hd
              have htf := (hE fl.type df hdf).run_size w
              refine Ans.same h (cv := .pointer (some ⟨p.c, off + fl.offset, none⟩)) ?_ (.ptr hp (by show off + fl.offset + p.down = o + fl.offset + p.up; omega))
              simp only [Instr.fieldAt, Sem.run_bind, ht.run_und, hdd, Result.andThen_ok, hfl', Instr.sureAddr, Sem.run_pure, fieldPlace, htf]
              rw [Sem.run_ite, if_neg (by omega)]
              simp only [Sem.run_pure, Result.andThen_ok, Addr.add_lit]
        · cases hl
      · cases hl
    · cases hl
  · cases hl
theorem part_sound (hE : TysOk E) (h : Rel base μ A w) {t : TypeId} {cs : List AV} {off : Nat} {v : AV} {A' : AW} {us : Array Value} (hl : partA E t cs off A = .val v A') (hc : LRel μ cs us.toList) (h1 : ∀ x ∈ cs, x.one = true) :
    Ans E base μ A w (part t us off) v A' := by
  unfold partA at hl
  split at hl
  · rename_i d hd
    have ht := hE t d hd
    cases hagg : d.agg <;> rw [hagg] at hl
    · simp only [cond_false] at hl
      split at hl
      · rename_i v' hv
        cases hl
        rw [nth_eq] at hv
        obtain ⟨y, hy, hr⟩ := hc.get hv
        have hy' : us[off]? = some y := by simpa using hy
        refine Ans.same h (cv := y) ?_ hr
        simp only [part, Sem.run_bind, ht.run_agg, hagg, Result.andThen_ok, Bool.false_eq_true, if_false, hy', Sem.run_pure]
      · cases hl
    · simp only [cond_true] at hl
      split at hl
      · rename_i r hr
        cases hl
        obtain ⟨e1, e2⟩ := takeN_eq _ _ _ hr
        rw [dropN_eq] at e1
        subst e1
        have hx := (hc.drop off).take d.size
        refine Ans.same h (cv := .agg (us.extract off (off + d.size))) ?_ ?_
        · simp only [part, Sem.run_bind, ht.run_agg, hagg, Result.andThen_ok, if_true, ht.run_size, Sem.run_pure]
        · have e : us.extract off (off + d.size) = ((us.toList.drop off).take d.size).toArray := by
            apply Array.ext'
            simp [Array.toList_extract, List.extract_eq_take_drop]
          rw [e]
          exact vrel_agg_mk hx fun x hx => h1 x (List.mem_of_mem_drop (List.mem_of_mem_take hx))
      · cases hl
  · cases hl
theorem field_sound (hE : TysOk E) (h : Rel base μ A w) {t : TypeId} {x v : AV} {i : Nat} {A' : AW} {cx : Value} (hl : fieldA E t x i A = .val v A') (hx : VRel μ x cx) :
    Ans E base μ A w (Instr.field t cx i) v A' := by
  unfold fieldA at hl
  split at hl
  · rename_i cs d hd
    obtain ⟨us, rfl, hr, h1⟩ := vrel_agg hx
    split at hl
    · rename_i fields hdd
      split at hl
      · rename_i fl hfl
        rw [nth_eq] at hfl
        have hfl' : fields[i]? = some fl := by simpa using hfl
        obtain ⟨cv, w', μ', a, b, c⟩ := part_sound hE h hl hr h1
        refine ⟨cv, w', μ', ?_, b, c⟩
        simp only [Instr.field, Sem.run_bind, (hE t d hd).run_und, hdd, Result.andThen_ok, hfl', asAgg, Sem.run_pure]
        exact a
      · cases hl
    · cases hl
  · cases hl
theorem indexAddr_sound (hE : TysOk E) (h : Rel base μ A w) {t : TypeId} {x i v : AV} {A' : AW} {cx ci : Value} (hl : indexAddrA E t x i A = .val v A') (hx : VRel μ x cx) (hi : VRel μ i ci) :
    Ans E base μ A w (Instr.indexAt t cx ci) v A' := by
  unfold indexAddrA at hl
  split at hl
  · rename_i k i d hd
    cases hi
    have ht := hE t d hd
    split at hl
    · rename_i e hdd
      split at hl
      · rename_i f s o n c ex de hde
        rw [blt_eq] at hl
        by_cases hlt : i < n
        · simp only [hlt, decide_true, cond_true] at hl
          cases hl
          cases hx with
          | slice hp he hn hc hxx hr =>
            rename_i p off cap
            have hsz := (hE e de hde).run_size w
            refine Ans.same h (cv := .pointer (some ⟨p.c, off + i * de.size, none⟩)) ?_ (.ptr hp (by show off + i * de.size + p.down = o + i * de.size + p.up; omega))
            simp only [Instr.indexAt, asIntOf, Sem.run_bind, Sem.run_pure, Result.andThen_ok, ht.run_und, hdd]
            rw [Sem.run_ite, if_pos (by simp only [Int.ofNat_eq_natCast]; omega)]
            simp only [Sem.run_bind, hsz, Result.andThen_ok, Sem.run_pure, Addr.add_lit, Int.ofNat_eq_natCast, Int.toNat_natCast]
        · simp [hlt] at hl
      · cases hl
    · rename_i n e hdd
      split at hl
      · rename_i f s o de hde
        rw [blt_eq] at hl
        by_cases hlt : i < n
        · simp only [hlt, decide_true, cond_true] at hl
          cases hl
          cases hx with
          | ptr hp he =>
            rename_i p off
            have hsz := (hE e de hde).run_size w
            refine Ans.same h (cv := .pointer (some ⟨p.c, off + i * de.size, none⟩)) ?_ (.ptr hp (by show off + i * de.size + p.down = o + i * de.size + p.up; omega))
            simp only [Instr.indexAt, asIntOf, Sem.run_bind, Sem.run_pure, Result.andThen_ok, ht.run_und, hdd, Instr.sureAddr]
            rw [Sem.run_ite, if_pos (by simp only [Int.ofNat_eq_natCast]; omega)]
            simp only [Sem.run_bind, hsz, Result.andThen_ok, Sem.run_pure, Addr.add_lit, Int.ofNat_eq_natCast, Int.toNat_natCast]
        · simp [hlt] at hl
      · cases hl
    · cases hl
  · cases hl
theorem index_sound (hE : TysOk E) (h : Rel base μ A w) {t : TypeId} {x i v : AV} {A' : AW} {cx ci : Value} (hl : indexA E t x i A = .val v A') (hx : VRel μ x cx) (hi : VRel μ i ci) :
    Ans E base μ A w (Instr.index t cx ci) v A' := by
  unfold indexA at hl
  split at hl
  · rename_i k i d hd
    cases hi
    have ht := hE t d hd
    split at hl
    · rename_i hdd
      split at hl
      · split at hl
        · rename_i s b hb
          cases hl
          rw [nth_eq] at hb
          cases hx with
          | str s =>
            have hb' : ∃ u : UInt8, s[i]? = some u ∧ u.toNat = b := by
              simp only [List.getElem?_map] at hb
              cases hu : s.data.toList[i]? with
              | none => rw [hu] at hb; cases hb
              | some u =>
                rw [hu] at hb
                simp at hb
                refine ⟨u, ?_, hb⟩
                have hlt : i < s.data.toList.length := (List.getElem?_eq_some_iff.1 hu).1
                have hlt' : i < s.size := by rw [Array.length_toList] at hlt; exact hlt
                rw [getElem?_pos s i hlt']
                have := (List.getElem?_eq_some_iff.1 hu).2
                rw [← this]
                rfl
            obtain ⟨u, hu, rfl⟩ := hb'
            refine Ans.same h (cv := .int .u8 u.toNat) ?_ (.int _ _)
            simp only [Instr.index, asIntOf, Sem.run_bind, Sem.run_pure, Result.andThen_ok, ht.run_und, hdd]
            rw [if_pos (by simp only [Int.ofNat_eq_natCast]; omega)]
            simp only [Int.ofNat_eq_natCast, Int.toNat_natCast, hu, Sem.run_pure]
        · cases hl
      · cases hl
    · rename_i n e hdd
      split at hl
      · rename_i cs de hde
        obtain ⟨us, rfl, hr, h1⟩ := vrel_agg hx
        rw [blt_eq] at hl
        by_cases hlt : i < n
        · simp only [hlt, decide_true, cond_true] at hl
          obtain ⟨cv, w', μ', a, b, c⟩ := part_sound hE h hl hr h1
          refine ⟨cv, w', μ', ?_, b, c⟩
          have hsz := (hE e de hde).run_size w
          simp only [Instr.index, asIntOf, Sem.run_bind, Sem.run_pure, Result.andThen_ok, ht.run_und, hdd]
          rw [Sem.run_ite, if_pos (by simp only [Int.ofNat_eq_natCast]; omega)]
          simp only [Sem.run_bind, hsz, Result.andThen_ok, Int.ofNat_eq_natCast, Int.toNat_natCast]
          exact a
        · simp [hlt] at hl
      · cases hl
    · cases hl
  · cases hl
end
end Go.AE
