/-
  slices.Clone and slices.Delete of rows of rows of bytes. Conditions: no more than a thousand rows, at least one; Delete: of one row, of a row of one's own.
-/
import Derived.Test.YtokcplapbjhnoaaHNt2
namespace Go.Proofs.Ytokcplapbjhnoaa
open Go.RowKit Go.Proofs.YtokcplapbjhnoaaW.PrintWords Go.Proofs.YtokcplapbjhnoaaW.PrintLast Go.Proofs.YtokcplapbjhnoaaW.PrintMore
attribute [local go_sem] max2_int min2_int max_two min_two max_three min_three max_four min_four
set_option linter.unusedVariables false
set_option linter.unusedSimpArgs false

set_option maxHeartbeats 1000000 in
set_option maxRecDepth 100000 in
theorem sclone_calls (A : Option Addr) (m c : Nat) (xs : List (List Int)) (w : World) (hR : BR 5 28 w (.slice A m c) xs) (hp : 0 < xs.length) (hl : xs.length ≤ 1000) :
    Calls Try.prog 22 #[.slice A m c] w fun e w' => ∃ v, e = .returned v ∧ BR 5 28 w' v xs ∧ (∀ k, v.ownBlock = some k → w.heap.size ≤ k) ∧ Below w.heap.size w w' := by
  obtain ⟨hm, hc, hrows⟩ := BR.readsM hR
  obtain ⟨ad, rfl, _⟩ := hrows.2.2 (by omega)
  subst hm
  have HX := Lib.hid hrows
  have HL := Lib.hid hl
  clear hrows hp hc hl hR
  have hq := Lib.run_eql_slice_nil (P := Try.prog) w 46 28 (some ad) xs.length c 0 0 Try.underlying46
  have HW := Lib.hid (Below.refl w.heap.size w)
  go_enter Try.func22, Try.ntmps22
  go_wp2_with (first
    | ((with_reducible refine gate_dst (N := 5) rfl ?_); (try (refine gate_guard (by rfl) ?_; dsimp only)); refine Kd.R_lit (Kd.slice 5 (Kd.int .u8)) (w0 := w) w.heap.size 28 ?hg (N := 5) ?hd (xs := ([] : List (List Int))) (inner := []) (ok := fun _ => True) (okp := fun _ => True) ?hr ?hp (fun _ hk => hk) trivial (Below.refl _ _) (Nat.le_refl _) (by simp) ?_; (case hd => rfl); (case hg => rfl); (case hr => first | (go_simp; done) | (go_simp; rfl)); (case hp => exact (Reps.none _ _)); intro v3 w3 ho3 hb3 _ _; obtain ⟨A3, c3, m3, rfl, HM3⟩ := R_slice_n ho3; have HO3 := Lib.hid ho3; have HW3 := Lib.hid hb3; clear ho3 hb3)
    | ((with_reducible refine gate_builtin (b := .append) (xs := #[.tmp 5, .tmp 6]) rfl ?_); (try (refine gate_guard (by rfl) ?_; dsimp only)); at_builtin; refine Kd.R_append_rows (Kd.slice 5 (Kd.int .u8)) (w0 := w) 0 rfl (.tmp 5) (.tmp 6) 46 28 (.slice none 0 0) 24 rfl Try.underlying46 info_sl rfl (by decide) (by omega) (.slice A3 m3 c3) [] xs _ _ _ (fun _ => True) (fun k => k < w.heap.size) rfl rfl (Kd.R_lower HO3.out (Nat.zero_le _)) (ReadsRow.imp_ HX.out HW3.out (fun _ _ hp => Kd.M_below hp HW3.out)) (fun _ _ h => h) (fun k hk => ⟨trivial, fun e => by have := Kd.R_base HO3.out k e.symm; omega⟩) (fun _ _ => trivial) (HW3.out.mono (Nat.zero_le _)) (Nat.zero_le _) (by have := HL.out; simp; omega) ?_; intro v5 w5 ho5 _ hg5 hat5; rw [List.nil_append] at ho5; obtain ⟨A5, c5, m5, rfl, HM5⟩ := R_slice_n ho5; have HO5 := Lib.hid ho5; have HG5 := Lib.hid hg5; have HAT5 := Lib.hid hat5; clear ho5 hg5 hat5)
    | fail)
  go_ret
  refine ⟨.slice A5 m5 c5, rfl, HO5.out, fun k hk => ?_, below_grown HW3.out HG5.out (fun k e => Kd.R_base HO3.out k e)⟩
  rcases HAT5.out with e | ⟨b9, e, hl⟩
  · rw [e] at hk; exact Kd.R_base HO3.out k hk
  · rw [e] at hk; cases hk; exact Nat.le_trans HW3.out.size hl

/-- A row of one's own stays, where a cell behind its end turns. -/
theorem BR.tail {U V : TypeId} {w : World} {q m c j : Nat} {xs : List (List Int)} (h : BR U V w (.slice (some ⟨q, 0, none⟩) m c) xs) (hj : m ≤ j) (u : Value) : BR U V (w.setCell ⟨q, j, none⟩ u) (.slice (some ⟨q, 0, none⟩) m c) xs := by
  have hfr : Fr w (w.setCell ⟨q, j, none⟩ u) (fun k => k = q) := (Fr.refl w (fun k => k = q)).setCell (p := ⟨q, j, none⟩) (.inl rfl) u
  obtain ⟨h0, inner, ho, hr⟩ := h
  refine ⟨h0, inner, ?_, hr.imp_ (fun _ _ hp => ?_)⟩
  · obtain ⟨h1, h2⟩ := ho
    refine ⟨h1, ?_⟩
    rcases h2 with ⟨h2, _⟩ | ⟨g, cap, cur, e, hb, hh, hn, hmx, hsz, ht⟩
    · cases h2
    · cases e
      refine .inr ⟨q, _, _, rfl, hb, blk_set hh j u, hn, hmx, ?_, ?_⟩
      · rw [Array.size_setIfInBounds]; exact hsz
      · rw [← ht, Array.toList_setIfInBounds, List.take_set_of_le]
        show xs.length * 1 ≤ j
        omega
  · refine Kd.M_mono _ (fun k hk => hk.1) (Kd.M_move _ (fun k hk => hfr.block k hk.2.2.1 (fun e => ?_)) (Kd.M_bound _ hp))
    obtain ⟨⟨_, hne⟩, _⟩ := hk
    exact hne (by rw [e]; simp [Value.ownBlock])
theorem info_slo : ∃ i, Try.prog.info? 28 = some i ∧ i.zero = some (.slice none 0 0) ∧ i.size = 1 := by
  obtain ⟨i0, hi, hzz⟩ := Option.map_eq_some_iff.1 info_sl
  simp only [Prod.mk.injEq] at hzz
  exact ⟨i0, hi, hzz.1, hzz.2.1⟩
theorem el_sl : Try.prog.underlying 46 = some (.slice (Try.prog.elem 46)) := by
  have hel : Try.prog.elem 46 = 28 := by kernel_rfl
  rw [hel]; exact Try.underlying46
theorem el_sl' : Try.prog.elem 46 = 28 := by kernel_rfl
theorem cut3 (A : Option Addr) (n c : Nat) (lo hi mx : Int) (h0 : 0 ≤ lo) (h1 : lo ≤ hi) (h2 : hi ≤ mx) (h3 : mx ≤ c) : ∃ v, ∀ W : World, (Instr.slice 46 (.slice A n c) (some (.int .i64 lo)) (some (.int .i64 hi)) (some (.int .i64 mx))).run Try.prog W = .ok v W := by
  obtain ⟨i0, hinf, _, hsz⟩ := info_slo
  refine ⟨sliced A lo.toNat hi.toNat mx.toNat 1, fun W => ?_⟩
  rw [run_slice_any W _ A n c el_sl, el_sl']
  have e1 : (hi.toNat : Int) = hi := by omega
  have e2 : (mx.toNat : Int) = mx := by omega
  simp [Instr.sliceBounds, run_sliceBound, sizeOf, typeInfo, hinf, hsz, Result.andThen, h0, h1, h2, h3, e1, e2, (by omega : 0 ≤ hi), (by omega : 0 ≤ mx)]
theorem cutlh (q p n c : Nat) (hc : p < c) (W : World) : (Instr.slice 46 (.slice (some ⟨q, 0, none⟩) n c) (some (.int .i64 (p : Int))) (some (.int .i64 ((p + 1 : Nat) : Int))) none).run Try.prog W = .ok (.slice (some ⟨q, p, none⟩) 1 (c - p)) W := by
  obtain ⟨i0, hinf, _, hsz⟩ := info_slo
  rw [run_slice_lh W _ _ n c el_sl .i64 .i64 _ _ (by omega) (by omega) (by omega), el_sl']
  simp [sizeOf, typeInfo, hinf, hsz, sliced, Result.andThen, Addr.add]
  rw [if_neg (by omega)]
  by_cases hp : p = 0 <;> simp [hp]
theorem clear1 (q p c : Nat) (ty : TypeId) (W : World) (hc : (W.cell? ⟨q, p, none⟩).isSome = true) (hz : W.frozen? ⟨q, p, none⟩ = false) : (Builtin.clear_ #[46] ty #[.slice (some ⟨q, p, none⟩) 1 c]).run Try.prog W = .ok (.tuple #[]) (W.setCell ⟨q, p, none⟩ (.slice none 0 0)) := by
  obtain ⟨i0, hinf, hz0, hsz⟩ := info_slo
  simp [Builtin.clear_, run_underlying Try.underlying46, zeroValue, typeInfo, hinf, hz0, Result.andThen]
  rw [show (Builtin.zeroCells (Value.slice none 0 0).cells 1).toList = [.slice none 0 0] from by first | kernel_rfl | (simp [Builtin.zeroCells, Value.cells]; done) | (simp [Builtin.zeroCells, Value.cells]; rfl)]
  have h1 : ∀ j, j < [(Value.slice none 0 0)].length → (W.cell? ⟨q, p + 0 + j, none⟩).isSome = true := fun j hj => by
    obtain rfl : j = 0 := by simpa using hj
    exact hc
  have h2 : ∀ j, j < [(Value.slice none 0 0)].length → W.frozen? ⟨q, p + 0 + j, none⟩ = false := fun j hj => by
    obtain rfl : j = 0 := by simpa using hj
    exact hz
  rw [run_storeCells_cells q p [.slice none 0 0] 0 W h1 h2 (fun v hv => by rw [List.mem_singleton.1 hv]; rfl)]
  rfl

set_option maxHeartbeats 2000000 in
set_option maxRecDepth 100000 in
theorem sdelete_calls (q p m c k k1 : Nat) (xs : List (List Int)) (w : World) (h : BR 5 28 w (.slice (some ⟨q, 0, none⟩) m c) xs) (hm : m = p + 1) (hk : k ≤ p) (hk1 : k1 = k + 1) (hp : p ≤ 1000) :
    Calls Try.prog 24 #[.slice (some ⟨q, 0, none⟩) m c, .int .i64 (k : Int), .int .i64 (k1 : Int)] w fun e w' => e = .returned (.slice (some ⟨q, 0, none⟩) p c) ∧ BR 5 28 w' (.slice (some ⟨q, 0, none⟩) p c) (xs.eraseIdx k) ∧ Fr w w' (fun b => b = q) := by
  obtain ⟨hx, hc, _⟩ := BR.readsM h
  obtain ⟨i0, hinf, _, hsz⟩ := info_slo
  obtain ⟨v1, r1⟩ := cut3 (some ⟨q, 0, none⟩) m c (k : Int) (k1 : Int) (m : Int) (by omega) (by omega) (by omega) (by omega)
  have r2 := cut_to 46 28 .i64 Try.underlying46 hinf (some ⟨q, 0, none⟩) m c (k : Int) (by omega) (by omega) (by omega)
  have r3 := cut_from 46 28 .i64 Try.underlying46 hinf 1 hsz (some ⟨q, 0, none⟩) m c (k1 : Int) (by omega) (by omega)
  obtain ⟨A5, hA5⟩ : ∃ A, A = (if c = (k1 : Int).toNat then some (⟨q, 0, none⟩ : Addr) else (some (⟨q, 0, none⟩ : Addr)).map (·.add ((k1 : Int).toNat * 1))) := ⟨_, rfl⟩
  obtain ⟨m5, hm5⟩ : ∃ m5, m5 = m - (k1 : Int).toNat := ⟨_, rfl⟩
  obtain ⟨c5, hc5⟩ : ∃ c5, c5 = c - (k1 : Int).toNat := ⟨_, rfl⟩
  rw [← hA5, ← hm5, ← hc5] at r3
  rw [Int.toNat_natCast] at r2 hA5 hm5
  have e1 : ((k : Int) == (k1 : Int)) = false := beq_eq_false_iff_ne.2 (by omega)
  have hcl : ∀ ty W, (W.cell? ⟨q, p, none⟩).isSome = true → W.frozen? ⟨q, p, none⟩ = false → (Builtin.clear_ #[46] ty #[.slice (some ⟨q, p, none⟩) 1 (c - p)]).run Try.prog W = .ok (.tuple #[]) (W.setCell ⟨q, p, none⟩ (.slice none 0 0)) := fun ty W => clear1 q p (c - p) ty W
  have r4 : ∀ W : World, (Instr.slice 46 (.slice (some ⟨q, 0, none⟩) p c) (some (.int .i64 (p : Int))) (some (.int .i64 (m : Int))) none).run Try.prog W = .ok (.slice (some ⟨q, p, none⟩) 1 (c - p)) W := fun W => by rw [hm]; exact cutlh q p p c (by omega) W
  have H := Lib.hid h
  have HA5 : Hid (A5 = if c = k + 1 then some (⟨q, 0, none⟩ : Addr) else (some (⟨q, 0, none⟩ : Addr)).map (·.add ((k + 1) * 1))) := by rw [← hk1]; exact hA5
  have HM5 : Hid (m5 = m - (k + 1)) := by rw [← hk1]; exact hm5
  have HM := Lib.hid hm
  have HK := Lib.hid hk
  have HC : Hid (p < c) := by show p < c; omega
  have HCL := Lib.hid hcl
  have HSZ : Hid ((Try.prog.info? 28).map (·.size) = some 1) := by show _ = _; rw [hinf]; simp [hsz]
  clear h hm hk hx hc hA5 hm5 hc5 hcl hk1 hinf hsz
  go_enter Try.func24, Try.ntmps24
  go_wp2_with fail
  refine start_ (n := 8) (S := fun w' => True) (ds := []) #[false, false, false, false, false, false, false, false] (by kernel_rfl) rfl rfl trivial (fun hHeld => ?_)
  clear hHeld
  refine pure_ (i := 0) (N := some 20) (v := ?_) (a' := ?_) #[true, false, false, false, false, false, false, false] rfl rfl (by kernel_rfl) (fun _ _ _ h => h) (Or.inl ⟨by rfl, ?_⟩) ?_ ?_
  rotate_left
  · intro w'
    go_simp
    with_reducible rfl
  rotate_left
  · simp only [Act.put, List.setIfInBounds_toArray, List.set_cons_zero, List.set_cons_succ, i64_w, i32_w]
    rfl
  refine pure_ (i := 1) (N := some 21) (v := ?_) (a' := ?_) #[true, true, false, false, false, false, false, false] rfl rfl (by kernel_rfl) (fun _ _ _ h => h) (Or.inl ⟨by rfl, ?_⟩) ?_ ?_
  rotate_left
  · intro w'
    go_simp
    with_reducible rfl
  rotate_left
  · simp only [Act.put, List.setIfInBounds_toArray, List.set_cons_zero, List.set_cons_succ, i64_w, i32_w]
    rfl
  refine pure_ (i := 2) (N := some 22) (v := ?_) (a' := ?_) #[true, true, true, false, false, false, false, false] rfl rfl (by kernel_rfl) (fun _ _ _ h => h) (Or.inl ⟨by rfl, ?_⟩) ?_ ?_
  rotate_left
  · intro w'
    go_simp
    with_reducible rfl
  rotate_left
  · simp only [Act.put, List.setIfInBounds_toArray, List.set_cons_zero, List.set_cons_succ, i64_w, i32_w]
    rfl
  refine pure_ (i := 3) (N := some 23) (v := ?_) (a' := ?_) #[true, true, true, true, false, false, false, false] rfl rfl (by kernel_rfl) (fun _ _ _ h => h) (Or.inl ⟨by rfl, ?_⟩) ?_ ?_
  rotate_left
  · intro w'
    go_simp
    with_reducible rfl
  rotate_left
  · simp only [Act.put, List.setIfInBounds_toArray, List.set_cons_zero, List.set_cons_succ, i64_w, i32_w]
    rfl
  refine pure_ (i := 4) (N := some 24) (v := ?_) (a' := ?_) #[true, true, true, true, true, false, false, false] rfl rfl (by kernel_rfl) (fun _ _ _ h => h) (Or.inl ⟨by rfl, ?_⟩) ?_ ?_
  rotate_left
  · intro w'
    go_simp
    with_reducible rfl
  rotate_left
  · simp only [Act.put, List.setIfInBounds_toArray, List.set_cons_zero, List.set_cons_succ, i64_w, i32_w]
    rfl
  refine pure_ (i := 5) (N := some 25) (v := ?_) (a' := ?_) #[true, true, true, true, true, true, false, false] rfl rfl (by kernel_rfl) (fun _ _ _ h => h) (Or.inl ⟨by rfl, ?_⟩) ?_ ?_
  rotate_left
  · intro w'
    go_simp
    with_reducible rfl
  rotate_left
  · simp only [Act.put, List.setIfInBounds_toArray, List.set_cons_zero, List.set_cons_succ, i64_w, i32_w]
    rfl
  refine one_ (i := 6) (N := some 26) #[true, true, true, true, true, true, true, false] rfl rfl (by kernel_rfl) (by decide) (fun K hK => ?_)
  refine Kd.R_delete_step (Kd.slice 5 (Kd.int .u8)) (w0 := w.drew) 0 (by rfl) (.tmp 22) (.tmp 25) 46 28 rfl Try.underlying46 HSZ.out (g := q) (n := m) (c := c) (k := k) (m := m5) (c2 := c5) (A := A5) (xs := xs) (ok := fun _ => True) rfl rfl HA5.out HM5.out (Kd.R_below H.out (below_drew (Below.refl _ _))) (by have := HM.out; have := HK.out; omega) (Below.refl 0 _) (Nat.zero_le _) ?_
  intro w6 ho6 _ hg6
  have em : m - 1 = p := by have := HM.out; omega
  rw [em] at ho6 ⊢
  have HO6 := Lib.hid ho6
  have HF6 : Hid (Fr w w6 (fun b => b = q)) := (Fr.of_below (below_drew (Below.refl _ _)) _).then_ (fr_grown hg6) (fun i hi => .inl (by cases hi; rfl))
  clear ho6 hg6 em
  refine hK.out _ _ trivial (fun _ => ?_)
  clear hK K
  try (refine norm_ (a' := ?_) ?_ ?_; rotate_left; focus (simp only [Act.put, List.setIfInBounds_toArray, List.set_cons_zero, List.set_cons_succ, i64_w, i32_w]; rfl))
  refine pure_ (i := 7) (N := some 0) (v := ?_) (a' := ?_) #[true, true, true, true, true, true, true, true] rfl rfl (by kernel_rfl) (fun _ _ _ h => h) (Or.inl ⟨by rfl, ?_⟩) ?_ ?_
  rotate_left
  · intro w'
    go_simp
    with_reducible rfl
  rotate_left
  · simp only [Act.put, List.setIfInBounds_toArray, List.set_cons_zero, List.set_cons_succ, i64_w, i32_w]
    rfl
  refine done_ (by kernel_rfl) ?_
  obtain ⟨cells, hcell⟩ := Kd.R_typed HO6.out q (by simp [Value.ownBlock])
  have hs : (w6.cell? ⟨q, p, none⟩).isSome = true := by
    obtain ⟨p', hp'⟩ : ∃ p', p' = p := ⟨_, rfl⟩
    rw [← hp']
    obtain ⟨_, inner, ⟨_, ho⟩, _⟩ := HO6.out
    rcases ho with ⟨ho, _⟩ | ⟨g, cap, cur, e, _, hh, _, _, hsz, _⟩
    · cases ho
    · cases e
      rw [blk_cell hh p']
      have : p' < cur.size := by rw [hsz]; have := HC.out; show p' < c * 1; omega
      simp [this]
  have hz : w6.frozen? ⟨q, p, none⟩ = false := blk_frozen hcell p
  have hcl := fun ty => HCL.out ty w6 hs hz
  clear hcell hs hz
  go_wp2_with fail
  go_ret
  exact ⟨rfl, BR.tail HO6.out (Nat.le_refl _) _, HF6.out.setCell (p := ⟨q, p, none⟩) (.inl rfl) _⟩

end Go.Proofs.Ytokcplapbjhnoaa
