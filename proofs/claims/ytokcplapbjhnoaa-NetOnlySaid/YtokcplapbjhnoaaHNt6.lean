/-
  The document's net: Take, Copy, Lose. Condition: a net that may be.
-/
import Derived.Test.YtokcplapbjhnoaaHNt5
namespace Go.Proofs.Ytokcplapbjhnoaa
open Go.RowKit Go.Proofs.YtokcplapbjhnoaaW.PrintWords Go.Proofs.YtokcplapbjhnoaaW.PrintLast Go.Proofs.YtokcplapbjhnoaaW.PrintMore
attribute [local go_sem] max2_int min2_int max_two min_two max_three min_three max_four min_four
set_option linter.unusedVariables false
set_option linter.unusedSimpArgs false

theorem rows_take {R : List Int → List Value → Prop} {w : World} {A : Option Addr} {m j : Nat} {xs : List (List Int)} (h : ReadsRow R 1 w A m xs) (hj : j ≤ m) : ReadsRow R 1 w A j (xs.take j) := by
  refine ⟨by rw [List.length_take, h.1]; omega, by have := h.2.1; omega, fun hp => ?_⟩
  obtain ⟨ad, e, hh⟩ := h.2.2 (by omega)
  refine ⟨ad, e, fun k p hk => hh k p ?_⟩
  rw [List.getElem?_take] at hk
  split at hk
  · exact hk
  · cases hk
theorem rows_drop {R : List Int → List Value → Prop} {w : World} {ad : Addr} {A : Option Addr} {m j : Nat} {xs : List (List Int)} (h : ReadsRow R 1 w (some ad) m xs) (hj : j ≤ m) (hA : j < m → A = some (ad.add j)) : ReadsRow R 1 w A (m - j) (xs.drop j) := by
  refine ⟨by rw [List.length_drop, h.1], by have := h.2.1; omega, fun hp => ?_⟩
  obtain ⟨ad', e, hh⟩ := h.2.2 (by omega)
  cases e
  refine ⟨ad.add j, hA (by omega), fun k p hk => ?_⟩
  rw [List.getElem?_drop] at hk
  obtain ⟨c, h1, h2, h3⟩ := hh (j + k) p hk
  refine ⟨c, h1, h2, fun i u hu => ?_⟩
  have := h3 i u hu
  rw [Nat.mul_one] at this ⊢
  rw [← this]
  congr 1
  simp only [Addr.add_add]
  congr 1
  omega
set_option maxHeartbeats 4000000 in
set_option maxRecDepth 100000 in
theorem ref_Take (g : Nat) (O : Nat → Prop) (n : NtS) (i j : Int) (w : World) (h : RN w g O n) (hok : n.ok) :
    Calls Try.prog 26 #[.pointer (some ⟨g, 0, none⟩), .int .i64 i, .int .i64 j] w fun e w' => ∃ O' vo, e = .returned (.tuple #[vo, .int .i64 (n.place i j)]) ∧ (Kd.int .u8).R 5 w' 0 (fun _ => True) vo (n.taken i j) ∧ RN w' g O' (n.take i j) ∧ Ext w w' O O' := by
  by_cases h0 : n.place i j = 0
  · obtain ⟨hi, hj0, hj1⟩ := place_in h0
    obtain ⟨k, rfl⟩ : ∃ k : Nat, j = k := ⟨j.toNat, by omega⟩
    have hj : k < (n.way i).length := by omega
    obtain ⟨v, hv, hr, _, _⟩ := h.ways hi
    obtain ⟨A, c, rfl⟩ := Kd.R_slice hr
    obtain ⟨hw1, hw2⟩ := NtS.ok_way hok i
    have hroom := hok.2.1
    obtain ⟨ad, Ab, nb, cb, rfl, y4, HNB, hrb⟩ := BR.elem hr k hj
    have E1 : Hid (n.take i (k : Int) = n.setWay i ((n.way i).take k ++ (n.way i).drop (k + 1))) := by show _ = _; unfold NtS.take; rw [if_pos h0, Int.toNat_natCast, List.eraseIdx_eq_take_drop_succ]
    have E2 : Hid (n.taken i (k : Int) = (n.way i)[k]) := by show _ = _; unfold NtS.taken; rw [if_pos h0, Int.toNat_natCast, List.getD_eq_getElem?_getD, List.getElem?_eq_getElem hj]; rfl
    obtain ⟨x, hx⟩ : ∃ x, x = (n.way i)[k] := ⟨_, rfl⟩
    rw [← hx] at hrb HNB E2
    obtain ⟨_, hmc, hrows⟩ := BR.readsM hr
    obtain ⟨m, hm⟩ : ∃ m, m = (n.way i).length := ⟨_, rfl⟩
    rw [← hm] at hv hr hj hw1 hrows hmc
    obtain ⟨i0, hinf, _, hsz⟩ := info_slo
    obtain ⟨k1, hk1⟩ : ∃ k1 : Nat, k1 = k + 1 := ⟨_, rfl⟩
    have r2 := cut_to 46 28 .i64 Try.underlying46 hinf (some ad) m c (k : Int) (by omega) (by omega) hmc
    have r3 := cut_from 46 28 .i64 Try.underlying46 hinf 1 hsz (some ad) m c (k1 : Int) (by omega) (by omega)
    obtain ⟨A5, hA5⟩ : ∃ A, A = (if c = (k1 : Int).toNat then some ad else (some ad).map (·.add ((k1 : Int).toNat * 1))) := ⟨_, rfl⟩
    obtain ⟨m5, hm5⟩ : ∃ m5, m5 = m - (k1 : Int).toNat := ⟨_, rfl⟩
    obtain ⟨c5, hc5⟩ : ∃ c5, c5 = c - (k1 : Int).toNat := ⟨_, rfl⟩
    rw [← hA5, ← hm5, ← hc5] at r3
    rw [Int.toNat_natCast] at r2 hA5 hm5
    have e1 : IntKind.i64.wrap ((k : Int) + 1) = (k1 : Int) := by rw [hk1]; exact IntWalk.i64_in _ (by omega)
    have HT := Lib.hid (rows_take hrows (j := k) (by omega))
    have HD : Hid (ReadsRow ((Kd.slice 5 (Kd.int .u8)).M w 0 (fun k => k < w.heap.size)) 1 w A5 m5 ((n.way i).drop (k + 1))) := by
      show ReadsRow _ _ _ _ _ _
      rw [hm5, ← hk1]
      refine rows_drop hrows (by omega) (fun hlt => ?_)
      rw [hA5, if_neg (by omega), Nat.mul_one]
      rfl
    have HRB := Lib.hid hrb
    have H := Lib.hid h
    have HM := Lib.hid hm
    have HM5 := Lib.hid hm5
    have p1 : (0 ≤ (k : Int)) = True := eq_true (by omega)
    have p2 : ((k : Int) < (m : Int)) = True := eq_true (by omega)
    have HJ := Lib.hid hj
    have HML : Hid (m ≤ 1000) := by show m ≤ 1000; omega
    have P0 := Lib.hid h0
    clear h hr hok hw2 hx hrb hm hrows hmc hA5 hm5 hc5 hinf hsz hk1 h0 hj hj0 hj1
    rcases hi with rfl | rfl
    · skip
      have c2 : w.cell? ⟨g, 2, none⟩ = some (.slice (some ad) m c) := hv
      clear hv
      go_enter Try.func26, Try.ntmps26
      go_wp2_with (first | (go_at_call 30; refine (place_calls g O n 0 k _ H.out).mono ?_; rw [P0.out]; rintro e w' ⟨rfl, hw⟩; obtain rfl := hw.symm) | fail)
      refine start_ (n := 26) (S := fun w' => w'.cell? ⟨g, 2, none⟩ = some (.slice (some ad) m c)) (ds := [25]) #[false, false, false, false, false, false, false, false, false, false, false, false, false, false, false, false, false, false, false, false, false, false, false, false, false, false] (by kernel_rfl) rfl rfl c2 (fun hHeld => ?_)
      obtain ⟨W2, hW2⟩ : ∃ W2, w.drew = W2 := ⟨_, rfl⟩
      have hbw : Below w.heap.size w W2 := by rw [← hW2]; exact below_drew (Below.refl _ _)
      rw [hW2] at hHeld ⊢
      clear hW2
      have HW := Lib.hid hbw
      have HBW := Lib.hid hbw
      clear hbw
      refine pure_ (i := 0) (N := some 26) (v := ?_) (a' := ?_) #[true, false, false, false, false, false, false, false, false, false, false, false, false, false, false, false, false, false, false, false, false, false, false, false, false, false] rfl rfl (by kernel_rfl) (fun _ _ _ h => h) (Or.inl ⟨by rfl, ?_⟩) ?_ ?_
      rotate_left
      · intro w'
        go_simp
        with_reducible rfl
      rotate_left
      · simp only [Act.put, List.setIfInBounds_toArray, List.set_cons_zero, List.set_cons_succ, i64_w, i32_w]
        rfl
      refine pure_ (i := 1) (N := some 27) (v := ?_) (a' := ?_) #[true, true, false, false, false, false, false, false, false, false, false, false, false, false, false, false, false, false, false, false, false, false, false, false, false, false] rfl rfl (by kernel_rfl) (fun _ _ _ h => h) (Or.inl ⟨by rfl, ?_⟩) ?_ ?_
      rotate_left
      · intro w'
        go_simp
        with_reducible rfl
      rotate_left
      · simp only [Act.put, List.setIfInBounds_toArray, List.set_cons_zero, List.set_cons_succ, i64_w, i32_w]
        rfl
      refine pure_ (i := 3) (N := some 29) (v := ?_) (a' := ?_) #[true, true, false, true, false, false, false, false, false, false, false, false, false, false, false, false, false, false, false, false, false, false, false, false, false, false] rfl rfl (by kernel_rfl) (fun _ _ _ h => h) (Or.inl ⟨by rfl, ?_⟩) ?_ ?_
      rotate_left
      · intro w'
        go_simp
        with_reducible rfl
      rotate_left
      · simp only [Act.put, List.setIfInBounds_toArray, List.set_cons_zero, List.set_cons_succ, i64_w, i32_w]
        rfl
      refine pure_ (i := 4) (N := some 30) (v := ?_) (a' := ?_) #[true, true, false, true, true, false, false, false, false, false, false, false, false, false, false, false, false, false, false, false, false, false, false, false, false, false] rfl rfl (by kernel_rfl) (fun _ _ _ h => h) (Or.inl ⟨by rfl, ?_⟩) ?_ ?_
      rotate_left
      · intro w'
        go_simp
        with_reducible rfl
      rotate_left
      · simp only [Act.put, List.setIfInBounds_toArray, List.set_cons_zero, List.set_cons_succ, i64_w, i32_w]
        rfl
      refine pure_ (i := 5) (N := some 31) (v := ?_) (a' := ?_) #[true, true, false, true, true, true, false, false, false, false, false, false, false, false, false, false, false, false, false, false, false, false, false, false, false, false] rfl rfl (by kernel_rfl) (fun _ _ _ h => h) (Or.inl ⟨by rfl, ?_⟩) ?_ ?_
      rotate_left
      · intro w'
        go_simp
        with_reducible rfl
      rotate_left
      · simp only [Act.put, List.setIfInBounds_toArray, List.set_cons_zero, List.set_cons_succ, i64_w, i32_w]
        rfl
      refine pure_ (i := 6) (N := some 32) (v := ?_) (a' := ?_) #[true, true, false, true, true, true, true, false, false, false, false, false, false, false, false, false, false, false, false, false, false, false, false, false, false, false] rfl rfl (by kernel_rfl) (fun _ _ _ h => h) (Or.inl ⟨by rfl, ?_⟩) ?_ ?_
      rotate_left
      · intro w'
        go_simp
        with_reducible rfl
      rotate_left
      · simp only [Act.put, List.setIfInBounds_toArray, List.set_cons_zero, List.set_cons_succ, i64_w, i32_w]
        rfl
      refine pure_ (i := 7) (N := some 33) (v := ?_) (a' := ?_) #[true, true, false, true, true, true, true, true, false, false, false, false, false, false, false, false, false, false, false, false, false, false, false, false, false, false] rfl rfl (by kernel_rfl) (fun _ _ _ h => h) (Or.inl ⟨by rfl, ?_⟩) ?_ ?_
      rotate_left
      · intro w'
        go_simp
        with_reducible rfl
      rotate_left
      · simp only [Act.put, List.setIfInBounds_toArray, List.set_cons_zero, List.set_cons_succ, i64_w, i32_w]
        rfl
      refine pure_ (i := 9) (N := some 35) (v := ?_) (a' := ?_) #[true, true, false, true, true, true, true, true, false, true, false, false, false, false, false, false, false, false, false, false, false, false, false, false, false, false] rfl rfl (by kernel_rfl) (fun _ _ _ h => h) (Or.inl ⟨by rfl, ?_⟩) ?_ ?_
      rotate_left
      · intro w'
        go_simp
        with_reducible rfl
      rotate_left
      · simp only [Act.put, List.setIfInBounds_toArray, List.set_cons_zero, List.set_cons_succ, i64_w, i32_w]
        rfl
      refine pure_ (i := 12) (N := some 38) (v := ?_) (a' := ?_) #[true, true, false, true, true, true, true, true, false, true, false, false, true, false, false, false, false, false, false, false, false, false, false, false, false, false] rfl rfl (by kernel_rfl) (fun _ _ _ h => h) (Or.inl ⟨by rfl, ?_⟩) ?_ ?_
      rotate_left
      · intro w'
        go_simp
        with_reducible rfl
      rotate_left
      · simp only [Act.put, List.setIfInBounds_toArray, List.set_cons_zero, List.set_cons_succ, i64_w, i32_w]
        rfl
      refine pure_ (i := 13) (N := some 39) (v := ?_) (a' := ?_) #[true, true, false, true, true, true, true, true, false, true, false, false, true, true, false, false, false, false, false, false, false, false, false, false, false, false] rfl rfl (by kernel_rfl) (fun _ _ _ h => h) (Or.inl ⟨by rfl, ?_⟩) ?_ ?_
      rotate_left
      · intro w'
        go_simp
        with_reducible rfl
      rotate_left
      · simp only [Act.put, List.setIfInBounds_toArray, List.set_cons_zero, List.set_cons_succ, i64_w, i32_w]
        rfl
      refine pure_ (i := 14) (N := some 40) (v := ?_) (a' := ?_) #[true, true, false, true, true, true, true, true, false, true, false, false, true, true, true, false, false, false, false, false, false, false, false, false, false, false] rfl rfl (by kernel_rfl) (fun _ _ _ h => h) (Or.inl ⟨by rfl, ?_⟩) ?_ ?_
      rotate_left
      · intro w'
        go_simp
        with_reducible rfl
      rotate_left
      · simp only [Act.put, List.setIfInBounds_toArray, List.set_cons_zero, List.set_cons_succ, i64_w, i32_w]
        rfl
      refine pure_ (i := 15) (N := some 41) (v := ?_) (a' := ?_) #[true, true, false, true, true, true, true, true, false, true, false, false, true, true, true, true, false, false, false, false, false, false, false, false, false, false] rfl rfl (by kernel_rfl) (fun _ _ _ h => h) (Or.inl ⟨by rfl, ?_⟩) ?_ ?_
      rotate_left
      · intro w'
        go_simp
        with_reducible rfl
      rotate_left
      · simp only [Act.put, List.setIfInBounds_toArray, List.set_cons_zero, List.set_cons_succ, i64_w, i32_w]
        rfl
      refine pure_ (i := 16) (N := some 42) (v := ?_) (a' := ?_) #[true, true, false, true, true, true, true, true, false, true, false, false, true, true, true, true, true, false, false, false, false, false, false, false, false, false] rfl rfl (by kernel_rfl) (fun _ _ _ h => h) (Or.inl ⟨by rfl, ?_⟩) ?_ ?_
      rotate_left
      · intro w'
        go_simp
        with_reducible rfl
      rotate_left
      · simp only [Act.put, List.setIfInBounds_toArray, List.set_cons_zero, List.set_cons_succ, i64_w, i32_w]
        rfl
      refine pure_ (i := 18) (N := some 44) (v := ?_) (a' := ?_) #[true, true, false, true, true, true, true, true, false, true, false, false, true, true, true, true, true, false, true, false, false, false, false, false, false, false] rfl rfl (by kernel_rfl) (fun _ _ _ h => h) (Or.inl ⟨by rfl, ?_⟩) ?_ ?_
      rotate_left
      · intro w'
        go_simp
        with_reducible rfl
      rotate_left
      · simp only [Act.put, List.setIfInBounds_toArray, List.set_cons_zero, List.set_cons_succ, i64_w, i32_w]
        rfl
      refine pure_ (i := 19) (N := some 45) (v := ?_) (a' := ?_) #[true, true, false, true, true, true, true, true, false, true, false, false, true, true, true, true, true, false, true, true, false, false, false, false, false, false] rfl rfl (by kernel_rfl) (fun _ _ _ h => h) (Or.inl ⟨by rfl, ?_⟩) ?_ ?_
      rotate_left
      · intro w'
        go_simp
        with_reducible rfl
      rotate_left
      · simp only [Act.put, List.setIfInBounds_toArray, List.set_cons_zero, List.set_cons_succ, i64_w, i32_w]
        rfl
      refine pure_ (i := 22) (N := some 48) (v := ?_) (a' := ?_) #[true, true, false, true, true, true, true, true, false, true, false, false, true, true, true, true, true, false, true, true, false, false, true, false, false, false] rfl rfl (by kernel_rfl) (fun _ _ _ h => h) (Or.inl ⟨by rfl, ?_⟩) ?_ ?_
      rotate_left
      · intro w'
        go_simp
        with_reducible rfl
      rotate_left
      · simp only [Act.put, List.setIfInBounds_toArray, List.set_cons_zero, List.set_cons_succ, i64_w, i32_w]
        rfl
      refine pure_ (i := 23) (N := some 49) (v := ?_) (a' := ?_) #[true, true, false, true, true, true, true, true, false, true, false, false, true, true, true, true, true, false, true, true, false, false, true, true, false, false] rfl rfl (by kernel_rfl) (fun _ _ _ h => h) (Or.inl ⟨by rfl, ?_⟩) ?_ ?_
      rotate_left
      · intro w'
        go_simp
        with_reducible rfl
      rotate_left
      · simp only [Act.put, List.setIfInBounds_toArray, List.set_cons_zero, List.set_cons_succ, i64_w, i32_w]
        rfl
      refine take_ (i := 8) (N := some 34) (v := ?_) (a' := ?_) #[true, true, false, true, true, true, true, true, true, true, false, false, true, true, true, true, true, false, true, true, false, false, true, true, false, false] rfl rfl (by kernel_rfl) (fun _ _ _ h => h) (Or.inl ⟨by rfl, ?_⟩) hHeld ?_ ?_
      rotate_left
      · rintro w' s0
        go_simp
        with_reducible rfl
      rotate_left
      · simp only [Act.put, List.setIfInBounds_toArray, List.set_cons_zero, List.set_cons_succ, i64_w, i32_w]
        rfl
      refine pure_ (i := 10) (N := some 36) (v := ?_) (a' := ?_) #[true, true, false, true, true, true, true, true, true, true, true, false, true, true, true, true, true, false, true, true, false, false, true, true, false, false] rfl rfl (by kernel_rfl) (fun _ _ _ h => h) (Or.inl ⟨by rfl, ?_⟩) ?_ ?_
      rotate_left
      · intro w'
        go_simp
        with_reducible rfl
      rotate_left
      · simp only [Act.put, List.setIfInBounds_toArray, List.set_cons_zero, List.set_cons_succ, i64_w, i32_w]
        rfl
      refine take_ (i := 17) (N := some 43) (v := ?_) (a' := ?_) #[true, true, false, true, true, true, true, true, true, true, true, false, true, true, true, true, true, true, true, true, false, false, true, true, false, false] rfl rfl (by kernel_rfl) (fun _ _ _ h => h) (Or.inl ⟨by rfl, ?_⟩) hHeld ?_ ?_
      rotate_left
      · rintro w' s0
        go_simp
        with_reducible rfl
      rotate_left
      · simp only [Act.put, List.setIfInBounds_toArray, List.set_cons_zero, List.set_cons_succ, i64_w, i32_w]
        rfl
      refine pure_ (i := 20) (N := some 46) (v := ?_) (a' := ?_) #[true, true, false, true, true, true, true, true, true, true, true, false, true, true, true, true, true, true, true, true, true, false, true, true, false, false] rfl rfl (by kernel_rfl) (fun _ _ _ h => h) (Or.inl ⟨by rfl, ?_⟩) ?_ ?_
      rotate_left
      · intro w'
        go_simp
        with_reducible rfl
      rotate_left
      · simp only [Act.put, List.setIfInBounds_toArray, List.set_cons_zero, List.set_cons_succ, i64_w, i32_w]
        rfl
      refine one_ (i := 2) (N := some 28) #[true, true, true, true, true, true, true, true, true, true, true, false, true, true, true, true, true, true, true, true, true, false, true, true, false, false] rfl rfl (by kernel_rfl) (by decide) (fun K hK => ?_)
      refine Kd.R_lit_step (Kd.slice 5 (Kd.int .u8)) (w0 := W2) W2.heap.size 28 ?hg (N := 28) ?hd (xs := ([] : List (List Int))) (inner := []) (ok := fun _ => True) (okp := fun _ => True) ?hr ?hp (fun _ hk => hk) trivial (Below.refl _ _) (Nat.le_refl _) (by simp) ?_
      (case hd => rfl)
      (case hg => rfl)
      (case hr => first | (go_simp; done) | (go_simp; rfl))
      (case hp => exact Reps.none _ _)
      intro v3 w3 ho3 hb3 _ _
      obtain ⟨A3, c3, m3, rfl, HM3⟩ := R_slice_n ho3
      have HO3 := Lib.hid ho3
      have t1 := Lib.hid (HW.out.trans (hb3.mono HW.out.size))
      clear HW hHeld ho3 hb3
      have HW := t1
      clear t1
      refine hK.out _ _ (pw_cell_below HW.out c2) (fun hHeld => ?_)
      clear hK K
      try (refine norm_ (a' := ?_) ?_ ?_; rotate_left; focus (simp only [Act.put, List.setIfInBounds_toArray, List.set_cons_zero, List.set_cons_succ, i64_w, i32_w]; rfl))
      refine one_ (i := 11) (N := some 37) #[true, true, true, true, true, true, true, true, true, true, true, true, true, true, true, true, true, true, true, true, true, false, true, true, false, false] rfl rfl (by kernel_rfl) (by decide) (fun K hK => ?_)
      refine Kd.R_append_rows_step (Kd.slice 5 (Kd.int .u8)) (w0 := w3) 0 (by rfl) (.tmp 28) (.tmp 36) 46 28 (.slice none 0 0) 24 rfl Try.underlying46 info_sl rfl (by decide) (by omega) (.slice A3 m3 c3) [] ((n.way 0).take k) (some ad) k c (fun _ => True) (fun k => k < w.heap.size) rfl rfl (Kd.R_lower HO3.out (Nat.zero_le _)) (ReadsRow.imp_ HT.out HW.out (fun _ _ hp => Kd.M_below hp HW.out)) (fun _ _ h => h) (fun k hk => ⟨trivial, fun e => by have := Kd.R_base HO3.out k e.symm; have := HBW.out.size; omega⟩) (fun _ _ => trivial) (Below.refl 0 _) (Nat.zero_le _) (by have := HML.out; have := HJ.out; simp; omega) ?_
      intro v5 w5 ho5 _ hg5 hat5
      rw [List.nil_append] at ho5
      obtain ⟨A6, c6, m6, rfl, HM6⟩ := R_slice_n ho5
      have t1 := Lib.hid (below_grown HW.out hg5 (fun k e => by have := Kd.R_base HO3.out k e; have := HBW.out.size; omega))
      have HN5 : Hid (∀ k, (Value.slice A6 m6 c6).ownBlock = some k → w.heap.size ≤ k) := fun k hk => by
        rcases hat5 with e | ⟨b9, e, hl⟩
        · rw [e] at hk; have := Kd.R_base HO3.out k hk; have := HBW.out.size; omega
        · rw [e] at hk; cases hk; have := HW.out.size; omega
      have HO5 := Lib.hid ho5
      clear HW HO3 hHeld ho5 hg5 hat5
      have HW := t1
      clear t1
      refine hK.out _ _ (pw_cell_below HW.out c2) (fun hHeld => ?_)
      clear hK K
      try (refine norm_ (a' := ?_) ?_ ?_; rotate_left; focus (simp only [Act.put, List.setIfInBounds_toArray, List.set_cons_zero, List.set_cons_succ, i64_w, i32_w]; rfl))
      refine one_ (i := 21) (N := some 47) #[true, true, true, true, true, true, true, true, true, true, true, true, true, true, true, true, true, true, true, true, true, true, true, true, false, false] rfl rfl (by kernel_rfl) (by decide) (fun K hK => ?_)
      refine Kd.R_append_rows_step (Kd.slice 5 (Kd.int .u8)) (w0 := w5) 0 (by rfl) (.tmp 37) (.tmp 46) 46 28 (.slice none 0 0) 24 rfl Try.underlying46 info_sl rfl (by decide) (by omega) (.slice A6 m6 c6) ((n.way 0).take k) ((n.way 0).drop (k + 1)) A5 m5 c5 (fun _ => True) (fun k => k < w.heap.size) rfl rfl HO5.out (ReadsRow.imp_ HD.out HW.out (fun _ _ hp => Kd.M_below hp HW.out)) (fun _ _ h => h) (fun k hk => ⟨trivial, fun e => by have := HN5.out k e.symm; omega⟩) (fun _ _ => trivial) (Below.refl 0 _) (Nat.zero_le _) (by have := HML.out; have := HJ.out; have := HM5.out; rw [List.length_take]; omega) ?_
      intro v9 w9 ho9 _ hg9 hat9
      obtain ⟨A9, c9, m9, rfl, HM9⟩ := R_slice_n ho9
      have t1 := Lib.hid (below_grown HW.out hg9 (fun k e => HN5.out k e))
      have HAT : Hid (∀ k, (Value.slice A9 m9 c9).ownBlock = some k → w.heap.size ≤ k) := fun k hk => by
        rcases hat9 with e | ⟨b9, e, hl⟩
        · rw [e] at hk; exact HN5.out k hk
        · rw [e] at hk; cases hk; exact Nat.le_trans HW.out.size hl
      have HO9 := Lib.hid ho9
      clear HW HO5 hHeld ho9 hg9 hat9
      have HW := t1
      clear t1
      have fz := H.out.frozen (by decide) (i := 0) (by decide) c2 (Fr.of_below HW.out _) 2
      refine hK.out _ _ (pw_cell_below HW.out c2) (fun hHeld => ?_)
      clear hK K
      try (refine norm_ (a' := ?_) ?_ ?_; rotate_left; focus (simp only [Act.put, List.setIfInBounds_toArray, List.set_cons_zero, List.set_cons_succ, i64_w, i32_w]; rfl))
      refine pure_ (i := 24) (N := some 50) (v := ?_) (a' := ?_) #[true, true, true, true, true, true, true, true, true, true, true, true, true, true, true, true, true, true, true, true, true, true, true, true, true, false] rfl rfl (by kernel_rfl) (fun _ _ _ h => h) (Or.inl ⟨by rfl, ?_⟩) ?_ ?_
      rotate_left
      · intro w'
        go_simp
        with_reducible rfl
      rotate_left
      · simp only [Act.put, List.setIfInBounds_toArray, List.set_cons_zero, List.set_cons_succ, i64_w, i32_w]
        rfl
      refine last_ (i := 25) (N := none) #[true, true, true, true, true, true, true, true, true, true, true, true, true, true, true, true, true, true, true, true, true, true, true, true, true, true] rfl rfl (by kernel_rfl) (by decide) (fun K hK => ?_)
      go_simp
      clear hHeld
      refine hK.out _ _ ?_
      clear hK K
      try (refine norm_ (a' := ?_) ?_ ?_; rotate_left; focus (simp only [Act.put, List.setIfInBounds_toArray, List.set_cons_zero, List.set_cons_succ, i64_w, i32_w]; rfl))
      refine done_ (by kernel_rfl) ?_
      go_wp2_with fail
      go_ret2
      obtain ⟨O', hN, hE⟩ := H.out.stored (by decide) (by decide) (by decide) (i := 0) (by decide) c2 (Fr.of_below HW.out _) HO9.out (fun k hk => .inr (HAT.out k hk))
      refine ⟨O', .slice Ab nb cb, (by rw [P0.out]; rfl), ?_, by rw [E1.out]; exact hN, hE⟩
      rw [E2.out]
      exact R_fr (Kd.R_mono HRB.out (fun _ _ => trivial)) hE.1 (fun k hk hlt q hq cs hc => by
        rcases List.mem_cons.1 hq with rfl | hq
        · exact H.out.clean (by decide) (by decide) k hk cs hc
        · cases hq)
    · skip
      have c2 : w.cell? ⟨g, 3, none⟩ = some (.slice (some ad) m c) := hv
      clear hv
      go_enter Try.func26, Try.ntmps26
      go_wp2_with (first | (go_at_call 30; refine (place_calls g O n 1 k _ H.out).mono ?_; rw [P0.out]; rintro e w' ⟨rfl, hw⟩; obtain rfl := hw.symm) | fail)
      refine start_ (n := 26) (S := fun w' => w'.cell? ⟨g, 3, none⟩ = some (.slice (some ad) m c)) (ds := [25]) #[false, false, false, false, false, false, false, false, false, false, false, false, false, false, false, false, false, false, false, false, false, false, false, false, false, false] (by kernel_rfl) rfl rfl c2 (fun hHeld => ?_)
      obtain ⟨W2, hW2⟩ : ∃ W2, w.drew = W2 := ⟨_, rfl⟩
      have hbw : Below w.heap.size w W2 := by rw [← hW2]; exact below_drew (Below.refl _ _)
      rw [hW2] at hHeld ⊢
      clear hW2
      have HW := Lib.hid hbw
      have HBW := Lib.hid hbw
      clear hbw
      refine pure_ (i := 0) (N := some 26) (v := ?_) (a' := ?_) #[true, false, false, false, false, false, false, false, false, false, false, false, false, false, false, false, false, false, false, false, false, false, false, false, false, false] rfl rfl (by kernel_rfl) (fun _ _ _ h => h) (Or.inl ⟨by rfl, ?_⟩) ?_ ?_
      rotate_left
      · intro w'
        go_simp
        with_reducible rfl
      rotate_left
      · simp only [Act.put, List.setIfInBounds_toArray, List.set_cons_zero, List.set_cons_succ, i64_w, i32_w]
        rfl
      refine pure_ (i := 1) (N := some 27) (v := ?_) (a' := ?_) #[true, true, false, false, false, false, false, false, false, false, false, false, false, false, false, false, false, false, false, false, false, false, false, false, false, false] rfl rfl (by kernel_rfl) (fun _ _ _ h => h) (Or.inl ⟨by rfl, ?_⟩) ?_ ?_
      rotate_left
      · intro w'
        go_simp
        with_reducible rfl
      rotate_left
      · simp only [Act.put, List.setIfInBounds_toArray, List.set_cons_zero, List.set_cons_succ, i64_w, i32_w]
        rfl
      refine pure_ (i := 3) (N := some 29) (v := ?_) (a' := ?_) #[true, true, false, true, false, false, false, false, false, false, false, false, false, false, false, false, false, false, false, false, false, false, false, false, false, false] rfl rfl (by kernel_rfl) (fun _ _ _ h => h) (Or.inl ⟨by rfl, ?_⟩) ?_ ?_
      rotate_left
      · intro w'
        go_simp
        with_reducible rfl
      rotate_left
      · simp only [Act.put, List.setIfInBounds_toArray, List.set_cons_zero, List.set_cons_succ, i64_w, i32_w]
        rfl
      refine pure_ (i := 4) (N := some 30) (v := ?_) (a' := ?_) #[true, true, false, true, true, false, false, false, false, false, false, false, false, false, false, false, false, false, false, false, false, false, false, false, false, false] rfl rfl (by kernel_rfl) (fun _ _ _ h => h) (Or.inl ⟨by rfl, ?_⟩) ?_ ?_
      rotate_left
      · intro w'
        go_simp
        with_reducible rfl
      rotate_left
      · simp only [Act.put, List.setIfInBounds_toArray, List.set_cons_zero, List.set_cons_succ, i64_w, i32_w]
        rfl
      refine pure_ (i := 5) (N := some 31) (v := ?_) (a' := ?_) #[true, true, false, true, true, true, false, false, false, false, false, false, false, false, false, false, false, false, false, false, false, false, false, false, false, false] rfl rfl (by kernel_rfl) (fun _ _ _ h => h) (Or.inl ⟨by rfl, ?_⟩) ?_ ?_
      rotate_left
      · intro w'
        go_simp
        with_reducible rfl
      rotate_left
      · simp only [Act.put, List.setIfInBounds_toArray, List.set_cons_zero, List.set_cons_succ, i64_w, i32_w]
        rfl
      refine pure_ (i := 6) (N := some 32) (v := ?_) (a' := ?_) #[true, true, false, true, true, true, true, false, false, false, false, false, false, false, false, false, false, false, false, false, false, false, false, false, false, false] rfl rfl (by kernel_rfl) (fun _ _ _ h => h) (Or.inl ⟨by rfl, ?_⟩) ?_ ?_
      rotate_left
      · intro w'
        go_simp
        with_reducible rfl
      rotate_left
      · simp only [Act.put, List.setIfInBounds_toArray, List.set_cons_zero, List.set_cons_succ, i64_w, i32_w]
        rfl
      refine pure_ (i := 7) (N := some 33) (v := ?_) (a' := ?_) #[true, true, false, true, true, true, true, true, false, false, false, false, false, false, false, false, false, false, false, false, false, false, false, false, false, false] rfl rfl (by kernel_rfl) (fun _ _ _ h => h) (Or.inl ⟨by rfl, ?_⟩) ?_ ?_
      rotate_left
      · intro w'
        go_simp
        with_reducible rfl
      rotate_left
      · simp only [Act.put, List.setIfInBounds_toArray, List.set_cons_zero, List.set_cons_succ, i64_w, i32_w]
        rfl
      refine pure_ (i := 9) (N := some 35) (v := ?_) (a' := ?_) #[true, true, false, true, true, true, true, true, false, true, false, false, false, false, false, false, false, false, false, false, false, false, false, false, false, false] rfl rfl (by kernel_rfl) (fun _ _ _ h => h) (Or.inl ⟨by rfl, ?_⟩) ?_ ?_
      rotate_left
      · intro w'
        go_simp
        with_reducible rfl
      rotate_left
      · simp only [Act.put, List.setIfInBounds_toArray, List.set_cons_zero, List.set_cons_succ, i64_w, i32_w]
        rfl
      refine pure_ (i := 12) (N := some 38) (v := ?_) (a' := ?_) #[true, true, false, true, true, true, true, true, false, true, false, false, true, false, false, false, false, false, false, false, false, false, false, false, false, false] rfl rfl (by kernel_rfl) (fun _ _ _ h => h) (Or.inl ⟨by rfl, ?_⟩) ?_ ?_
      rotate_left
      · intro w'
        go_simp
        with_reducible rfl
      rotate_left
      · simp only [Act.put, List.setIfInBounds_toArray, List.set_cons_zero, List.set_cons_succ, i64_w, i32_w]
        rfl
      refine pure_ (i := 13) (N := some 39) (v := ?_) (a' := ?_) #[true, true, false, true, true, true, true, true, false, true, false, false, true, true, false, false, false, false, false, false, false, false, false, false, false, false] rfl rfl (by kernel_rfl) (fun _ _ _ h => h) (Or.inl ⟨by rfl, ?_⟩) ?_ ?_
      rotate_left
      · intro w'
        go_simp
        with_reducible rfl
      rotate_left
      · simp only [Act.put, List.setIfInBounds_toArray, List.set_cons_zero, List.set_cons_succ, i64_w, i32_w]
        rfl
      refine pure_ (i := 14) (N := some 40) (v := ?_) (a' := ?_) #[true, true, false, true, true, true, true, true, false, true, false, false, true, true, true, false, false, false, false, false, false, false, false, false, false, false] rfl rfl (by kernel_rfl) (fun _ _ _ h => h) (Or.inl ⟨by rfl, ?_⟩) ?_ ?_
      rotate_left
      · intro w'
        go_simp
        with_reducible rfl
      rotate_left
      · simp only [Act.put, List.setIfInBounds_toArray, List.set_cons_zero, List.set_cons_succ, i64_w, i32_w]
        rfl
      refine pure_ (i := 15) (N := some 41) (v := ?_) (a' := ?_) #[true, true, false, true, true, true, true, true, false, true, false, false, true, true, true, true, false, false, false, false, false, false, false, false, false, false] rfl rfl (by kernel_rfl) (fun _ _ _ h => h) (Or.inl ⟨by rfl, ?_⟩) ?_ ?_
      rotate_left
      · intro w'
        go_simp
        with_reducible rfl
      rotate_left
      · simp only [Act.put, List.setIfInBounds_toArray, List.set_cons_zero, List.set_cons_succ, i64_w, i32_w]
        rfl
      refine pure_ (i := 16) (N := some 42) (v := ?_) (a' := ?_) #[true, true, false, true, true, true, true, true, false, true, false, false, true, true, true, true, true, false, false, false, false, false, false, false, false, false] rfl rfl (by kernel_rfl) (fun _ _ _ h => h) (Or.inl ⟨by rfl, ?_⟩) ?_ ?_
      rotate_left
      · intro w'
        go_simp
        with_reducible rfl
      rotate_left
      · simp only [Act.put, List.setIfInBounds_toArray, List.set_cons_zero, List.set_cons_succ, i64_w, i32_w]
        rfl
      refine pure_ (i := 18) (N := some 44) (v := ?_) (a' := ?_) #[true, true, false, true, true, true, true, true, false, true, false, false, true, true, true, true, true, false, true, false, false, false, false, false, false, false] rfl rfl (by kernel_rfl) (fun _ _ _ h => h) (Or.inl ⟨by rfl, ?_⟩) ?_ ?_
      rotate_left
      · intro w'
        go_simp
        with_reducible rfl
      rotate_left
      · simp only [Act.put, List.setIfInBounds_toArray, List.set_cons_zero, List.set_cons_succ, i64_w, i32_w]
        rfl
      refine pure_ (i := 19) (N := some 45) (v := ?_) (a' := ?_) #[true, true, false, true, true, true, true, true, false, true, false, false, true, true, true, true, true, false, true, true, false, false, false, false, false, false] rfl rfl (by kernel_rfl) (fun _ _ _ h => h) (Or.inl ⟨by rfl, ?_⟩) ?_ ?_
      rotate_left
      · intro w'
        go_simp
        with_reducible rfl
      rotate_left
      · simp only [Act.put, List.setIfInBounds_toArray, List.set_cons_zero, List.set_cons_succ, i64_w, i32_w]
        rfl
      refine pure_ (i := 22) (N := some 48) (v := ?_) (a' := ?_) #[true, true, false, true, true, true, true, true, false, true, false, false, true, true, true, true, true, false, true, true, false, false, true, false, false, false] rfl rfl (by kernel_rfl) (fun _ _ _ h => h) (Or.inl ⟨by rfl, ?_⟩) ?_ ?_
      rotate_left
      · intro w'
        go_simp
        with_reducible rfl
      rotate_left
      · simp only [Act.put, List.setIfInBounds_toArray, List.set_cons_zero, List.set_cons_succ, i64_w, i32_w]
        rfl
      refine pure_ (i := 23) (N := some 49) (v := ?_) (a' := ?_) #[true, true, false, true, true, true, true, true, false, true, false, false, true, true, true, true, true, false, true, true, false, false, true, true, false, false] rfl rfl (by kernel_rfl) (fun _ _ _ h => h) (Or.inl ⟨by rfl, ?_⟩) ?_ ?_
      rotate_left
      · intro w'
        go_simp
        with_reducible rfl
      rotate_left
      · simp only [Act.put, List.setIfInBounds_toArray, List.set_cons_zero, List.set_cons_succ, i64_w, i32_w]
        rfl
      refine take_ (i := 8) (N := some 34) (v := ?_) (a' := ?_) #[true, true, false, true, true, true, true, true, true, true, false, false, true, true, true, true, true, false, true, true, false, false, true, true, false, false] rfl rfl (by kernel_rfl) (fun _ _ _ h => h) (Or.inl ⟨by rfl, ?_⟩) hHeld ?_ ?_
      rotate_left
      · rintro w' s0
        go_simp
        with_reducible rfl
      rotate_left
      · simp only [Act.put, List.setIfInBounds_toArray, List.set_cons_zero, List.set_cons_succ, i64_w, i32_w]
        rfl
      refine pure_ (i := 10) (N := some 36) (v := ?_) (a' := ?_) #[true, true, false, true, true, true, true, true, true, true, true, false, true, true, true, true, true, false, true, true, false, false, true, true, false, false] rfl rfl (by kernel_rfl) (fun _ _ _ h => h) (Or.inl ⟨by rfl, ?_⟩) ?_ ?_
      rotate_left
      · intro w'
        go_simp
        with_reducible rfl
      rotate_left
      · simp only [Act.put, List.setIfInBounds_toArray, List.set_cons_zero, List.set_cons_succ, i64_w, i32_w]
        rfl
      refine take_ (i := 17) (N := some 43) (v := ?_) (a' := ?_) #[true, true, false, true, true, true, true, true, true, true, true, false, true, true, true, true, true, true, true, true, false, false, true, true, false, false] rfl rfl (by kernel_rfl) (fun _ _ _ h => h) (Or.inl ⟨by rfl, ?_⟩) hHeld ?_ ?_
      rotate_left
      · rintro w' s0
        go_simp
        with_reducible rfl
      rotate_left
      · simp only [Act.put, List.setIfInBounds_toArray, List.set_cons_zero, List.set_cons_succ, i64_w, i32_w]
        rfl
      refine pure_ (i := 20) (N := some 46) (v := ?_) (a' := ?_) #[true, true, false, true, true, true, true, true, true, true, true, false, true, true, true, true, true, true, true, true, true, false, true, true, false, false] rfl rfl (by kernel_rfl) (fun _ _ _ h => h) (Or.inl ⟨by rfl, ?_⟩) ?_ ?_
      rotate_left
      · intro w'
        go_simp
        with_reducible rfl
      rotate_left
      · simp only [Act.put, List.setIfInBounds_toArray, List.set_cons_zero, List.set_cons_succ, i64_w, i32_w]
        rfl
      refine one_ (i := 2) (N := some 28) #[true, true, true, true, true, true, true, true, true, true, true, false, true, true, true, true, true, true, true, true, true, false, true, true, false, false] rfl rfl (by kernel_rfl) (by decide) (fun K hK => ?_)
      refine Kd.R_lit_step (Kd.slice 5 (Kd.int .u8)) (w0 := W2) W2.heap.size 28 ?hg (N := 28) ?hd (xs := ([] : List (List Int))) (inner := []) (ok := fun _ => True) (okp := fun _ => True) ?hr ?hp (fun _ hk => hk) trivial (Below.refl _ _) (Nat.le_refl _) (by simp) ?_
      (case hd => rfl)
      (case hg => rfl)
      (case hr => first | (go_simp; done) | (go_simp; rfl))
      (case hp => exact Reps.none _ _)
      intro v3 w3 ho3 hb3 _ _
      obtain ⟨A3, c3, m3, rfl, HM3⟩ := R_slice_n ho3
      have HO3 := Lib.hid ho3
      have t1 := Lib.hid (HW.out.trans (hb3.mono HW.out.size))
      clear HW hHeld ho3 hb3
      have HW := t1
      clear t1
      refine hK.out _ _ (pw_cell_below HW.out c2) (fun hHeld => ?_)
      clear hK K
      try (refine norm_ (a' := ?_) ?_ ?_; rotate_left; focus (simp only [Act.put, List.setIfInBounds_toArray, List.set_cons_zero, List.set_cons_succ, i64_w, i32_w]; rfl))
      refine one_ (i := 11) (N := some 37) #[true, true, true, true, true, true, true, true, true, true, true, true, true, true, true, true, true, true, true, true, true, false, true, true, false, false] rfl rfl (by kernel_rfl) (by decide) (fun K hK => ?_)
      refine Kd.R_append_rows_step (Kd.slice 5 (Kd.int .u8)) (w0 := w3) 0 (by rfl) (.tmp 28) (.tmp 36) 46 28 (.slice none 0 0) 24 rfl Try.underlying46 info_sl rfl (by decide) (by omega) (.slice A3 m3 c3) [] ((n.way 1).take k) (some ad) k c (fun _ => True) (fun k => k < w.heap.size) rfl rfl (Kd.R_lower HO3.out (Nat.zero_le _)) (ReadsRow.imp_ HT.out HW.out (fun _ _ hp => Kd.M_below hp HW.out)) (fun _ _ h => h) (fun k hk => ⟨trivial, fun e => by have := Kd.R_base HO3.out k e.symm; have := HBW.out.size; omega⟩) (fun _ _ => trivial) (Below.refl 0 _) (Nat.zero_le _) (by have := HML.out; have := HJ.out; simp; omega) ?_
      intro v5 w5 ho5 _ hg5 hat5
      rw [List.nil_append] at ho5
      obtain ⟨A6, c6, m6, rfl, HM6⟩ := R_slice_n ho5
      have t1 := Lib.hid (below_grown HW.out hg5 (fun k e => by have := Kd.R_base HO3.out k e; have := HBW.out.size; omega))
      have HN5 : Hid (∀ k, (Value.slice A6 m6 c6).ownBlock = some k → w.heap.size ≤ k) := fun k hk => by
        rcases hat5 with e | ⟨b9, e, hl⟩
        · rw [e] at hk; have := Kd.R_base HO3.out k hk; have := HBW.out.size; omega
        · rw [e] at hk; cases hk; have := HW.out.size; omega
      have HO5 := Lib.hid ho5
      clear HW HO3 hHeld ho5 hg5 hat5
      have HW := t1
      clear t1
      refine hK.out _ _ (pw_cell_below HW.out c2) (fun hHeld => ?_)
      clear hK K
      try (refine norm_ (a' := ?_) ?_ ?_; rotate_left; focus (simp only [Act.put, List.setIfInBounds_toArray, List.set_cons_zero, List.set_cons_succ, i64_w, i32_w]; rfl))
      refine one_ (i := 21) (N := some 47) #[true, true, true, true, true, true, true, true, true, true, true, true, true, true, true, true, true, true, true, true, true, true, true, true, false, false] rfl rfl (by kernel_rfl) (by decide) (fun K hK => ?_)
      refine Kd.R_append_rows_step (Kd.slice 5 (Kd.int .u8)) (w0 := w5) 0 (by rfl) (.tmp 37) (.tmp 46) 46 28 (.slice none 0 0) 24 rfl Try.underlying46 info_sl rfl (by decide) (by omega) (.slice A6 m6 c6) ((n.way 1).take k) ((n.way 1).drop (k + 1)) A5 m5 c5 (fun _ => True) (fun k => k < w.heap.size) rfl rfl HO5.out (ReadsRow.imp_ HD.out HW.out (fun _ _ hp => Kd.M_below hp HW.out)) (fun _ _ h => h) (fun k hk => ⟨trivial, fun e => by have := HN5.out k e.symm; omega⟩) (fun _ _ => trivial) (Below.refl 0 _) (Nat.zero_le _) (by have := HML.out; have := HJ.out; have := HM5.out; rw [List.length_take]; omega) ?_
      intro v9 w9 ho9 _ hg9 hat9
      obtain ⟨A9, c9, m9, rfl, HM9⟩ := R_slice_n ho9
      have t1 := Lib.hid (below_grown HW.out hg9 (fun k e => HN5.out k e))
      have HAT : Hid (∀ k, (Value.slice A9 m9 c9).ownBlock = some k → w.heap.size ≤ k) := fun k hk => by
        rcases hat9 with e | ⟨b9, e, hl⟩
        · rw [e] at hk; exact HN5.out k hk
        · rw [e] at hk; cases hk; exact Nat.le_trans HW.out.size hl
      have HO9 := Lib.hid ho9
      clear HW HO5 hHeld ho9 hg9 hat9
      have HW := t1
      clear t1
      have fz := H.out.frozen (by decide) (i := 1) (by decide) c2 (Fr.of_below HW.out _) 3
      refine hK.out _ _ (pw_cell_below HW.out c2) (fun hHeld => ?_)
      clear hK K
      try (refine norm_ (a' := ?_) ?_ ?_; rotate_left; focus (simp only [Act.put, List.setIfInBounds_toArray, List.set_cons_zero, List.set_cons_succ, i64_w, i32_w]; rfl))
      refine pure_ (i := 24) (N := some 50) (v := ?_) (a' := ?_) #[true, true, true, true, true, true, true, true, true, true, true, true, true, true, true, true, true, true, true, true, true, true, true, true, true, false] rfl rfl (by kernel_rfl) (fun _ _ _ h => h) (Or.inl ⟨by rfl, ?_⟩) ?_ ?_
      rotate_left
      · intro w'
        go_simp
        with_reducible rfl
      rotate_left
      · simp only [Act.put, List.setIfInBounds_toArray, List.set_cons_zero, List.set_cons_succ, i64_w, i32_w]
        rfl
      refine last_ (i := 25) (N := none) #[true, true, true, true, true, true, true, true, true, true, true, true, true, true, true, true, true, true, true, true, true, true, true, true, true, true] rfl rfl (by kernel_rfl) (by decide) (fun K hK => ?_)
      go_simp
      clear hHeld
      refine hK.out _ _ ?_
      clear hK K
      try (refine norm_ (a' := ?_) ?_ ?_; rotate_left; focus (simp only [Act.put, List.setIfInBounds_toArray, List.set_cons_zero, List.set_cons_succ, i64_w, i32_w]; rfl))
      refine done_ (by kernel_rfl) ?_
      go_wp2_with fail
      go_ret2
      obtain ⟨O', hN, hE⟩ := H.out.stored (by decide) (by decide) (by decide) (i := 1) (by decide) c2 (Fr.of_below HW.out _) HO9.out (fun k hk => .inr (HAT.out k hk))
      refine ⟨O', .slice Ab nb cb, (by rw [P0.out]; rfl), ?_, by rw [E1.out]; exact hN, hE⟩
      rw [E2.out]
      exact R_fr (Kd.R_mono HRB.out (fun _ _ => trivial)) hE.1 (fun k hk hlt q hq cs hc => by
        rcases List.mem_cons.1 hq with rfl | hq
        · exact H.out.clean (by decide) (by decide) k hk cs hc
        · cases hq)
  · have E1 : Hid (n.take i j = n) := by show _ = _; unfold NtS.take; rw [if_neg h0]
    have E2 : Hid (n.taken i j = []) := by show _ = _; unfold NtS.taken; rw [if_neg h0]
    have H := Lib.hid h
    have e0 : ((n.place i j) == 0) = false := beq_eq_false_iff_ne.2 h0
    clear h hok h0
    go_enter Try.func26, Try.ntmps26
    go_wp2_with (first | (go_at_call 30; refine (place_calls g O n i j _ H.out).mono ?_; rintro e w' ⟨rfl, hw⟩; obtain rfl := hw.symm) | fail)
    go_ret2
    rw [E1.out, E2.out]
    exact ⟨O, _, rfl, Kd.R_nil _ _ _ _ _, H.out, Ext.refl _ _⟩
set_option maxHeartbeats 1000000 in
theorem ref_Lose (g : Nat) (O : Nat → Prop) (n : NtS) (i j : Int) (w : World) (h : RN w g O n) (hok : n.ok) :
    Calls Try.prog 28 #[.pointer (some ⟨g, 0, none⟩), .int .i64 i, .int .i64 j] w fun e w' => ∃ O', e = .returned (.int .i64 (n.place i j)) ∧ RN w' g O' (n.take i j) ∧ Ext w w' O O' := by
  have H := Lib.hid h
  have HOK := Lib.hid hok
  clear h hok
  go_enter Try.func28, Try.ntmps28
  go_wp2_with (first | (go_at_call 26; refine (ref_Take g O n i j _ H.out HOK.out).mono ?_; rintro e w' ⟨O', vo, rfl, _, h1, h2⟩; have H1 := Lib.hid h1; have H2 := Lib.hid h2; clear h1 h2) | fail)
  go_ret
  exact ⟨O', rfl, H1.out, H2.out⟩
end Go.Proofs.Ytokcplapbjhnoaa
