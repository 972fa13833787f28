/-
  The document's net: Copy. Condition: a net that may be.
-/
import Derived.Test.YtokcplapbjhnoaaHNt6
namespace Go.Proofs.Ytokcplapbjhnoaa
open Go.RowKit Go.Proofs.YtokcplapbjhnoaaW.PrintWords Go.Proofs.YtokcplapbjhnoaaW.PrintLast Go.Proofs.YtokcplapbjhnoaaW.PrintMore
attribute [local go_sem] max2_int min2_int max_two min_two max_three min_three max_four min_four
set_option linter.unusedVariables false
set_option linter.unusedSimpArgs false

theorem rows_one {U V : TypeId} {w W : World} {b : Nat} {u : Value} {x : List Int} (hb : W.heap[b]? = some (.cells #[u] V (0, 0))) (hx : (Kd.int .u8).R U w 0 (fun k => k < w.heap.size) u x) (hB : Below w.heap.size w W) : ReadsRow ((Kd.slice U (Kd.int .u8)).M W 0 (fun k => k < w.heap.size)) 1 W (some ⟨b, 0, none⟩) 1 [x] := by
  refine ⟨rfl, by decide, fun _ => ⟨_, rfl, fun j p hj => ?_⟩⟩
  have hj1 : j < 1 := (List.getElem?_eq_some_iff.1 hj).1
  obtain rfl : j = 0 := by omega
  obtain rfl : x = p := Option.some.inj hj
  refine ⟨[u], rfl, ⟨u, rfl, Kd.R_step hx (fun k hk _ => hB.block k hk)⟩, fun i y hy => ?_⟩
  have hi1 : i < 1 := (List.getElem?_eq_some_iff.1 hy).1
  obtain rfl : i = 0 := by omega
  obtain rfl := Option.some.inj hy
  exact (blk_cell hb 0).trans rfl
theorem ne_lit {w : World} {b : Nat} {o : Obj} {v : Value} (hb : w.heap[b]? = some o) (hat : ∃ k, v.ownBlock = some k ∧ w.heap.size ≤ k) : some b ≠ v.ownBlock := by
  obtain ⟨k, e, hl⟩ := hat
  intro e2
  rw [e] at e2
  cases e2
  have := blk_lt hb
  omega
theorem blk_new_of {w W : World} (_h : Below w.heap.size w W) (o : Obj) : (W.alloc o).heap[W.heap.size]? = some o := blk_new W o
theorem below_alloc_of {w W : World} (_h : Below w.heap.size w W) (o : Obj) : Below W.heap.size W (W.alloc o) := below_alloc (Below.refl _ _) o
set_option maxHeartbeats 4000000 in
set_option maxRecDepth 100000 in
theorem ref_Copy (g : Nat) (O : Nat → Prop) (n : NtS) (i j : Int) (w : World) (h : RN w g O n) (hok : n.ok) :
    Calls Try.prog 27 #[.pointer (some ⟨g, 0, none⟩), .int .i64 i, .int .i64 j] w fun e w' => ∃ O', e = .returned (.int .i64 (n.copy i j).1) ∧ RN w' g O' (n.copy i j).2 ∧ Ext w w' O O' := by
  by_cases h0 : n.place i j = 0
  · obtain ⟨hi, hj0, hj1⟩ := place_in h0
    obtain ⟨k, rfl⟩ : ∃ k : Nat, j = k := ⟨j.toNat, by omega⟩
    have hj : k < (n.way i).length := by omega
    obtain ⟨v, hv, hr, _, _⟩ := h.ways hi
    obtain ⟨A, c, rfl⟩ := Kd.R_slice hr
    obtain ⟨hw1, hw2⟩ := NtS.ok_way hok i
    have hroom := hok.2.1
    have x0 : w.cell? ⟨g, 0, none⟩ = some (.int .i64 n.room) := h.cells.1
    obtain ⟨ad, Ab, nb, cb, rfl, y4, HNB, hrb⟩ := BR.elem hr k hj
    obtain ⟨x, hx⟩ : ∃ x, x = (n.way i)[k] := ⟨_, rfl⟩
    rw [← hx] at hrb HNB
    have HXD : Hid ((n.way i).getD k [] = x) := by show _ = x; rw [hx, List.getD_eq_getElem?_getD, List.getElem?_eq_getElem hj]; rfl
    obtain ⟨_, hmc, hrows⟩ := BR.readsM hr
    obtain ⟨m, hm⟩ : ∃ m, m = (n.way i).length := ⟨_, rfl⟩
    rw [← hm] at hv hr hj hw1 hrows hmc
    have HRW := Lib.hid hrows
    have HRB := Lib.hid hrb
    have H := Lib.hid h
    have HM := Lib.hid hm
    have p1 : (0 ≤ (k : Int)) = True := eq_true (by omega)
    have p2 : ((k : Int) < (m : Int)) = True := eq_true (by omega)
    have HML : Hid (m ≤ 1000) := by show m ≤ 1000; omega
    have P0 := Lib.hid h0
    clear h hr hok hw2 hx hrb hm hrows hmc h0 hj hj0 hj1
    by_cases hf : n.room ≤ (m : Int)
    · have E : Hid (n.copy i (k : Int) = (3, n)) := by show _ = _; unfold NtS.copy; rw [if_pos P0.out, if_pos (by rw [← HM.out]; exact hf)]
      rcases hi with rfl | rfl
      · skip
        have c2 : w.cell? ⟨g, 2, none⟩ = some (.slice (some ad) m c) := hv
        clear hv
        go_enter Try.func27, Try.ntmps27
        go_wp2_with (first | (go_at_call 30; refine (place_calls g O n 0 k _ H.out).mono ?_; rw [P0.out]; rintro e w' ⟨rfl, hw⟩; obtain rfl := hw.symm) | fail)
        refine start_ (n := 12) (S := fun w' => w'.cell? ⟨g, 0, none⟩ = some (.int .i64 n.room) ∧ w'.cell? ⟨g, 2, none⟩ = some (.slice (some ad) m c)) (ds := []) #[false, false, false, false, false, false, false, false, false, false, false, false] (by kernel_rfl) rfl rfl ⟨x0, c2⟩ (fun hHeld => ?_)
        refine pure_ (i := 0) (N := some 15) (v := ?_) (a' := ?_) #[true, false, false, false, false, false, false, false, false, false, false, false] rfl rfl (by kernel_rfl) (fun _ _ _ h => h) (Or.inl ⟨by rfl, ?_⟩) ?_ ?_
        rotate_left
        · intro w'
          go_simp
          with_reducible rfl
        rotate_left
        · simp only [Act.put, List.setIfInBounds_toArray, List.set_cons_zero, List.set_cons_succ, i64_w, i32_w]
          rfl
        refine pure_ (i := 1) (N := some 16) (v := ?_) (a' := ?_) #[true, true, false, false, false, false, false, false, false, false, false, false] rfl rfl (by kernel_rfl) (fun _ _ _ h => h) (Or.inl ⟨by rfl, ?_⟩) ?_ ?_
        rotate_left
        · intro w'
          go_simp
          with_reducible rfl
        rotate_left
        · simp only [Act.put, List.setIfInBounds_toArray, List.set_cons_zero, List.set_cons_succ, i64_w, i32_w]
          rfl
        refine pure_ (i := 2) (N := some 17) (v := ?_) (a' := ?_) #[true, true, true, false, false, false, false, false, false, false, false, false] rfl rfl (by kernel_rfl) (fun _ _ _ h => h) (Or.inl ⟨by rfl, ?_⟩) ?_ ?_
        rotate_left
        · intro w'
          go_simp
          with_reducible rfl
        rotate_left
        · simp only [Act.put, List.setIfInBounds_toArray, List.set_cons_zero, List.set_cons_succ, i64_w, i32_w]
          rfl
        refine pure_ (i := 3) (N := some 18) (v := ?_) (a' := ?_) #[true, true, true, true, false, false, false, false, false, false, false, false] rfl rfl (by kernel_rfl) (fun _ _ _ h => h) (Or.inl ⟨by rfl, ?_⟩) ?_ ?_
        rotate_left
        · intro w'
          go_simp
          with_reducible rfl
        rotate_left
        · simp only [Act.put, List.setIfInBounds_toArray, List.set_cons_zero, List.set_cons_succ, i64_w, i32_w]
          rfl
        refine pure_ (i := 4) (N := some 19) (v := ?_) (a' := ?_) #[true, true, true, true, true, false, false, false, false, false, false, false] rfl rfl (by kernel_rfl) (fun _ _ _ h => h) (Or.inl ⟨by rfl, ?_⟩) ?_ ?_
        rotate_left
        · intro w'
          go_simp
          with_reducible rfl
        rotate_left
        · simp only [Act.put, List.setIfInBounds_toArray, List.set_cons_zero, List.set_cons_succ, i64_w, i32_w]
          rfl
        refine pure_ (i := 7) (N := some 22) (v := ?_) (a' := ?_) #[true, true, true, true, true, false, false, true, false, false, false, false] rfl rfl (by kernel_rfl) (fun _ _ _ h => h) (Or.inl ⟨by rfl, ?_⟩) ?_ ?_
        rotate_left
        · intro w'
          go_simp
          with_reducible rfl
        rotate_left
        · simp only [Act.put, List.setIfInBounds_toArray, List.set_cons_zero, List.set_cons_succ, i64_w, i32_w]
          rfl
        refine pure_ (i := 8) (N := some 23) (v := ?_) (a' := ?_) #[true, true, true, true, true, false, false, true, true, false, false, false] rfl rfl (by kernel_rfl) (fun _ _ _ h => h) (Or.inl ⟨by rfl, ?_⟩) ?_ ?_
        rotate_left
        · intro w'
          go_simp
          with_reducible rfl
        rotate_left
        · simp only [Act.put, List.setIfInBounds_toArray, List.set_cons_zero, List.set_cons_succ, i64_w, i32_w]
          rfl
        refine pure_ (i := 9) (N := some 24) (v := ?_) (a' := ?_) #[true, true, true, true, true, false, false, true, true, true, false, false] rfl rfl (by kernel_rfl) (fun _ _ _ h => h) (Or.inl ⟨by rfl, ?_⟩) ?_ ?_
        rotate_left
        · intro w'
          go_simp
          with_reducible rfl
        rotate_left
        · simp only [Act.put, List.setIfInBounds_toArray, List.set_cons_zero, List.set_cons_succ, i64_w, i32_w]
          rfl
        refine take_ (i := 5) (N := some 20) (v := ?_) (a' := ?_) #[true, true, true, true, true, true, false, true, true, true, false, false] rfl rfl (by kernel_rfl) (fun _ _ _ h => h) (Or.inl ⟨by rfl, ?_⟩) hHeld ?_ ?_
        rotate_left
        · rintro w' ⟨s0, s1⟩
          go_simp
          with_reducible rfl
        rotate_left
        · simp only [Act.put, List.setIfInBounds_toArray, List.set_cons_zero, List.set_cons_succ, i64_w, i32_w]
          rfl
        refine pure_ (i := 6) (N := some 21) (v := ?_) (a' := ?_) #[true, true, true, true, true, true, true, true, true, true, false, false] rfl rfl (by kernel_rfl) (fun _ _ _ h => h) (Or.inl ⟨by rfl, ?_⟩) ?_ ?_
        rotate_left
        · intro w'
          go_simp
          with_reducible rfl
        rotate_left
        · simp only [Act.put, List.setIfInBounds_toArray, List.set_cons_zero, List.set_cons_succ, i64_w, i32_w]
          rfl
        refine take_ (i := 10) (N := some 25) (v := ?_) (a' := ?_) #[true, true, true, true, true, true, true, true, true, true, true, false] rfl rfl (by kernel_rfl) (fun _ _ _ h => h) (Or.inl ⟨by rfl, ?_⟩) hHeld ?_ ?_
        rotate_left
        · rintro w' ⟨s0, s1⟩
          go_simp
          with_reducible rfl
        rotate_left
        · simp only [Act.put, List.setIfInBounds_toArray, List.set_cons_zero, List.set_cons_succ, i64_w, i32_w]
          rfl
        refine pure_ (i := 11) (N := some 26) (v := ?_) (a' := ?_) #[true, true, true, true, true, true, true, true, true, true, true, true] rfl rfl (by kernel_rfl) (fun _ _ _ h => h) (Or.inl ⟨by rfl, ?_⟩) ?_ ?_
        rotate_left
        · intro w'
          go_simp
          with_reducible rfl
        rotate_left
        · simp only [Act.put, List.setIfInBounds_toArray, List.set_cons_zero, List.set_cons_succ, i64_w, i32_w]
          rfl
        refine done_ (by kernel_rfl) ?_
        go_wp2_with fail
        go_ret
        rw [E.out]
        exact ⟨O, rfl, H.out.below (below_drew (Below.refl _ _)), Ext.of_below (below_drew (Below.refl _ _)) O⟩
      · skip
        have c2 : w.cell? ⟨g, 3, none⟩ = some (.slice (some ad) m c) := hv
        clear hv
        go_enter Try.func27, Try.ntmps27
        go_wp2_with (first | (go_at_call 30; refine (place_calls g O n 1 k _ H.out).mono ?_; rw [P0.out]; rintro e w' ⟨rfl, hw⟩; obtain rfl := hw.symm) | fail)
        refine start_ (n := 12) (S := fun w' => w'.cell? ⟨g, 0, none⟩ = some (.int .i64 n.room) ∧ w'.cell? ⟨g, 3, none⟩ = some (.slice (some ad) m c)) (ds := []) #[false, false, false, false, false, false, false, false, false, false, false, false] (by kernel_rfl) rfl rfl ⟨x0, c2⟩ (fun hHeld => ?_)
        refine pure_ (i := 0) (N := some 15) (v := ?_) (a' := ?_) #[true, false, false, false, false, false, false, false, false, false, false, false] rfl rfl (by kernel_rfl) (fun _ _ _ h => h) (Or.inl ⟨by rfl, ?_⟩) ?_ ?_
        rotate_left
        · intro w'
          go_simp
          with_reducible rfl
        rotate_left
        · simp only [Act.put, List.setIfInBounds_toArray, List.set_cons_zero, List.set_cons_succ, i64_w, i32_w]
          rfl
        refine pure_ (i := 1) (N := some 16) (v := ?_) (a' := ?_) #[true, true, false, false, false, false, false, false, false, false, false, false] rfl rfl (by kernel_rfl) (fun _ _ _ h => h) (Or.inl ⟨by rfl, ?_⟩) ?_ ?_
        rotate_left
        · intro w'
          go_simp
          with_reducible rfl
        rotate_left
        · simp only [Act.put, List.setIfInBounds_toArray, List.set_cons_zero, List.set_cons_succ, i64_w, i32_w]
          rfl
        refine pure_ (i := 2) (N := some 17) (v := ?_) (a' := ?_) #[true, true, true, false, false, false, false, false, false, false, false, false] rfl rfl (by kernel_rfl) (fun _ _ _ h => h) (Or.inl ⟨by rfl, ?_⟩) ?_ ?_
        rotate_left
        · intro w'
          go_simp
          with_reducible rfl
        rotate_left
        · simp only [Act.put, List.setIfInBounds_toArray, List.set_cons_zero, List.set_cons_succ, i64_w, i32_w]
          rfl
        refine pure_ (i := 3) (N := some 18) (v := ?_) (a' := ?_) #[true, true, true, true, false, false, false, false, false, false, false, false] rfl rfl (by kernel_rfl) (fun _ _ _ h => h) (Or.inl ⟨by rfl, ?_⟩) ?_ ?_
        rotate_left
        · intro w'
          go_simp
          with_reducible rfl
        rotate_left
        · simp only [Act.put, List.setIfInBounds_toArray, List.set_cons_zero, List.set_cons_succ, i64_w, i32_w]
          rfl
        refine pure_ (i := 4) (N := some 19) (v := ?_) (a' := ?_) #[true, true, true, true, true, false, false, false, false, false, false, false] rfl rfl (by kernel_rfl) (fun _ _ _ h => h) (Or.inl ⟨by rfl, ?_⟩) ?_ ?_
        rotate_left
        · intro w'
          go_simp
          with_reducible rfl
        rotate_left
        · simp only [Act.put, List.setIfInBounds_toArray, List.set_cons_zero, List.set_cons_succ, i64_w, i32_w]
          rfl
        refine pure_ (i := 7) (N := some 22) (v := ?_) (a' := ?_) #[true, true, true, true, true, false, false, true, false, false, false, false] rfl rfl (by kernel_rfl) (fun _ _ _ h => h) (Or.inl ⟨by rfl, ?_⟩) ?_ ?_
        rotate_left
        · intro w'
          go_simp
          with_reducible rfl
        rotate_left
        · simp only [Act.put, List.setIfInBounds_toArray, List.set_cons_zero, List.set_cons_succ, i64_w, i32_w]
          rfl
        refine pure_ (i := 8) (N := some 23) (v := ?_) (a' := ?_) #[true, true, true, true, true, false, false, true, true, false, false, false] rfl rfl (by kernel_rfl) (fun _ _ _ h => h) (Or.inl ⟨by rfl, ?_⟩) ?_ ?_
        rotate_left
        · intro w'
          go_simp
          with_reducible rfl
        rotate_left
        · simp only [Act.put, List.setIfInBounds_toArray, List.set_cons_zero, List.set_cons_succ, i64_w, i32_w]
          rfl
        refine pure_ (i := 9) (N := some 24) (v := ?_) (a' := ?_) #[true, true, true, true, true, false, false, true, true, true, false, false] rfl rfl (by kernel_rfl) (fun _ _ _ h => h) (Or.inl ⟨by rfl, ?_⟩) ?_ ?_
        rotate_left
        · intro w'
          go_simp
          with_reducible rfl
        rotate_left
        · simp only [Act.put, List.setIfInBounds_toArray, List.set_cons_zero, List.set_cons_succ, i64_w, i32_w]
          rfl
        refine take_ (i := 5) (N := some 20) (v := ?_) (a' := ?_) #[true, true, true, true, true, true, false, true, true, true, false, false] rfl rfl (by kernel_rfl) (fun _ _ _ h => h) (Or.inl ⟨by rfl, ?_⟩) hHeld ?_ ?_
        rotate_left
        · rintro w' ⟨s0, s1⟩
          go_simp
          with_reducible rfl
        rotate_left
        · simp only [Act.put, List.setIfInBounds_toArray, List.set_cons_zero, List.set_cons_succ, i64_w, i32_w]
          rfl
        refine pure_ (i := 6) (N := some 21) (v := ?_) (a' := ?_) #[true, true, true, true, true, true, true, true, true, true, false, false] rfl rfl (by kernel_rfl) (fun _ _ _ h => h) (Or.inl ⟨by rfl, ?_⟩) ?_ ?_
        rotate_left
        · intro w'
          go_simp
          with_reducible rfl
        rotate_left
        · simp only [Act.put, List.setIfInBounds_toArray, List.set_cons_zero, List.set_cons_succ, i64_w, i32_w]
          rfl
        refine take_ (i := 10) (N := some 25) (v := ?_) (a' := ?_) #[true, true, true, true, true, true, true, true, true, true, true, false] rfl rfl (by kernel_rfl) (fun _ _ _ h => h) (Or.inl ⟨by rfl, ?_⟩) hHeld ?_ ?_
        rotate_left
        · rintro w' ⟨s0, s1⟩
          go_simp
          with_reducible rfl
        rotate_left
        · simp only [Act.put, List.setIfInBounds_toArray, List.set_cons_zero, List.set_cons_succ, i64_w, i32_w]
          rfl
        refine pure_ (i := 11) (N := some 26) (v := ?_) (a' := ?_) #[true, true, true, true, true, true, true, true, true, true, true, true] rfl rfl (by kernel_rfl) (fun _ _ _ h => h) (Or.inl ⟨by rfl, ?_⟩) ?_ ?_
        rotate_left
        · intro w'
          go_simp
          with_reducible rfl
        rotate_left
        · simp only [Act.put, List.setIfInBounds_toArray, List.set_cons_zero, List.set_cons_succ, i64_w, i32_w]
          rfl
        refine done_ (by kernel_rfl) ?_
        go_wp2_with fail
        go_ret
        rw [E.out]
        exact ⟨O, rfl, H.out.below (below_drew (Below.refl _ _)), Ext.of_below (below_drew (Below.refl _ _)) O⟩
    · have E : Hid (n.copy i (k : Int) = (0, n.setWay i (n.way i ++ [x]))) := by show _ = _; unfold NtS.copy; rw [if_pos P0.out, if_neg (by rw [← HM.out]; exact hf), Int.toNat_natCast, HXD.out]
      rcases hi with rfl | rfl
      · skip
        have c2 : w.cell? ⟨g, 2, none⟩ = some (.slice (some ad) m c) := hv
        clear hv
        go_enter Try.func27, Try.ntmps27
        go_wp2_with (first | (go_at_call 30; refine (place_calls g O n 0 k _ H.out).mono ?_; rw [P0.out]; rintro e w' ⟨rfl, hw⟩; obtain rfl := hw.symm) | fail)
        refine start_ (n := 12) (S := fun w' => w'.cell? ⟨g, 0, none⟩ = some (.int .i64 n.room) ∧ w'.cell? ⟨g, 2, none⟩ = some (.slice (some ad) m c)) (ds := []) #[false, false, false, false, false, false, false, false, false, false, false, false] (by kernel_rfl) rfl rfl ⟨x0, c2⟩ (fun hHeld => ?_)
        refine pure_ (i := 0) (N := some 15) (v := ?_) (a' := ?_) #[true, false, false, false, false, false, false, false, false, false, false, false] rfl rfl (by kernel_rfl) (fun _ _ _ h => h) (Or.inl ⟨by rfl, ?_⟩) ?_ ?_
        rotate_left
        · intro w'
          go_simp
          with_reducible rfl
        rotate_left
        · simp only [Act.put, List.setIfInBounds_toArray, List.set_cons_zero, List.set_cons_succ, i64_w, i32_w]
          rfl
        refine pure_ (i := 1) (N := some 16) (v := ?_) (a' := ?_) #[true, true, false, false, false, false, false, false, false, false, false, false] rfl rfl (by kernel_rfl) (fun _ _ _ h => h) (Or.inl ⟨by rfl, ?_⟩) ?_ ?_
        rotate_left
        · intro w'
          go_simp
          with_reducible rfl
        rotate_left
        · simp only [Act.put, List.setIfInBounds_toArray, List.set_cons_zero, List.set_cons_succ, i64_w, i32_w]
          rfl
        refine pure_ (i := 2) (N := some 17) (v := ?_) (a' := ?_) #[true, true, true, false, false, false, false, false, false, false, false, false] rfl rfl (by kernel_rfl) (fun _ _ _ h => h) (Or.inl ⟨by rfl, ?_⟩) ?_ ?_
        rotate_left
        · intro w'
          go_simp
          with_reducible rfl
        rotate_left
        · simp only [Act.put, List.setIfInBounds_toArray, List.set_cons_zero, List.set_cons_succ, i64_w, i32_w]
          rfl
        refine pure_ (i := 3) (N := some 18) (v := ?_) (a' := ?_) #[true, true, true, true, false, false, false, false, false, false, false, false] rfl rfl (by kernel_rfl) (fun _ _ _ h => h) (Or.inl ⟨by rfl, ?_⟩) ?_ ?_
        rotate_left
        · intro w'
          go_simp
          with_reducible rfl
        rotate_left
        · simp only [Act.put, List.setIfInBounds_toArray, List.set_cons_zero, List.set_cons_succ, i64_w, i32_w]
          rfl
        refine pure_ (i := 4) (N := some 19) (v := ?_) (a' := ?_) #[true, true, true, true, true, false, false, false, false, false, false, false] rfl rfl (by kernel_rfl) (fun _ _ _ h => h) (Or.inl ⟨by rfl, ?_⟩) ?_ ?_
        rotate_left
        · intro w'
          go_simp
          with_reducible rfl
        rotate_left
        · simp only [Act.put, List.setIfInBounds_toArray, List.set_cons_zero, List.set_cons_succ, i64_w, i32_w]
          rfl
        refine pure_ (i := 7) (N := some 22) (v := ?_) (a' := ?_) #[true, true, true, true, true, false, false, true, false, false, false, false] rfl rfl (by kernel_rfl) (fun _ _ _ h => h) (Or.inl ⟨by rfl, ?_⟩) ?_ ?_
        rotate_left
        · intro w'
          go_simp
          with_reducible rfl
        rotate_left
        · simp only [Act.put, List.setIfInBounds_toArray, List.set_cons_zero, List.set_cons_succ, i64_w, i32_w]
          rfl
        refine pure_ (i := 8) (N := some 23) (v := ?_) (a' := ?_) #[true, true, true, true, true, false, false, true, true, false, false, false] rfl rfl (by kernel_rfl) (fun _ _ _ h => h) (Or.inl ⟨by rfl, ?_⟩) ?_ ?_
        rotate_left
        · intro w'
          go_simp
          with_reducible rfl
        rotate_left
        · simp only [Act.put, List.setIfInBounds_toArray, List.set_cons_zero, List.set_cons_succ, i64_w, i32_w]
          rfl
        refine pure_ (i := 9) (N := some 24) (v := ?_) (a' := ?_) #[true, true, true, true, true, false, false, true, true, true, false, false] rfl rfl (by kernel_rfl) (fun _ _ _ h => h) (Or.inl ⟨by rfl, ?_⟩) ?_ ?_
        rotate_left
        · intro w'
          go_simp
          with_reducible rfl
        rotate_left
        · simp only [Act.put, List.setIfInBounds_toArray, List.set_cons_zero, List.set_cons_succ, i64_w, i32_w]
          rfl
        refine take_ (i := 5) (N := some 20) (v := ?_) (a' := ?_) #[true, true, true, true, true, true, false, true, true, true, false, false] rfl rfl (by kernel_rfl) (fun _ _ _ h => h) (Or.inl ⟨by rfl, ?_⟩) hHeld ?_ ?_
        rotate_left
        · rintro w' ⟨s0, s1⟩
          go_simp
          with_reducible rfl
        rotate_left
        · simp only [Act.put, List.setIfInBounds_toArray, List.set_cons_zero, List.set_cons_succ, i64_w, i32_w]
          rfl
        refine pure_ (i := 6) (N := some 21) (v := ?_) (a' := ?_) #[true, true, true, true, true, true, true, true, true, true, false, false] rfl rfl (by kernel_rfl) (fun _ _ _ h => h) (Or.inl ⟨by rfl, ?_⟩) ?_ ?_
        rotate_left
        · intro w'
          go_simp
          with_reducible rfl
        rotate_left
        · simp only [Act.put, List.setIfInBounds_toArray, List.set_cons_zero, List.set_cons_succ, i64_w, i32_w]
          rfl
        refine take_ (i := 10) (N := some 25) (v := ?_) (a' := ?_) #[true, true, true, true, true, true, true, true, true, true, true, false] rfl rfl (by kernel_rfl) (fun _ _ _ h => h) (Or.inl ⟨by rfl, ?_⟩) hHeld ?_ ?_
        rotate_left
        · rintro w' ⟨s0, s1⟩
          go_simp
          with_reducible rfl
        rotate_left
        · simp only [Act.put, List.setIfInBounds_toArray, List.set_cons_zero, List.set_cons_succ, i64_w, i32_w]
          rfl
        refine pure_ (i := 11) (N := some 26) (v := ?_) (a' := ?_) #[true, true, true, true, true, true, true, true, true, true, true, true] rfl rfl (by kernel_rfl) (fun _ _ _ h => h) (Or.inl ⟨by rfl, ?_⟩) ?_ ?_
        rotate_left
        · intro w'
          go_simp
          with_reducible rfl
        rotate_left
        · simp only [Act.put, List.setIfInBounds_toArray, List.set_cons_zero, List.set_cons_succ, i64_w, i32_w]
          rfl
        refine done_ (by kernel_rfl) ?_
        go_wp2_with fail
        refine start_ (n := 25) (S := fun w' => w'.cell? ⟨g, 2, none⟩ = some (.slice (some ad) m c) ∧ w'.cell? (ad.add k) = some (.slice Ab nb cb)) (ds := [24]) #[false, false, false, false, false, false, false, false, false, false, false, false, false, false, false, false, false, false, false, false, false, false, false, false, false] (by kernel_rfl) rfl rfl ⟨c2, y4⟩ (fun hHeld => ?_)
        obtain ⟨W2, hW2⟩ : ∃ W2, w.drew.drew = W2 := ⟨_, rfl⟩
        have hbw : Below w.heap.size w W2 := by rw [← hW2]; exact below_drew (below_drew (Below.refl _ _))
        rw [hW2] at hHeld ⊢
        clear hW2
        have HW := Lib.hid hbw
        have HBW := Lib.hid hbw
        have HW2 := Lib.hid (Below.refl W2.heap.size W2)
        clear hbw
        refine pure_ (i := 0) (N := some 27) (v := ?_) (a' := ?_) #[true, false, false, false, false, false, false, false, false, false, false, false, false, false, false, false, false, false, false, false, false, false, false, false, false] rfl rfl (by kernel_rfl) (fun _ _ _ h => h) (Or.inl ⟨by rfl, ?_⟩) ?_ ?_
        rotate_left
        · intro w'
          go_simp
          with_reducible rfl
        rotate_left
        · simp only [Act.put, List.setIfInBounds_toArray, List.set_cons_zero, List.set_cons_succ, i64_w, i32_w]
          rfl
        refine pure_ (i := 1) (N := some 28) (v := ?_) (a' := ?_) #[true, true, false, false, false, false, false, false, false, false, false, false, false, false, false, false, false, false, false, false, false, false, false, false, false] rfl rfl (by kernel_rfl) (fun _ _ _ h => h) (Or.inl ⟨by rfl, ?_⟩) ?_ ?_
        rotate_left
        · intro w'
          go_simp
          with_reducible rfl
        rotate_left
        · simp only [Act.put, List.setIfInBounds_toArray, List.set_cons_zero, List.set_cons_succ, i64_w, i32_w]
          rfl
        refine pure_ (i := 3) (N := some 30) (v := ?_) (a' := ?_) #[true, true, false, true, false, false, false, false, false, false, false, false, false, false, false, false, false, false, false, false, false, false, false, false, false] rfl rfl (by kernel_rfl) (fun _ _ _ h => h) (Or.inl ⟨by rfl, ?_⟩) ?_ ?_
        rotate_left
        · intro w'
          go_simp
          with_reducible rfl
        rotate_left
        · simp only [Act.put, List.setIfInBounds_toArray, List.set_cons_zero, List.set_cons_succ, i64_w, i32_w]
          rfl
        refine pure_ (i := 4) (N := some 31) (v := ?_) (a' := ?_) #[true, true, false, true, true, false, false, false, false, false, false, false, false, false, false, false, false, false, false, false, false, false, false, false, false] rfl rfl (by kernel_rfl) (fun _ _ _ h => h) (Or.inl ⟨by rfl, ?_⟩) ?_ ?_
        rotate_left
        · intro w'
          go_simp
          with_reducible rfl
        rotate_left
        · simp only [Act.put, List.setIfInBounds_toArray, List.set_cons_zero, List.set_cons_succ, i64_w, i32_w]
          rfl
        refine pure_ (i := 5) (N := some 32) (v := ?_) (a' := ?_) #[true, true, false, true, true, true, false, false, false, false, false, false, false, false, false, false, false, false, false, false, false, false, false, false, false] rfl rfl (by kernel_rfl) (fun _ _ _ h => h) (Or.inl ⟨by rfl, ?_⟩) ?_ ?_
        rotate_left
        · intro w'
          go_simp
          with_reducible rfl
        rotate_left
        · simp only [Act.put, List.setIfInBounds_toArray, List.set_cons_zero, List.set_cons_succ, i64_w, i32_w]
          rfl
        refine pure_ (i := 6) (N := some 33) (v := ?_) (a' := ?_) #[true, true, false, true, true, true, true, false, false, false, false, false, false, false, false, false, false, false, false, false, false, false, false, false, false] rfl rfl (by kernel_rfl) (fun _ _ _ h => h) (Or.inl ⟨by rfl, ?_⟩) ?_ ?_
        rotate_left
        · intro w'
          go_simp
          with_reducible rfl
        rotate_left
        · simp only [Act.put, List.setIfInBounds_toArray, List.set_cons_zero, List.set_cons_succ, i64_w, i32_w]
          rfl
        refine pure_ (i := 7) (N := some 34) (v := ?_) (a' := ?_) #[true, true, false, true, true, true, true, true, false, false, false, false, false, false, false, false, false, false, false, false, false, false, false, false, false] rfl rfl (by kernel_rfl) (fun _ _ _ h => h) (Or.inl ⟨by rfl, ?_⟩) ?_ ?_
        rotate_left
        · intro w'
          go_simp
          with_reducible rfl
        rotate_left
        · simp only [Act.put, List.setIfInBounds_toArray, List.set_cons_zero, List.set_cons_succ, i64_w, i32_w]
          rfl
        refine pure_ (i := 10) (N := some 37) (v := ?_) (a' := ?_) #[true, true, false, true, true, true, true, true, false, false, true, false, false, false, false, false, false, false, false, false, false, false, false, false, false] rfl rfl (by kernel_rfl) (fun _ _ _ h => h) (Or.inl ⟨by rfl, ?_⟩) ?_ ?_
        rotate_left
        · intro w'
          go_simp
          with_reducible rfl
        rotate_left
        · simp only [Act.put, List.setIfInBounds_toArray, List.set_cons_zero, List.set_cons_succ, i64_w, i32_w]
          rfl
        refine pure_ (i := 11) (N := some 38) (v := ?_) (a' := ?_) #[true, true, false, true, true, true, true, true, false, false, true, true, false, false, false, false, false, false, false, false, false, false, false, false, false] rfl rfl (by kernel_rfl) (fun _ _ _ h => h) (Or.inl ⟨by rfl, ?_⟩) ?_ ?_
        rotate_left
        · intro w'
          go_simp
          with_reducible rfl
        rotate_left
        · simp only [Act.put, List.setIfInBounds_toArray, List.set_cons_zero, List.set_cons_succ, i64_w, i32_w]
          rfl
        refine pure_ (i := 12) (N := some 39) (v := ?_) (a' := ?_) #[true, true, false, true, true, true, true, true, false, false, true, true, true, false, false, false, false, false, false, false, false, false, false, false, false] rfl rfl (by kernel_rfl) (fun _ _ _ h => h) (Or.inl ⟨by rfl, ?_⟩) ?_ ?_
        rotate_left
        · intro w'
          go_simp
          with_reducible rfl
        rotate_left
        · simp only [Act.put, List.setIfInBounds_toArray, List.set_cons_zero, List.set_cons_succ, i64_w, i32_w]
          rfl
        refine pure_ (i := 13) (N := some 40) (v := ?_) (a' := ?_) #[true, true, false, true, true, true, true, true, false, false, true, true, true, true, false, false, false, false, false, false, false, false, false, false, false] rfl rfl (by kernel_rfl) (fun _ _ _ h => h) (Or.inl ⟨by rfl, ?_⟩) ?_ ?_
        rotate_left
        · intro w'
          go_simp
          with_reducible rfl
        rotate_left
        · simp only [Act.put, List.setIfInBounds_toArray, List.set_cons_zero, List.set_cons_succ, i64_w, i32_w]
          rfl
        refine pure_ (i := 14) (N := some 41) (v := ?_) (a' := ?_) #[true, true, false, true, true, true, true, true, false, false, true, true, true, true, true, false, false, false, false, false, false, false, false, false, false] rfl rfl (by kernel_rfl) (fun _ _ _ h => h) (Or.inl ⟨by rfl, ?_⟩) ?_ ?_
        rotate_left
        · intro w'
          go_simp
          with_reducible rfl
        rotate_left
        · simp only [Act.put, List.setIfInBounds_toArray, List.set_cons_zero, List.set_cons_succ, i64_w, i32_w]
          rfl
        refine pure_ (i := 16) (N := some 43) (v := ?_) (a' := ?_) #[true, true, false, true, true, true, true, true, false, false, true, true, true, true, true, false, true, false, false, false, false, false, false, false, false] rfl rfl (by kernel_rfl) (fun _ _ _ h => h) (Or.inl ⟨by rfl, ?_⟩) ?_ ?_
        rotate_left
        · intro w'
          go_simp
          with_reducible rfl
        rotate_left
        · simp only [Act.put, List.setIfInBounds_toArray, List.set_cons_zero, List.set_cons_succ, i64_w, i32_w]
          rfl
        refine pure_ (i := 21) (N := some 48) (v := ?_) (a' := ?_) #[true, true, false, true, true, true, true, true, false, false, true, true, true, true, true, false, true, false, false, false, false, true, false, false, false] rfl rfl (by kernel_rfl) (fun _ _ _ h => h) (Or.inl ⟨by rfl, ?_⟩) ?_ ?_
        rotate_left
        · intro w'
          go_simp
          with_reducible rfl
        rotate_left
        · simp only [Act.put, List.setIfInBounds_toArray, List.set_cons_zero, List.set_cons_succ, i64_w, i32_w]
          rfl
        refine pure_ (i := 22) (N := some 49) (v := ?_) (a' := ?_) #[true, true, false, true, true, true, true, true, false, false, true, true, true, true, true, false, true, false, false, false, false, true, true, false, false] rfl rfl (by kernel_rfl) (fun _ _ _ h => h) (Or.inl ⟨by rfl, ?_⟩) ?_ ?_
        rotate_left
        · intro w'
          go_simp
          with_reducible rfl
        rotate_left
        · simp only [Act.put, List.setIfInBounds_toArray, List.set_cons_zero, List.set_cons_succ, i64_w, i32_w]
          rfl
        refine take_ (i := 8) (N := some 35) (v := ?_) (a' := ?_) #[true, true, false, true, true, true, true, true, true, false, true, true, true, true, true, false, true, false, false, false, false, true, true, false, false] rfl rfl (by kernel_rfl) (fun _ _ _ h => h) (Or.inl ⟨by rfl, ?_⟩) hHeld ?_ ?_
        rotate_left
        · rintro w' ⟨s0, s1⟩
          go_simp
          with_reducible rfl
        rotate_left
        · simp only [Act.put, List.setIfInBounds_toArray, List.set_cons_zero, List.set_cons_succ, i64_w, i32_w]
          rfl
        refine take_ (i := 15) (N := some 42) (v := ?_) (a' := ?_) #[true, true, false, true, true, true, true, true, true, false, true, true, true, true, true, true, true, false, false, false, false, true, true, false, false] rfl rfl (by kernel_rfl) (fun _ _ _ h => h) (Or.inl ⟨by rfl, ?_⟩) hHeld ?_ ?_
        rotate_left
        · rintro w' ⟨s0, s1⟩
          go_simp
          with_reducible rfl
        rotate_left
        · simp only [Act.put, List.setIfInBounds_toArray, List.set_cons_zero, List.set_cons_succ, i64_w, i32_w]
          rfl
        refine pure_ (i := 17) (N := some 44) (v := ?_) (a' := ?_) #[true, true, false, true, true, true, true, true, true, false, true, true, true, true, true, true, true, true, false, false, false, true, true, false, false] rfl rfl (by kernel_rfl) (fun _ _ _ h => h) (Or.inl ⟨by rfl, ?_⟩) ?_ ?_
        rotate_left
        · intro w'
          go_simp
          with_reducible rfl
        rotate_left
        · simp only [Act.put, List.setIfInBounds_toArray, List.set_cons_zero, List.set_cons_succ, i64_w, i32_w]
          rfl
        refine take_ (i := 18) (N := some 45) (v := .slice Ab nb cb) (a' := ?_) #[true, true, false, true, true, true, true, true, true, false, true, true, true, true, true, true, true, true, true, false, false, true, true, false, false] rfl rfl (by kernel_rfl) (fun _ _ _ h => h) (Or.inl ⟨by rfl, ?_⟩) hHeld ?_ ?_
        · rintro w' ⟨s0, s1⟩
          go_simp
          try (with_reducible rfl)
        rotate_left
        · simp only [Act.put, List.setIfInBounds_toArray, List.set_cons_zero, List.set_cons_succ, i64_w, i32_w]
          rfl
        refine join_ (σ := Value × Value × Nat) 3 #[true, true, true, true, true, true, true, true, true, true, true, true, true, true, true, true, true, true, true, true, false, true, true, false, false] (fun s => [(29, s.1), (36, s.2.1), (46, .slice (some ⟨s.2.2, 0, none⟩) 1 1)]) (fun s w' => (w'.cell? ⟨g, 2, none⟩ = some (.slice (some ad) m c) ∧ w'.cell? (ad.add k) = some (.slice Ab nb cb)) ∧ Below w.heap.size w w' ∧ BR 5 28 w' s.2.1 (n.way 0) ∧ (∀ k, s.2.1.ownBlock = some k → w.heap.size ≤ k) ∧ w'.heap[s.2.2]? = some (.cells #[.slice Ab nb cb] 28 (0, 0))) ?_ ?_
        rotate_left
        · intro hCont
          refine two_ (i := 2) (j := 19) (Ni := some 29) (Nj := some 46) #[true, true, true, true, true, true, true, true, true, false, true, true, true, true, true, true, true, true, true, false, false, true, true, false, false] #[true, true, false, true, true, true, true, true, true, false, true, true, true, true, true, true, true, true, true, true, false, true, true, false, false] rfl rfl rfl rfl (by kernel_rfl) (by decide) (by decide) (fun K hK => ?_) (fun K hK => ?_)
          · skip
            refine Kd.R_lit_step (Kd.slice 5 (Kd.int .u8)) (w0 := W2) W2.heap.size 28 ?hg (N := 29) ?hd (xs := ([] : List (List Int))) (inner := []) (ok := fun _ => True) (okp := fun _ => True) ?hr ?hp (fun _ hk => hk) trivial HW2.out HW2.out.size (by simp) ?_
            (case hd => rfl)
            (case hg => rfl)
            (case hr => first | (go_simp; done) | (go_simp; rfl))
            (case hp => exact Reps.none _ _)
            intro v3 w3 ho3 hb3 hg3 hat3
            obtain ⟨A3, c3, m3, rfl, HM3⟩ := R_slice_n ho3
            have HO3 := Lib.hid ho3
            have BN := Lib.hid (below_none hg3)
            have t1 := Lib.hid (HW.out.trans (BN.out.mono HW.out.size))
            have t2 := Lib.hid hb3
            try (have HNE := Lib.hid (ne_lit HB6.out hat3); have t3 := Lib.hid (blk_below HB6.out BN.out); clear HB6; have HB6 := t3; clear t3)
            clear HW HW2 hHeld
            have HW := t1
            have HW2 := t2
            clear ho3 hb3 hg3 hat3 BN t1 t2
            refine hK.out _ _ ⟨pw_cell_below HW.out c2, pw_cell_below HW.out y4⟩ (fun hHeld => ?_)
            clear hK K
            refine norm_ (a' := ?_) ?_ ?_
            rotate_left
            · first | (show Act.put _ (some 29) _ = _; simp only [Act.put, List.setIfInBounds_toArray, List.set_cons_zero, List.set_cons_succ, i64_w, i32_w]; rfl) | rfl
            refine two_ (i := 9) (j := 19) (Ni := some 36) (Nj := some 46) #[true, true, true, true, true, true, true, true, true, true, true, true, true, true, true, true, true, true, true, false, false, true, true, false, false] #[true, true, true, true, true, true, true, true, true, false, true, true, true, true, true, true, true, true, true, true, false, true, true, false, false] rfl rfl rfl rfl (by kernel_rfl) (by decide) (by decide) (fun K hK => ?_) (fun K hK => ?_)
            · skip
              refine Kd.R_append_rows_step (Kd.slice 5 (Kd.int .u8)) (w0 := W2) 0 (by rfl) (.tmp 29) (.tmp 35) 46 28 (.slice none 0 0) 24 rfl Try.underlying46 info_sl rfl (by decide) (by omega) (.slice A3 m3 c3) [] (n.way 0) (some ad) m c (fun _ => True) (fun k => k < w.heap.size) rfl rfl (Kd.R_lower HO3.out (Nat.zero_le _)) (ReadsRow.imp_ HRW.out HW.out (fun _ _ hp => Kd.M_below hp HW.out)) (fun _ _ h => h) (fun k hk => ⟨trivial, fun e => by have := Kd.R_base HO3.out k e.symm; have := HBW.out.size; omega⟩) (fun _ _ => trivial) (HW2.out.mono (Nat.zero_le _)) (Nat.zero_le _) (by have := HML.out; simp; omega) ?_
              intro v5 w5 ho5 _ hg5 hat5
              rw [List.nil_append] at ho5
              obtain ⟨A5, c5, m5, rfl, HM5⟩ := R_slice_n ho5
              have t1 := Lib.hid (below_grown HW.out hg5 (fun k e => by have := Kd.R_base HO3.out k e; have := HBW.out.size; omega))
              have t2 := Lib.hid (below_grown HW2.out hg5 (fun k e => Kd.R_base HO3.out k e))
              have HN5 : Hid (∀ k, (Value.slice A5 m5 c5).ownBlock = some k → w.heap.size ≤ k) := fun k hk => by
                rcases hat5 with e | ⟨b9, e, hl⟩
                · rw [e] at hk; have := Kd.R_base HO3.out k hk; have := HBW.out.size; omega
                · rw [e] at hk; cases hk; have := HW.out.size; omega
              have HO5 := Lib.hid ho5
              try (have t3 := Lib.hid ((hg5.block _ (blk_lt HB6.out) (fun e => HNE.out e)).trans HB6.out); clear HB6; have HB6 := t3; clear t3)
              clear HW HW2 hHeld
              have HW := t1
              have HW2 := t2
              clear ho5 hg5 hat5 t1 t2
              refine hK.out _ _ ⟨pw_cell_below HW.out c2, pw_cell_below HW.out y4⟩ (fun hHeld => ?_)
              clear hK K
              refine norm_ (a' := ?_) ?_ ?_
              rotate_left
              · first | (show Act.put _ (some 36) _ = _; simp only [Act.put, List.setIfInBounds_toArray, List.set_cons_zero, List.set_cons_succ, i64_w, i32_w]; rfl) | rfl
              refine one_ (i := 19) (N := some 46) #[true, true, true, true, true, true, true, true, true, true, true, true, true, true, true, true, true, true, true, true, false, true, true, false, false] rfl rfl (by kernel_rfl) (by decide) (fun K hK => ?_)
              go_simp
              clear hHeld
              have HB6 := Lib.hid (blk_new_of HW.out (.cells #[.slice Ab nb cb] 28))
              have BN := Lib.hid (below_alloc_of HW.out (.cells #[.slice Ab nb cb] 28))
              obtain ⟨b6, hb6⟩ := cur_size HW.out
              rw [← hb6] at HB6 ⊢
              have t1 := Lib.hid (below_alloc HW.out (.cells #[.slice Ab nb cb] 28))
              have t2 := Lib.hid (below_alloc HW2.out (.cells #[.slice Ab nb cb] 28))
              try (have HNE : Hid (some b6 ≠ (Value.slice A3 m3 c3).ownBlock) := fun e => by have := Kd.R_lt HO3.out b6 e.symm; omega)
              try (have t3 := Lib.hid (Kd.R_below HO3.out BN.out); clear HO3; have HO3 := t3; clear t3)
              try (have t3 := Lib.hid (Kd.R_below HO5.out BN.out); clear HO5; have HO5 := t3; clear t3)
              clear HW HW2
              have HW := t1
              have HW2 := t2
              clear BN t1 t2 hb6
              refine hK.out _ _ ⟨pw_cell_below HW.out c2, pw_cell_below HW.out y4⟩ (fun hHeld => ?_)
              clear hK K
              refine norm_ (a' := ?_) ?_ ?_
              rotate_left
              · first | (show Act.put _ (some 46) _ = _; simp only [Act.put, List.setIfInBounds_toArray, List.set_cons_zero, List.set_cons_succ, i64_w, i32_w]; rfl) | rfl
              exact norm_ (by simp only [putAll, Act.put, List.setIfInBounds_toArray, List.set_cons_zero, List.set_cons_succ]) (hCont (.slice A3 m3 c3, .slice A5 m5 c5, b6) _ ⟨hHeld, HW.out, HO5.out, HN5.out, HB6.out⟩)
            · skip
              go_simp
              clear hHeld
              have HB6 := Lib.hid (blk_new_of HW.out (.cells #[.slice Ab nb cb] 28))
              have BN := Lib.hid (below_alloc_of HW.out (.cells #[.slice Ab nb cb] 28))
              obtain ⟨b6, hb6⟩ := cur_size HW.out
              rw [← hb6] at HB6 ⊢
              have t1 := Lib.hid (below_alloc HW.out (.cells #[.slice Ab nb cb] 28))
              have t2 := Lib.hid (below_alloc HW2.out (.cells #[.slice Ab nb cb] 28))
              try (have HNE : Hid (some b6 ≠ (Value.slice A3 m3 c3).ownBlock) := fun e => by have := Kd.R_lt HO3.out b6 e.symm; omega)
              try (have t3 := Lib.hid (Kd.R_below HO3.out BN.out); clear HO3; have HO3 := t3; clear t3)
              try (have t3 := Lib.hid (Kd.R_below HO5.out BN.out); clear HO5; have HO5 := t3; clear t3)
              clear HW HW2
              have HW := t1
              have HW2 := t2
              clear BN t1 t2 hb6
              refine hK.out _ _ ⟨pw_cell_below HW.out c2, pw_cell_below HW.out y4⟩ (fun hHeld => ?_)
              clear hK K
              refine norm_ (a' := ?_) ?_ ?_
              rotate_left
              · first | (show Act.put _ (some 46) _ = _; simp only [Act.put, List.setIfInBounds_toArray, List.set_cons_zero, List.set_cons_succ, i64_w, i32_w]; rfl) | rfl
              refine one_ (i := 9) (N := some 36) #[true, true, true, true, true, true, true, true, true, true, true, true, true, true, true, true, true, true, true, true, false, true, true, false, false] rfl rfl (by kernel_rfl) (by decide) (fun K hK => ?_)
              refine Kd.R_append_rows_step (Kd.slice 5 (Kd.int .u8)) (w0 := W2) 0 (by rfl) (.tmp 29) (.tmp 35) 46 28 (.slice none 0 0) 24 rfl Try.underlying46 info_sl rfl (by decide) (by omega) (.slice A3 m3 c3) [] (n.way 0) (some ad) m c (fun _ => True) (fun k => k < w.heap.size) rfl rfl (Kd.R_lower HO3.out (Nat.zero_le _)) (ReadsRow.imp_ HRW.out HW.out (fun _ _ hp => Kd.M_below hp HW.out)) (fun _ _ h => h) (fun k hk => ⟨trivial, fun e => by have := Kd.R_base HO3.out k e.symm; have := HBW.out.size; omega⟩) (fun _ _ => trivial) (HW2.out.mono (Nat.zero_le _)) (Nat.zero_le _) (by have := HML.out; simp; omega) ?_
              intro v5 w5 ho5 _ hg5 hat5
              rw [List.nil_append] at ho5
              obtain ⟨A5, c5, m5, rfl, HM5⟩ := R_slice_n ho5
              have t1 := Lib.hid (below_grown HW.out hg5 (fun k e => by have := Kd.R_base HO3.out k e; have := HBW.out.size; omega))
              have t2 := Lib.hid (below_grown HW2.out hg5 (fun k e => Kd.R_base HO3.out k e))
              have HN5 : Hid (∀ k, (Value.slice A5 m5 c5).ownBlock = some k → w.heap.size ≤ k) := fun k hk => by
                rcases hat5 with e | ⟨b9, e, hl⟩
                · rw [e] at hk; have := Kd.R_base HO3.out k hk; have := HBW.out.size; omega
                · rw [e] at hk; cases hk; have := HW.out.size; omega
              have HO5 := Lib.hid ho5
              try (have t3 := Lib.hid ((hg5.block _ (blk_lt HB6.out) (fun e => HNE.out e)).trans HB6.out); clear HB6; have HB6 := t3; clear t3)
              clear HW HW2 hHeld
              have HW := t1
              have HW2 := t2
              clear ho5 hg5 hat5 t1 t2
              refine hK.out _ _ ⟨pw_cell_below HW.out c2, pw_cell_below HW.out y4⟩ (fun hHeld => ?_)
              clear hK K
              refine norm_ (a' := ?_) ?_ ?_
              rotate_left
              · first | (show Act.put _ (some 36) _ = _; simp only [Act.put, List.setIfInBounds_toArray, List.set_cons_zero, List.set_cons_succ, i64_w, i32_w]; rfl) | rfl
              exact norm_ (by simp only [putAll, Act.put, List.setIfInBounds_toArray, List.set_cons_zero, List.set_cons_succ]) (hCont (.slice A3 m3 c3, .slice A5 m5 c5, b6) _ ⟨hHeld, HW.out, HO5.out, HN5.out, HB6.out⟩)
          · skip
            go_simp
            clear hHeld
            have HB6 := Lib.hid (blk_new_of HW.out (.cells #[.slice Ab nb cb] 28))
            have BN := Lib.hid (below_alloc_of HW.out (.cells #[.slice Ab nb cb] 28))
            obtain ⟨b6, hb6⟩ := cur_size HW.out
            rw [← hb6] at HB6 ⊢
            have t1 := Lib.hid (below_alloc HW.out (.cells #[.slice Ab nb cb] 28))
            have t2 := Lib.hid (below_alloc HW2.out (.cells #[.slice Ab nb cb] 28))
            try (have HNE : Hid (some b6 ≠ (Value.slice A3 m3 c3).ownBlock) := fun e => by have := Kd.R_lt HO3.out b6 e.symm; omega)
            try (have t3 := Lib.hid (Kd.R_below HO3.out BN.out); clear HO3; have HO3 := t3; clear t3)
            try (have t3 := Lib.hid (Kd.R_below HO5.out BN.out); clear HO5; have HO5 := t3; clear t3)
            clear HW HW2
            have HW := t1
            have HW2 := t2
            clear BN t1 t2 hb6
            refine hK.out _ _ ⟨pw_cell_below HW.out c2, pw_cell_below HW.out y4⟩ (fun hHeld => ?_)
            clear hK K
            refine norm_ (a' := ?_) ?_ ?_
            rotate_left
            · first | (show Act.put _ (some 46) _ = _; simp only [Act.put, List.setIfInBounds_toArray, List.set_cons_zero, List.set_cons_succ, i64_w, i32_w]; rfl) | rfl
            refine one_ (i := 2) (N := some 29) #[true, true, true, true, true, true, true, true, true, false, true, true, true, true, true, true, true, true, true, true, false, true, true, false, false] rfl rfl (by kernel_rfl) (by decide) (fun K hK => ?_)
            refine Kd.R_lit_step (Kd.slice 5 (Kd.int .u8)) (w0 := W2) W2.heap.size 28 ?hg (N := 29) ?hd (xs := ([] : List (List Int))) (inner := []) (ok := fun _ => True) (okp := fun _ => True) ?hr ?hp (fun _ hk => hk) trivial HW2.out HW2.out.size (by simp) ?_
            (case hd => rfl)
            (case hg => rfl)
            (case hr => first | (go_simp; done) | (go_simp; rfl))
            (case hp => exact Reps.none _ _)
            intro v3 w3 ho3 hb3 hg3 hat3
            obtain ⟨A3, c3, m3, rfl, HM3⟩ := R_slice_n ho3
            have HO3 := Lib.hid ho3
            have BN := Lib.hid (below_none hg3)
            have t1 := Lib.hid (HW.out.trans (BN.out.mono HW.out.size))
            have t2 := Lib.hid hb3
            try (have HNE := Lib.hid (ne_lit HB6.out hat3); have t3 := Lib.hid (blk_below HB6.out BN.out); clear HB6; have HB6 := t3; clear t3)
            clear HW HW2 hHeld
            have HW := t1
            have HW2 := t2
            clear ho3 hb3 hg3 hat3 BN t1 t2
            refine hK.out _ _ ⟨pw_cell_below HW.out c2, pw_cell_below HW.out y4⟩ (fun hHeld => ?_)
            clear hK K
            refine norm_ (a' := ?_) ?_ ?_
            rotate_left
            · first | (show Act.put _ (some 29) _ = _; simp only [Act.put, List.setIfInBounds_toArray, List.set_cons_zero, List.set_cons_succ, i64_w, i32_w]; rfl) | rfl
            refine one_ (i := 9) (N := some 36) #[true, true, true, true, true, true, true, true, true, true, true, true, true, true, true, true, true, true, true, true, false, true, true, false, false] rfl rfl (by kernel_rfl) (by decide) (fun K hK => ?_)
            refine Kd.R_append_rows_step (Kd.slice 5 (Kd.int .u8)) (w0 := W2) 0 (by rfl) (.tmp 29) (.tmp 35) 46 28 (.slice none 0 0) 24 rfl Try.underlying46 info_sl rfl (by decide) (by omega) (.slice A3 m3 c3) [] (n.way 0) (some ad) m c (fun _ => True) (fun k => k < w.heap.size) rfl rfl (Kd.R_lower HO3.out (Nat.zero_le _)) (ReadsRow.imp_ HRW.out HW.out (fun _ _ hp => Kd.M_below hp HW.out)) (fun _ _ h => h) (fun k hk => ⟨trivial, fun e => by have := Kd.R_base HO3.out k e.symm; have := HBW.out.size; omega⟩) (fun _ _ => trivial) (HW2.out.mono (Nat.zero_le _)) (Nat.zero_le _) (by have := HML.out; simp; omega) ?_
            intro v5 w5 ho5 _ hg5 hat5
            rw [List.nil_append] at ho5
            obtain ⟨A5, c5, m5, rfl, HM5⟩ := R_slice_n ho5
            have t1 := Lib.hid (below_grown HW.out hg5 (fun k e => by have := Kd.R_base HO3.out k e; have := HBW.out.size; omega))
            have t2 := Lib.hid (below_grown HW2.out hg5 (fun k e => Kd.R_base HO3.out k e))
            have HN5 : Hid (∀ k, (Value.slice A5 m5 c5).ownBlock = some k → w.heap.size ≤ k) := fun k hk => by
              rcases hat5 with e | ⟨b9, e, hl⟩
              · rw [e] at hk; have := Kd.R_base HO3.out k hk; have := HBW.out.size; omega
              · rw [e] at hk; cases hk; have := HW.out.size; omega
            have HO5 := Lib.hid ho5
            try (have t3 := Lib.hid ((hg5.block _ (blk_lt HB6.out) (fun e => HNE.out e)).trans HB6.out); clear HB6; have HB6 := t3; clear t3)
            clear HW HW2 hHeld
            have HW := t1
            have HW2 := t2
            clear ho5 hg5 hat5 t1 t2
            refine hK.out _ _ ⟨pw_cell_below HW.out c2, pw_cell_below HW.out y4⟩ (fun hHeld => ?_)
            clear hK K
            refine norm_ (a' := ?_) ?_ ?_
            rotate_left
            · first | (show Act.put _ (some 36) _ = _; simp only [Act.put, List.setIfInBounds_toArray, List.set_cons_zero, List.set_cons_succ, i64_w, i32_w]; rfl) | rfl
            exact norm_ (by simp only [putAll, Act.put, List.setIfInBounds_toArray, List.set_cons_zero, List.set_cons_succ]) (hCont (.slice A3 m3 c3, .slice A5 m5 c5, b6) _ ⟨hHeld, HW.out, HO5.out, HN5.out, HB6.out⟩)
        rintro ⟨u3, u5, b6⟩ w' ⟨hHeld, hw_, ho5, hn5, hb6⟩
        dsimp only at ho5 hn5 hb6
        obtain ⟨A5, c5, m5, rfl, HM5⟩ := R_slice_n ho5
        have HW := Lib.hid hw_
        have HO5 := Lib.hid ho5
        have HN5 := Lib.hid hn5
        have HB6 := Lib.hid hb6
        clear hw_ ho5 hn5 hb6
        refine norm_ (a' := ?_) ?_ ?_
        rotate_left
        focus (simp only [putAll, Act.put, List.setIfInBounds_toArray, List.set_cons_zero, List.set_cons_succ]; rfl)
        refine one_ (i := 20) (N := some 47) #[true, true, true, true, true, true, true, true, true, true, true, true, true, true, true, true, true, true, true, true, true, true, true, false, false] rfl rfl (by kernel_rfl) (by decide) (fun K hK => ?_)
        refine Kd.R_append_rows_step (Kd.slice 5 (Kd.int .u8)) (w0 := w') 0 (by rfl) (.tmp 36) (.tmp 46) 46 28 (.slice none 0 0) 24 rfl Try.underlying46 info_sl rfl (by decide) (by omega) (.slice A5 m5 c5) (n.way 0) [x] (some ⟨b6, 0, none⟩) 1 1 (fun _ => True) (fun k => k < w.heap.size) rfl rfl HO5.out (rows_one HB6.out HRB.out HW.out) (fun _ _ h => h) (fun k hk => ⟨trivial, fun e => by have := HN5.out k e.symm; omega⟩) (fun _ _ => trivial) (Below.refl 0 _) (Nat.zero_le _) (by have := HML.out; rw [← HM.out]; omega) ?_
        intro v9 w9 ho9 _ hg9 hat9
        obtain ⟨A9, c9, m9, rfl, HM9⟩ := R_slice_n ho9
        have t1 := Lib.hid (below_grown HW.out hg9 (fun k e => HN5.out k e))
        have HAT : Hid (∀ k, (Value.slice A9 m9 c9).ownBlock = some k → w.heap.size ≤ k) := fun k hk => by
          rcases hat9 with e | ⟨b9, e, hl⟩
          · rw [e] at hk; exact HN5.out k hk
          · rw [e] at hk; cases hk; exact Nat.le_trans HW.out.size hl
        have HO9 := Lib.hid ho9
        clear HW HO5 hHeld ho9 hg9 hat9
        have HW := t1
        clear t1
        have fz := H.out.frozen (by decide) (i := 0) (by decide) c2 (Fr.of_below HW.out _) 2
        refine hK.out _ _ ⟨pw_cell_below HW.out c2, pw_cell_below HW.out y4⟩ (fun hHeld => ?_)
        clear hK K
        try (refine norm_ (a' := ?_) ?_ ?_; rotate_left; focus (simp only [Act.put, List.setIfInBounds_toArray, List.set_cons_zero, List.set_cons_succ, i64_w, i32_w]; rfl))
        refine pure_ (i := 23) (N := some 50) (v := ?_) (a' := ?_) #[true, true, true, true, true, true, true, true, true, true, true, true, true, true, true, true, true, true, true, true, true, true, true, true, false] rfl rfl (by kernel_rfl) (fun _ _ _ h => h) (Or.inl ⟨by rfl, ?_⟩) ?_ ?_
        rotate_left
        · intro w'
          go_simp
          with_reducible rfl
        rotate_left
        · simp only [Act.put, List.setIfInBounds_toArray, List.set_cons_zero, List.set_cons_succ, i64_w, i32_w]
          rfl
        refine last_ (i := 24) (N := none) #[true, true, true, true, true, true, true, true, true, true, true, true, true, true, true, true, true, true, true, true, true, true, true, true, true] rfl rfl (by kernel_rfl) (by decide) (fun K hK => ?_)
        have c9 := pw_cell_below HW.out c2
        go_simp
        clear hHeld
        refine hK.out _ _ ?_
        clear hK K
        try (refine norm_ (a' := ?_) ?_ ?_; rotate_left; focus (simp only [Act.put, List.setIfInBounds_toArray, List.set_cons_zero, List.set_cons_succ, i64_w, i32_w]; rfl))
        refine done_ (by kernel_rfl) ?_
        go_wp2_with fail
        go_ret
        rw [E.out]
        obtain ⟨O', hN, hE⟩ := H.out.stored (by decide) (by decide) (by decide) (i := 0) (by decide) c2 (Fr.of_below HW.out _) HO9.out (fun k hk => .inr (HAT.out k hk))
        exact ⟨O', rfl, hN, hE⟩
      · skip
        have c2 : w.cell? ⟨g, 3, none⟩ = some (.slice (some ad) m c) := hv
        clear hv
        go_enter Try.func27, Try.ntmps27
        go_wp2_with (first | (go_at_call 30; refine (place_calls g O n 1 k _ H.out).mono ?_; rw [P0.out]; rintro e w' ⟨rfl, hw⟩; obtain rfl := hw.symm) | fail)
        refine start_ (n := 12) (S := fun w' => w'.cell? ⟨g, 0, none⟩ = some (.int .i64 n.room) ∧ w'.cell? ⟨g, 3, none⟩ = some (.slice (some ad) m c)) (ds := []) #[false, false, false, false, false, false, false, false, false, false, false, false] (by kernel_rfl) rfl rfl ⟨x0, c2⟩ (fun hHeld => ?_)
        refine pure_ (i := 0) (N := some 15) (v := ?_) (a' := ?_) #[true, false, false, false, false, false, false, false, false, false, false, false] rfl rfl (by kernel_rfl) (fun _ _ _ h => h) (Or.inl ⟨by rfl, ?_⟩) ?_ ?_
        rotate_left
        · intro w'
          go_simp
          with_reducible rfl
        rotate_left
        · simp only [Act.put, List.setIfInBounds_toArray, List.set_cons_zero, List.set_cons_succ, i64_w, i32_w]
          rfl
        refine pure_ (i := 1) (N := some 16) (v := ?_) (a' := ?_) #[true, true, false, false, false, false, false, false, false, false, false, false] rfl rfl (by kernel_rfl) (fun _ _ _ h => h) (Or.inl ⟨by rfl, ?_⟩) ?_ ?_
        rotate_left
        · intro w'
          go_simp
          with_reducible rfl
        rotate_left
        · simp only [Act.put, List.setIfInBounds_toArray, List.set_cons_zero, List.set_cons_succ, i64_w, i32_w]
          rfl
        refine pure_ (i := 2) (N := some 17) (v := ?_) (a' := ?_) #[true, true, true, false, false, false, false, false, false, false, false, false] rfl rfl (by kernel_rfl) (fun _ _ _ h => h) (Or.inl ⟨by rfl, ?_⟩) ?_ ?_
        rotate_left
        · intro w'
          go_simp
          with_reducible rfl
        rotate_left
        · simp only [Act.put, List.setIfInBounds_toArray, List.set_cons_zero, List.set_cons_succ, i64_w, i32_w]
          rfl
        refine pure_ (i := 3) (N := some 18) (v := ?_) (a' := ?_) #[true, true, true, true, false, false, false, false, false, false, false, false] rfl rfl (by kernel_rfl) (fun _ _ _ h => h) (Or.inl ⟨by rfl, ?_⟩) ?_ ?_
        rotate_left
        · intro w'
          go_simp
          with_reducible rfl
        rotate_left
        · simp only [Act.put, List.setIfInBounds_toArray, List.set_cons_zero, List.set_cons_succ, i64_w, i32_w]
          rfl
        refine pure_ (i := 4) (N := some 19) (v := ?_) (a' := ?_) #[true, true, true, true, true, false, false, false, false, false, false, false] rfl rfl (by kernel_rfl) (fun _ _ _ h => h) (Or.inl ⟨by rfl, ?_⟩) ?_ ?_
        rotate_left
        · intro w'
          go_simp
          with_reducible rfl
        rotate_left
        · simp only [Act.put, List.setIfInBounds_toArray, List.set_cons_zero, List.set_cons_succ, i64_w, i32_w]
          rfl
        refine pure_ (i := 7) (N := some 22) (v := ?_) (a' := ?_) #[true, true, true, true, true, false, false, true, false, false, false, false] rfl rfl (by kernel_rfl) (fun _ _ _ h => h) (Or.inl ⟨by rfl, ?_⟩) ?_ ?_
        rotate_left
        · intro w'
          go_simp
          with_reducible rfl
        rotate_left
        · simp only [Act.put, List.setIfInBounds_toArray, List.set_cons_zero, List.set_cons_succ, i64_w, i32_w]
          rfl
        refine pure_ (i := 8) (N := some 23) (v := ?_) (a' := ?_) #[true, true, true, true, true, false, false, true, true, false, false, false] rfl rfl (by kernel_rfl) (fun _ _ _ h => h) (Or.inl ⟨by rfl, ?_⟩) ?_ ?_
        rotate_left
        · intro w'
          go_simp
          with_reducible rfl
        rotate_left
        · simp only [Act.put, List.setIfInBounds_toArray, List.set_cons_zero, List.set_cons_succ, i64_w, i32_w]
          rfl
        refine pure_ (i := 9) (N := some 24) (v := ?_) (a' := ?_) #[true, true, true, true, true, false, false, true, true, true, false, false] rfl rfl (by kernel_rfl) (fun _ _ _ h => h) (Or.inl ⟨by rfl, ?_⟩) ?_ ?_
        rotate_left
        · intro w'
          go_simp
          with_reducible rfl
        rotate_left
        · simp only [Act.put, List.setIfInBounds_toArray, List.set_cons_zero, List.set_cons_succ, i64_w, i32_w]
          rfl
        refine take_ (i := 5) (N := some 20) (v := ?_) (a' := ?_) #[true, true, true, true, true, true, false, true, true, true, false, false] rfl rfl (by kernel_rfl) (fun _ _ _ h => h) (Or.inl ⟨by rfl, ?_⟩) hHeld ?_ ?_
        rotate_left
        · rintro w' ⟨s0, s1⟩
          go_simp
          with_reducible rfl
        rotate_left
        · simp only [Act.put, List.setIfInBounds_toArray, List.set_cons_zero, List.set_cons_succ, i64_w, i32_w]
          rfl
        refine pure_ (i := 6) (N := some 21) (v := ?_) (a' := ?_) #[true, true, true, true, true, true, true, true, true, true, false, false] rfl rfl (by kernel_rfl) (fun _ _ _ h => h) (Or.inl ⟨by rfl, ?_⟩) ?_ ?_
        rotate_left
        · intro w'
          go_simp
          with_reducible rfl
        rotate_left
        · simp only [Act.put, List.setIfInBounds_toArray, List.set_cons_zero, List.set_cons_succ, i64_w, i32_w]
          rfl
        refine take_ (i := 10) (N := some 25) (v := ?_) (a' := ?_) #[true, true, true, true, true, true, true, true, true, true, true, false] rfl rfl (by kernel_rfl) (fun _ _ _ h => h) (Or.inl ⟨by rfl, ?_⟩) hHeld ?_ ?_
        rotate_left
        · rintro w' ⟨s0, s1⟩
          go_simp
          with_reducible rfl
        rotate_left
        · simp only [Act.put, List.setIfInBounds_toArray, List.set_cons_zero, List.set_cons_succ, i64_w, i32_w]
          rfl
        refine pure_ (i := 11) (N := some 26) (v := ?_) (a' := ?_) #[true, true, true, true, true, true, true, true, true, true, true, true] rfl rfl (by kernel_rfl) (fun _ _ _ h => h) (Or.inl ⟨by rfl, ?_⟩) ?_ ?_
        rotate_left
        · intro w'
          go_simp
          with_reducible rfl
        rotate_left
        · simp only [Act.put, List.setIfInBounds_toArray, List.set_cons_zero, List.set_cons_succ, i64_w, i32_w]
          rfl
        refine done_ (by kernel_rfl) ?_
        go_wp2_with fail
        refine start_ (n := 25) (S := fun w' => w'.cell? ⟨g, 3, none⟩ = some (.slice (some ad) m c) ∧ w'.cell? (ad.add k) = some (.slice Ab nb cb)) (ds := [24]) #[false, false, false, false, false, false, false, false, false, false, false, false, false, false, false, false, false, false, false, false, false, false, false, false, false] (by kernel_rfl) rfl rfl ⟨c2, y4⟩ (fun hHeld => ?_)
        obtain ⟨W2, hW2⟩ : ∃ W2, w.drew.drew = W2 := ⟨_, rfl⟩
        have hbw : Below w.heap.size w W2 := by rw [← hW2]; exact below_drew (below_drew (Below.refl _ _))
        rw [hW2] at hHeld ⊢
        clear hW2
        have HW := Lib.hid hbw
        have HBW := Lib.hid hbw
        have HW2 := Lib.hid (Below.refl W2.heap.size W2)
        clear hbw
        refine pure_ (i := 0) (N := some 27) (v := ?_) (a' := ?_) #[true, false, false, false, false, false, false, false, false, false, false, false, false, false, false, false, false, false, false, false, false, false, false, false, false] rfl rfl (by kernel_rfl) (fun _ _ _ h => h) (Or.inl ⟨by rfl, ?_⟩) ?_ ?_
        rotate_left
        · intro w'
          go_simp
          with_reducible rfl
        rotate_left
        · simp only [Act.put, List.setIfInBounds_toArray, List.set_cons_zero, List.set_cons_succ, i64_w, i32_w]
          rfl
        refine pure_ (i := 1) (N := some 28) (v := ?_) (a' := ?_) #[true, true, false, false, false, false, false, false, false, false, false, false, false, false, false, false, false, false, false, false, false, false, false, false, false] rfl rfl (by kernel_rfl) (fun _ _ _ h => h) (Or.inl ⟨by rfl, ?_⟩) ?_ ?_
        rotate_left
        · intro w'
          go_simp
          with_reducible rfl
        rotate_left
        · simp only [Act.put, List.setIfInBounds_toArray, List.set_cons_zero, List.set_cons_succ, i64_w, i32_w]
          rfl
        refine pure_ (i := 3) (N := some 30) (v := ?_) (a' := ?_) #[true, true, false, true, false, false, false, false, false, false, false, false, false, false, false, false, false, false, false, false, false, false, false, false, false] rfl rfl (by kernel_rfl) (fun _ _ _ h => h) (Or.inl ⟨by rfl, ?_⟩) ?_ ?_
        rotate_left
        · intro w'
          go_simp
          with_reducible rfl
        rotate_left
        · simp only [Act.put, List.setIfInBounds_toArray, List.set_cons_zero, List.set_cons_succ, i64_w, i32_w]
          rfl
        refine pure_ (i := 4) (N := some 31) (v := ?_) (a' := ?_) #[true, true, false, true, true, false, false, false, false, false, false, false, false, false, false, false, false, false, false, false, false, false, false, false, false] rfl rfl (by kernel_rfl) (fun _ _ _ h => h) (Or.inl ⟨by rfl, ?_⟩) ?_ ?_
        rotate_left
        · intro w'
          go_simp
          with_reducible rfl
        rotate_left
        · simp only [Act.put, List.setIfInBounds_toArray, List.set_cons_zero, List.set_cons_succ, i64_w, i32_w]
          rfl
        refine pure_ (i := 5) (N := some 32) (v := ?_) (a' := ?_) #[true, true, false, true, true, true, false, false, false, false, false, false, false, false, false, false, false, false, false, false, false, false, false, false, false] rfl rfl (by kernel_rfl) (fun _ _ _ h => h) (Or.inl ⟨by rfl, ?_⟩) ?_ ?_
        rotate_left
        · intro w'
          go_simp
          with_reducible rfl
        rotate_left
        · simp only [Act.put, List.setIfInBounds_toArray, List.set_cons_zero, List.set_cons_succ, i64_w, i32_w]
          rfl
        refine pure_ (i := 6) (N := some 33) (v := ?_) (a' := ?_) #[true, true, false, true, true, true, true, false, false, false, false, false, false, false, false, false, false, false, false, false, false, false, false, false, false] rfl rfl (by kernel_rfl) (fun _ _ _ h => h) (Or.inl ⟨by rfl, ?_⟩) ?_ ?_
        rotate_left
        · intro w'
          go_simp
          with_reducible rfl
        rotate_left
        · simp only [Act.put, List.setIfInBounds_toArray, List.set_cons_zero, List.set_cons_succ, i64_w, i32_w]
          rfl
        refine pure_ (i := 7) (N := some 34) (v := ?_) (a' := ?_) #[true, true, false, true, true, true, true, true, false, false, false, false, false, false, false, false, false, false, false, false, false, false, false, false, false] rfl rfl (by kernel_rfl) (fun _ _ _ h => h) (Or.inl ⟨by rfl, ?_⟩) ?_ ?_
        rotate_left
        · intro w'
          go_simp
          with_reducible rfl
        rotate_left
        · simp only [Act.put, List.setIfInBounds_toArray, List.set_cons_zero, List.set_cons_succ, i64_w, i32_w]
          rfl
        refine pure_ (i := 10) (N := some 37) (v := ?_) (a' := ?_) #[true, true, false, true, true, true, true, true, false, false, true, false, false, false, false, false, false, false, false, false, false, false, false, false, false] rfl rfl (by kernel_rfl) (fun _ _ _ h => h) (Or.inl ⟨by rfl, ?_⟩) ?_ ?_
        rotate_left
        · intro w'
          go_simp
          with_reducible rfl
        rotate_left
        · simp only [Act.put, List.setIfInBounds_toArray, List.set_cons_zero, List.set_cons_succ, i64_w, i32_w]
          rfl
        refine pure_ (i := 11) (N := some 38) (v := ?_) (a' := ?_) #[true, true, false, true, true, true, true, true, false, false, true, true, false, false, false, false, false, false, false, false, false, false, false, false, false] rfl rfl (by kernel_rfl) (fun _ _ _ h => h) (Or.inl ⟨by rfl, ?_⟩) ?_ ?_
        rotate_left
        · intro w'
          go_simp
          with_reducible rfl
        rotate_left
        · simp only [Act.put, List.setIfInBounds_toArray, List.set_cons_zero, List.set_cons_succ, i64_w, i32_w]
          rfl
        refine pure_ (i := 12) (N := some 39) (v := ?_) (a' := ?_) #[true, true, false, true, true, true, true, true, false, false, true, true, true, false, false, false, false, false, false, false, false, false, false, false, false] rfl rfl (by kernel_rfl) (fun _ _ _ h => h) (Or.inl ⟨by rfl, ?_⟩) ?_ ?_
        rotate_left
        · intro w'
          go_simp
          with_reducible rfl
        rotate_left
        · simp only [Act.put, List.setIfInBounds_toArray, List.set_cons_zero, List.set_cons_succ, i64_w, i32_w]
          rfl
        refine pure_ (i := 13) (N := some 40) (v := ?_) (a' := ?_) #[true, true, false, true, true, true, true, true, false, false, true, true, true, true, false, false, false, false, false, false, false, false, false, false, false] rfl rfl (by kernel_rfl) (fun _ _ _ h => h) (Or.inl ⟨by rfl, ?_⟩) ?_ ?_
        rotate_left
        · intro w'
          go_simp
          with_reducible rfl
        rotate_left
        · simp only [Act.put, List.setIfInBounds_toArray, List.set_cons_zero, List.set_cons_succ, i64_w, i32_w]
          rfl
        refine pure_ (i := 14) (N := some 41) (v := ?_) (a' := ?_) #[true, true, false, true, true, true, true, true, false, false, true, true, true, true, true, false, false, false, false, false, false, false, false, false, false] rfl rfl (by kernel_rfl) (fun _ _ _ h => h) (Or.inl ⟨by rfl, ?_⟩) ?_ ?_
        rotate_left
        · intro w'
          go_simp
          with_reducible rfl
        rotate_left
        · simp only [Act.put, List.setIfInBounds_toArray, List.set_cons_zero, List.set_cons_succ, i64_w, i32_w]
          rfl
        refine pure_ (i := 16) (N := some 43) (v := ?_) (a' := ?_) #[true, true, false, true, true, true, true, true, false, false, true, true, true, true, true, false, true, false, false, false, false, false, false, false, false] rfl rfl (by kernel_rfl) (fun _ _ _ h => h) (Or.inl ⟨by rfl, ?_⟩) ?_ ?_
        rotate_left
        · intro w'
          go_simp
          with_reducible rfl
        rotate_left
        · simp only [Act.put, List.setIfInBounds_toArray, List.set_cons_zero, List.set_cons_succ, i64_w, i32_w]
          rfl
        refine pure_ (i := 21) (N := some 48) (v := ?_) (a' := ?_) #[true, true, false, true, true, true, true, true, false, false, true, true, true, true, true, false, true, false, false, false, false, true, false, false, false] rfl rfl (by kernel_rfl) (fun _ _ _ h => h) (Or.inl ⟨by rfl, ?_⟩) ?_ ?_
        rotate_left
        · intro w'
          go_simp
          with_reducible rfl
        rotate_left
        · simp only [Act.put, List.setIfInBounds_toArray, List.set_cons_zero, List.set_cons_succ, i64_w, i32_w]
          rfl
        refine pure_ (i := 22) (N := some 49) (v := ?_) (a' := ?_) #[true, true, false, true, true, true, true, true, false, false, true, true, true, true, true, false, true, false, false, false, false, true, true, false, false] rfl rfl (by kernel_rfl) (fun _ _ _ h => h) (Or.inl ⟨by rfl, ?_⟩) ?_ ?_
        rotate_left
        · intro w'
          go_simp
          with_reducible rfl
        rotate_left
        · simp only [Act.put, List.setIfInBounds_toArray, List.set_cons_zero, List.set_cons_succ, i64_w, i32_w]
          rfl
        refine take_ (i := 8) (N := some 35) (v := ?_) (a' := ?_) #[true, true, false, true, true, true, true, true, true, false, true, true, true, true, true, false, true, false, false, false, false, true, true, false, false] rfl rfl (by kernel_rfl) (fun _ _ _ h => h) (Or.inl ⟨by rfl, ?_⟩) hHeld ?_ ?_
        rotate_left
        · rintro w' ⟨s0, s1⟩
          go_simp
          with_reducible rfl
        rotate_left
        · simp only [Act.put, List.setIfInBounds_toArray, List.set_cons_zero, List.set_cons_succ, i64_w, i32_w]
          rfl
        refine take_ (i := 15) (N := some 42) (v := ?_) (a' := ?_) #[true, true, false, true, true, true, true, true, true, false, true, true, true, true, true, true, true, false, false, false, false, true, true, false, false] rfl rfl (by kernel_rfl) (fun _ _ _ h => h) (Or.inl ⟨by rfl, ?_⟩) hHeld ?_ ?_
        rotate_left
        · rintro w' ⟨s0, s1⟩
          go_simp
          with_reducible rfl
        rotate_left
        · simp only [Act.put, List.setIfInBounds_toArray, List.set_cons_zero, List.set_cons_succ, i64_w, i32_w]
          rfl
        refine pure_ (i := 17) (N := some 44) (v := ?_) (a' := ?_) #[true, true, false, true, true, true, true, true, true, false, true, true, true, true, true, true, true, true, false, false, false, true, true, false, false] rfl rfl (by kernel_rfl) (fun _ _ _ h => h) (Or.inl ⟨by rfl, ?_⟩) ?_ ?_
        rotate_left
        · intro w'
          go_simp
          with_reducible rfl
        rotate_left
        · simp only [Act.put, List.setIfInBounds_toArray, List.set_cons_zero, List.set_cons_succ, i64_w, i32_w]
          rfl
        refine take_ (i := 18) (N := some 45) (v := .slice Ab nb cb) (a' := ?_) #[true, true, false, true, true, true, true, true, true, false, true, true, true, true, true, true, true, true, true, false, false, true, true, false, false] rfl rfl (by kernel_rfl) (fun _ _ _ h => h) (Or.inl ⟨by rfl, ?_⟩) hHeld ?_ ?_
        · rintro w' ⟨s0, s1⟩
          go_simp
          try (with_reducible rfl)
        rotate_left
        · simp only [Act.put, List.setIfInBounds_toArray, List.set_cons_zero, List.set_cons_succ, i64_w, i32_w]
          rfl
        refine join_ (σ := Value × Value × Nat) 3 #[true, true, true, true, true, true, true, true, true, true, true, true, true, true, true, true, true, true, true, true, false, true, true, false, false] (fun s => [(29, s.1), (36, s.2.1), (46, .slice (some ⟨s.2.2, 0, none⟩) 1 1)]) (fun s w' => (w'.cell? ⟨g, 3, none⟩ = some (.slice (some ad) m c) ∧ w'.cell? (ad.add k) = some (.slice Ab nb cb)) ∧ Below w.heap.size w w' ∧ BR 5 28 w' s.2.1 (n.way 1) ∧ (∀ k, s.2.1.ownBlock = some k → w.heap.size ≤ k) ∧ w'.heap[s.2.2]? = some (.cells #[.slice Ab nb cb] 28 (0, 0))) ?_ ?_
        rotate_left
        · intro hCont
          refine two_ (i := 2) (j := 19) (Ni := some 29) (Nj := some 46) #[true, true, true, true, true, true, true, true, true, false, true, true, true, true, true, true, true, true, true, false, false, true, true, false, false] #[true, true, false, true, true, true, true, true, true, false, true, true, true, true, true, true, true, true, true, true, false, true, true, false, false] rfl rfl rfl rfl (by kernel_rfl) (by decide) (by decide) (fun K hK => ?_) (fun K hK => ?_)
          · skip
            refine Kd.R_lit_step (Kd.slice 5 (Kd.int .u8)) (w0 := W2) W2.heap.size 28 ?hg (N := 29) ?hd (xs := ([] : List (List Int))) (inner := []) (ok := fun _ => True) (okp := fun _ => True) ?hr ?hp (fun _ hk => hk) trivial HW2.out HW2.out.size (by simp) ?_
            (case hd => rfl)
            (case hg => rfl)
            (case hr => first | (go_simp; done) | (go_simp; rfl))
            (case hp => exact Reps.none _ _)
            intro v3 w3 ho3 hb3 hg3 hat3
            obtain ⟨A3, c3, m3, rfl, HM3⟩ := R_slice_n ho3
            have HO3 := Lib.hid ho3
            have BN := Lib.hid (below_none hg3)
            have t1 := Lib.hid (HW.out.trans (BN.out.mono HW.out.size))
            have t2 := Lib.hid hb3
            try (have HNE := Lib.hid (ne_lit HB6.out hat3); have t3 := Lib.hid (blk_below HB6.out BN.out); clear HB6; have HB6 := t3; clear t3)
            clear HW HW2 hHeld
            have HW := t1
            have HW2 := t2
            clear ho3 hb3 hg3 hat3 BN t1 t2
            refine hK.out _ _ ⟨pw_cell_below HW.out c2, pw_cell_below HW.out y4⟩ (fun hHeld => ?_)
            clear hK K
            refine norm_ (a' := ?_) ?_ ?_
            rotate_left
            · first | (show Act.put _ (some 29) _ = _; simp only [Act.put, List.setIfInBounds_toArray, List.set_cons_zero, List.set_cons_succ, i64_w, i32_w]; rfl) | rfl
            refine two_ (i := 9) (j := 19) (Ni := some 36) (Nj := some 46) #[true, true, true, true, true, true, true, true, true, true, true, true, true, true, true, true, true, true, true, false, false, true, true, false, false] #[true, true, true, true, true, true, true, true, true, false, true, true, true, true, true, true, true, true, true, true, false, true, true, false, false] rfl rfl rfl rfl (by kernel_rfl) (by decide) (by decide) (fun K hK => ?_) (fun K hK => ?_)
            · skip
              refine Kd.R_append_rows_step (Kd.slice 5 (Kd.int .u8)) (w0 := W2) 0 (by rfl) (.tmp 29) (.tmp 35) 46 28 (.slice none 0 0) 24 rfl Try.underlying46 info_sl rfl (by decide) (by omega) (.slice A3 m3 c3) [] (n.way 1) (some ad) m c (fun _ => True) (fun k => k < w.heap.size) rfl rfl (Kd.R_lower HO3.out (Nat.zero_le _)) (ReadsRow.imp_ HRW.out HW.out (fun _ _ hp => Kd.M_below hp HW.out)) (fun _ _ h => h) (fun k hk => ⟨trivial, fun e => by have := Kd.R_base HO3.out k e.symm; have := HBW.out.size; omega⟩) (fun _ _ => trivial) (HW2.out.mono (Nat.zero_le _)) (Nat.zero_le _) (by have := HML.out; simp; omega) ?_
              intro v5 w5 ho5 _ hg5 hat5
              rw [List.nil_append] at ho5
              obtain ⟨A5, c5, m5, rfl, HM5⟩ := R_slice_n ho5
              have t1 := Lib.hid (below_grown HW.out hg5 (fun k e => by have := Kd.R_base HO3.out k e; have := HBW.out.size; omega))
              have t2 := Lib.hid (below_grown HW2.out hg5 (fun k e => Kd.R_base HO3.out k e))
              have HN5 : Hid (∀ k, (Value.slice A5 m5 c5).ownBlock = some k → w.heap.size ≤ k) := fun k hk => by
                rcases hat5 with e | ⟨b9, e, hl⟩
                · rw [e] at hk; have := Kd.R_base HO3.out k hk; have := HBW.out.size; omega
                · rw [e] at hk; cases hk; have := HW.out.size; omega
              have HO5 := Lib.hid ho5
              try (have t3 := Lib.hid ((hg5.block _ (blk_lt HB6.out) (fun e => HNE.out e)).trans HB6.out); clear HB6; have HB6 := t3; clear t3)
              clear HW HW2 hHeld
              have HW := t1
              have HW2 := t2
              clear ho5 hg5 hat5 t1 t2
              refine hK.out _ _ ⟨pw_cell_below HW.out c2, pw_cell_below HW.out y4⟩ (fun hHeld => ?_)
              clear hK K
              refine norm_ (a' := ?_) ?_ ?_
              rotate_left
              · first | (show Act.put _ (some 36) _ = _; simp only [Act.put, List.setIfInBounds_toArray, List.set_cons_zero, List.set_cons_succ, i64_w, i32_w]; rfl) | rfl
              refine one_ (i := 19) (N := some 46) #[true, true, true, true, true, true, true, true, true, true, true, true, true, true, true, true, true, true, true, true, false, true, true, false, false] rfl rfl (by kernel_rfl) (by decide) (fun K hK => ?_)
              go_simp
              clear hHeld
              have HB6 := Lib.hid (blk_new_of HW.out (.cells #[.slice Ab nb cb] 28))
              have BN := Lib.hid (below_alloc_of HW.out (.cells #[.slice Ab nb cb] 28))
              obtain ⟨b6, hb6⟩ := cur_size HW.out
              rw [← hb6] at HB6 ⊢
              have t1 := Lib.hid (below_alloc HW.out (.cells #[.slice Ab nb cb] 28))
              have t2 := Lib.hid (below_alloc HW2.out (.cells #[.slice Ab nb cb] 28))
              try (have HNE : Hid (some b6 ≠ (Value.slice A3 m3 c3).ownBlock) := fun e => by have := Kd.R_lt HO3.out b6 e.symm; omega)
              try (have t3 := Lib.hid (Kd.R_below HO3.out BN.out); clear HO3; have HO3 := t3; clear t3)
              try (have t3 := Lib.hid (Kd.R_below HO5.out BN.out); clear HO5; have HO5 := t3; clear t3)
              clear HW HW2
              have HW := t1
              have HW2 := t2
              clear BN t1 t2 hb6
              refine hK.out _ _ ⟨pw_cell_below HW.out c2, pw_cell_below HW.out y4⟩ (fun hHeld => ?_)
              clear hK K
              refine norm_ (a' := ?_) ?_ ?_
              rotate_left
              · first | (show Act.put _ (some 46) _ = _; simp only [Act.put, List.setIfInBounds_toArray, List.set_cons_zero, List.set_cons_succ, i64_w, i32_w]; rfl) | rfl
              exact norm_ (by simp only [putAll, Act.put, List.setIfInBounds_toArray, List.set_cons_zero, List.set_cons_succ]) (hCont (.slice A3 m3 c3, .slice A5 m5 c5, b6) _ ⟨hHeld, HW.out, HO5.out, HN5.out, HB6.out⟩)
            · skip
              go_simp
              clear hHeld
              have HB6 := Lib.hid (blk_new_of HW.out (.cells #[.slice Ab nb cb] 28))
              have BN := Lib.hid (below_alloc_of HW.out (.cells #[.slice Ab nb cb] 28))
              obtain ⟨b6, hb6⟩ := cur_size HW.out
              rw [← hb6] at HB6 ⊢
              have t1 := Lib.hid (below_alloc HW.out (.cells #[.slice Ab nb cb] 28))
              have t2 := Lib.hid (below_alloc HW2.out (.cells #[.slice Ab nb cb] 28))
              try (have HNE : Hid (some b6 ≠ (Value.slice A3 m3 c3).ownBlock) := fun e => by have := Kd.R_lt HO3.out b6 e.symm; omega)
              try (have t3 := Lib.hid (Kd.R_below HO3.out BN.out); clear HO3; have HO3 := t3; clear t3)
              try (have t3 := Lib.hid (Kd.R_below HO5.out BN.out); clear HO5; have HO5 := t3; clear t3)
              clear HW HW2
              have HW := t1
              have HW2 := t2
              clear BN t1 t2 hb6
              refine hK.out _ _ ⟨pw_cell_below HW.out c2, pw_cell_below HW.out y4⟩ (fun hHeld => ?_)
              clear hK K
              refine norm_ (a' := ?_) ?_ ?_
              rotate_left
              · first | (show Act.put _ (some 46) _ = _; simp only [Act.put, List.setIfInBounds_toArray, List.set_cons_zero, List.set_cons_succ, i64_w, i32_w]; rfl) | rfl
              refine one_ (i := 9) (N := some 36) #[true, true, true, true, true, true, true, true, true, true, true, true, true, true, true, true, true, true, true, true, false, true, true, false, false] rfl rfl (by kernel_rfl) (by decide) (fun K hK => ?_)
              refine Kd.R_append_rows_step (Kd.slice 5 (Kd.int .u8)) (w0 := W2) 0 (by rfl) (.tmp 29) (.tmp 35) 46 28 (.slice none 0 0) 24 rfl Try.underlying46 info_sl rfl (by decide) (by omega) (.slice A3 m3 c3) [] (n.way 1) (some ad) m c (fun _ => True) (fun k => k < w.heap.size) rfl rfl (Kd.R_lower HO3.out (Nat.zero_le _)) (ReadsRow.imp_ HRW.out HW.out (fun _ _ hp => Kd.M_below hp HW.out)) (fun _ _ h => h) (fun k hk => ⟨trivial, fun e => by have := Kd.R_base HO3.out k e.symm; have := HBW.out.size; omega⟩) (fun _ _ => trivial) (HW2.out.mono (Nat.zero_le _)) (Nat.zero_le _) (by have := HML.out; simp; omega) ?_
              intro v5 w5 ho5 _ hg5 hat5
              rw [List.nil_append] at ho5
              obtain ⟨A5, c5, m5, rfl, HM5⟩ := R_slice_n ho5
              have t1 := Lib.hid (below_grown HW.out hg5 (fun k e => by have := Kd.R_base HO3.out k e; have := HBW.out.size; omega))
              have t2 := Lib.hid (below_grown HW2.out hg5 (fun k e => Kd.R_base HO3.out k e))
              have HN5 : Hid (∀ k, (Value.slice A5 m5 c5).ownBlock = some k → w.heap.size ≤ k) := fun k hk => by
                rcases hat5 with e | ⟨b9, e, hl⟩
                · rw [e] at hk; have := Kd.R_base HO3.out k hk; have := HBW.out.size; omega
                · rw [e] at hk; cases hk; have := HW.out.size; omega
              have HO5 := Lib.hid ho5
              try (have t3 := Lib.hid ((hg5.block _ (blk_lt HB6.out) (fun e => HNE.out e)).trans HB6.out); clear HB6; have HB6 := t3; clear t3)
              clear HW HW2 hHeld
              have HW := t1
              have HW2 := t2
              clear ho5 hg5 hat5 t1 t2
              refine hK.out _ _ ⟨pw_cell_below HW.out c2, pw_cell_below HW.out y4⟩ (fun hHeld => ?_)
              clear hK K
              refine norm_ (a' := ?_) ?_ ?_
              rotate_left
              · first | (show Act.put _ (some 36) _ = _; simp only [Act.put, List.setIfInBounds_toArray, List.set_cons_zero, List.set_cons_succ, i64_w, i32_w]; rfl) | rfl
              exact norm_ (by simp only [putAll, Act.put, List.setIfInBounds_toArray, List.set_cons_zero, List.set_cons_succ]) (hCont (.slice A3 m3 c3, .slice A5 m5 c5, b6) _ ⟨hHeld, HW.out, HO5.out, HN5.out, HB6.out⟩)
          · skip
            go_simp
            clear hHeld
            have HB6 := Lib.hid (blk_new_of HW.out (.cells #[.slice Ab nb cb] 28))
            have BN := Lib.hid (below_alloc_of HW.out (.cells #[.slice Ab nb cb] 28))
            obtain ⟨b6, hb6⟩ := cur_size HW.out
            rw [← hb6] at HB6 ⊢
            have t1 := Lib.hid (below_alloc HW.out (.cells #[.slice Ab nb cb] 28))
            have t2 := Lib.hid (below_alloc HW2.out (.cells #[.slice Ab nb cb] 28))
            try (have HNE : Hid (some b6 ≠ (Value.slice A3 m3 c3).ownBlock) := fun e => by have := Kd.R_lt HO3.out b6 e.symm; omega)
            try (have t3 := Lib.hid (Kd.R_below HO3.out BN.out); clear HO3; have HO3 := t3; clear t3)
            try (have t3 := Lib.hid (Kd.R_below HO5.out BN.out); clear HO5; have HO5 := t3; clear t3)
            clear HW HW2
            have HW := t1
            have HW2 := t2
            clear BN t1 t2 hb6
            refine hK.out _ _ ⟨pw_cell_below HW.out c2, pw_cell_below HW.out y4⟩ (fun hHeld => ?_)
            clear hK K
            refine norm_ (a' := ?_) ?_ ?_
            rotate_left
            · first | (show Act.put _ (some 46) _ = _; simp only [Act.put, List.setIfInBounds_toArray, List.set_cons_zero, List.set_cons_succ, i64_w, i32_w]; rfl) | rfl
            refine one_ (i := 2) (N := some 29) #[true, true, true, true, true, true, true, true, true, false, true, true, true, true, true, true, true, true, true, true, false, true, true, false, false] rfl rfl (by kernel_rfl) (by decide) (fun K hK => ?_)
            refine Kd.R_lit_step (Kd.slice 5 (Kd.int .u8)) (w0 := W2) W2.heap.size 28 ?hg (N := 29) ?hd (xs := ([] : List (List Int))) (inner := []) (ok := fun _ => True) (okp := fun _ => True) ?hr ?hp (fun _ hk => hk) trivial HW2.out HW2.out.size (by simp) ?_
            (case hd => rfl)
            (case hg => rfl)
            (case hr => first | (go_simp; done) | (go_simp; rfl))
            (case hp => exact Reps.none _ _)
            intro v3 w3 ho3 hb3 hg3 hat3
            obtain ⟨A3, c3, m3, rfl, HM3⟩ := R_slice_n ho3
            have HO3 := Lib.hid ho3
            have BN := Lib.hid (below_none hg3)
            have t1 := Lib.hid (HW.out.trans (BN.out.mono HW.out.size))
            have t2 := Lib.hid hb3
            try (have HNE := Lib.hid (ne_lit HB6.out hat3); have t3 := Lib.hid (blk_below HB6.out BN.out); clear HB6; have HB6 := t3; clear t3)
            clear HW HW2 hHeld
            have HW := t1
            have HW2 := t2
            clear ho3 hb3 hg3 hat3 BN t1 t2
            refine hK.out _ _ ⟨pw_cell_below HW.out c2, pw_cell_below HW.out y4⟩ (fun hHeld => ?_)
            clear hK K
            refine norm_ (a' := ?_) ?_ ?_
            rotate_left
            · first | (show Act.put _ (some 29) _ = _; simp only [Act.put, List.setIfInBounds_toArray, List.set_cons_zero, List.set_cons_succ, i64_w, i32_w]; rfl) | rfl
            refine one_ (i := 9) (N := some 36) #[true, true, true, true, true, true, true, true, true, true, true, true, true, true, true, true, true, true, true, true, false, true, true, false, false] rfl rfl (by kernel_rfl) (by decide) (fun K hK => ?_)
            refine Kd.R_append_rows_step (Kd.slice 5 (Kd.int .u8)) (w0 := W2) 0 (by rfl) (.tmp 29) (.tmp 35) 46 28 (.slice none 0 0) 24 rfl Try.underlying46 info_sl rfl (by decide) (by omega) (.slice A3 m3 c3) [] (n.way 1) (some ad) m c (fun _ => True) (fun k => k < w.heap.size) rfl rfl (Kd.R_lower HO3.out (Nat.zero_le _)) (ReadsRow.imp_ HRW.out HW.out (fun _ _ hp => Kd.M_below hp HW.out)) (fun _ _ h => h) (fun k hk => ⟨trivial, fun e => by have := Kd.R_base HO3.out k e.symm; have := HBW.out.size; omega⟩) (fun _ _ => trivial) (HW2.out.mono (Nat.zero_le _)) (Nat.zero_le _) (by have := HML.out; simp; omega) ?_
            intro v5 w5 ho5 _ hg5 hat5
            rw [List.nil_append] at ho5
            obtain ⟨A5, c5, m5, rfl, HM5⟩ := R_slice_n ho5
            have t1 := Lib.hid (below_grown HW.out hg5 (fun k e => by have := Kd.R_base HO3.out k e; have := HBW.out.size; omega))
            have t2 := Lib.hid (below_grown HW2.out hg5 (fun k e => Kd.R_base HO3.out k e))
            have HN5 : Hid (∀ k, (Value.slice A5 m5 c5).ownBlock = some k → w.heap.size ≤ k) := fun k hk => by
              rcases hat5 with e | ⟨b9, e, hl⟩
              · rw [e] at hk; have := Kd.R_base HO3.out k hk; have := HBW.out.size; omega
              · rw [e] at hk; cases hk; have := HW.out.size; omega
            have HO5 := Lib.hid ho5
            try (have t3 := Lib.hid ((hg5.block _ (blk_lt HB6.out) (fun e => HNE.out e)).trans HB6.out); clear HB6; have HB6 := t3; clear t3)
            clear HW HW2 hHeld
            have HW := t1
            have HW2 := t2
            clear ho5 hg5 hat5 t1 t2
            refine hK.out _ _ ⟨pw_cell_below HW.out c2, pw_cell_below HW.out y4⟩ (fun hHeld => ?_)
            clear hK K
            refine norm_ (a' := ?_) ?_ ?_
            rotate_left
            · first | (show Act.put _ (some 36) _ = _; simp only [Act.put, List.setIfInBounds_toArray, List.set_cons_zero, List.set_cons_succ, i64_w, i32_w]; rfl) | rfl
            exact norm_ (by simp only [putAll, Act.put, List.setIfInBounds_toArray, List.set_cons_zero, List.set_cons_succ]) (hCont (.slice A3 m3 c3, .slice A5 m5 c5, b6) _ ⟨hHeld, HW.out, HO5.out, HN5.out, HB6.out⟩)
        rintro ⟨u3, u5, b6⟩ w' ⟨hHeld, hw_, ho5, hn5, hb6⟩
        dsimp only at ho5 hn5 hb6
        obtain ⟨A5, c5, m5, rfl, HM5⟩ := R_slice_n ho5
        have HW := Lib.hid hw_
        have HO5 := Lib.hid ho5
        have HN5 := Lib.hid hn5
        have HB6 := Lib.hid hb6
        clear hw_ ho5 hn5 hb6
        refine norm_ (a' := ?_) ?_ ?_
        rotate_left
        focus (simp only [putAll, Act.put, List.setIfInBounds_toArray, List.set_cons_zero, List.set_cons_succ]; rfl)
        refine one_ (i := 20) (N := some 47) #[true, true, true, true, true, true, true, true, true, true, true, true, true, true, true, true, true, true, true, true, true, true, true, false, false] rfl rfl (by kernel_rfl) (by decide) (fun K hK => ?_)
        refine Kd.R_append_rows_step (Kd.slice 5 (Kd.int .u8)) (w0 := w') 0 (by rfl) (.tmp 36) (.tmp 46) 46 28 (.slice none 0 0) 24 rfl Try.underlying46 info_sl rfl (by decide) (by omega) (.slice A5 m5 c5) (n.way 1) [x] (some ⟨b6, 0, none⟩) 1 1 (fun _ => True) (fun k => k < w.heap.size) rfl rfl HO5.out (rows_one HB6.out HRB.out HW.out) (fun _ _ h => h) (fun k hk => ⟨trivial, fun e => by have := HN5.out k e.symm; omega⟩) (fun _ _ => trivial) (Below.refl 0 _) (Nat.zero_le _) (by have := HML.out; rw [← HM.out]; omega) ?_
        intro v9 w9 ho9 _ hg9 hat9
        obtain ⟨A9, c9, m9, rfl, HM9⟩ := R_slice_n ho9
        have t1 := Lib.hid (below_grown HW.out hg9 (fun k e => HN5.out k e))
        have HAT : Hid (∀ k, (Value.slice A9 m9 c9).ownBlock = some k → w.heap.size ≤ k) := fun k hk => by
          rcases hat9 with e | ⟨b9, e, hl⟩
          · rw [e] at hk; exact HN5.out k hk
          · rw [e] at hk; cases hk; exact Nat.le_trans HW.out.size hl
        have HO9 := Lib.hid ho9
        clear HW HO5 hHeld ho9 hg9 hat9
        have HW := t1
        clear t1
        have fz := H.out.frozen (by decide) (i := 1) (by decide) c2 (Fr.of_below HW.out _) 3
        refine hK.out _ _ ⟨pw_cell_below HW.out c2, pw_cell_below HW.out y4⟩ (fun hHeld => ?_)
        clear hK K
        try (refine norm_ (a' := ?_) ?_ ?_; rotate_left; focus (simp only [Act.put, List.setIfInBounds_toArray, List.set_cons_zero, List.set_cons_succ, i64_w, i32_w]; rfl))
        refine pure_ (i := 23) (N := some 50) (v := ?_) (a' := ?_) #[true, true, true, true, true, true, true, true, true, true, true, true, true, true, true, true, true, true, true, true, true, true, true, true, false] rfl rfl (by kernel_rfl) (fun _ _ _ h => h) (Or.inl ⟨by rfl, ?_⟩) ?_ ?_
        rotate_left
        · intro w'
          go_simp
          with_reducible rfl
        rotate_left
        · simp only [Act.put, List.setIfInBounds_toArray, List.set_cons_zero, List.set_cons_succ, i64_w, i32_w]
          rfl
        refine last_ (i := 24) (N := none) #[true, true, true, true, true, true, true, true, true, true, true, true, true, true, true, true, true, true, true, true, true, true, true, true, true] rfl rfl (by kernel_rfl) (by decide) (fun K hK => ?_)
        have c9 := pw_cell_below HW.out c2
        go_simp
        clear hHeld
        refine hK.out _ _ ?_
        clear hK K
        try (refine norm_ (a' := ?_) ?_ ?_; rotate_left; focus (simp only [Act.put, List.setIfInBounds_toArray, List.set_cons_zero, List.set_cons_succ, i64_w, i32_w]; rfl))
        refine done_ (by kernel_rfl) ?_
        go_wp2_with fail
        go_ret
        rw [E.out]
        obtain ⟨O', hN, hE⟩ := H.out.stored (by decide) (by decide) (by decide) (i := 1) (by decide) c2 (Fr.of_below HW.out _) HO9.out (fun k hk => .inr (HAT.out k hk))
        exact ⟨O', rfl, hN, hE⟩
  · have E : Hid (n.copy i j = (n.place i j, n)) := by show _ = _; unfold NtS.copy; rw [if_neg h0]
    have H := Lib.hid h
    have e0 : ((n.place i j) == 0) = false := beq_eq_false_iff_ne.2 h0
    clear h hok h0
    go_enter Try.func27, Try.ntmps27
    go_wp2_with (first | (go_at_call 30; refine (place_calls g O n i j _ H.out).mono ?_; rintro e w' ⟨rfl, hw⟩; obtain rfl := hw.symm) | fail)
    go_ret
    rw [E.out]
    exact ⟨O, rfl, H.out, Ext.refl _ _⟩
end Go.Proofs.Ytokcplapbjhnoaa
