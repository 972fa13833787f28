/-
  A disk's Append, Sync, Swap, Crash. Conditions: the disk is one that may be.
-/
import Derived.Test.YtfndajgmjkimgaaHDk3
namespace Go.Proofs.Ytfndajgmjkimgaa
open Go.RowKit Go.Proofs.YtfndajgmjkimgaaW.PrintWords Go.Proofs.YtfndajgmjkimgaaW.PrintLast Go.Proofs.YtfndajgmjkimgaaW.PrintMore
attribute [local go_sem] max2_int min2_int max_two min_two max_three min_three max_four min_four
set_option linter.unusedVariables false
set_option linter.unusedSimpArgs false

theorem box_below {W W' : World} {B : Nat} {t : TypeId} {v : Value} (h : Boxed W B t v) (hb : Below W.heap.size W W') : Boxed W' B t v := (hb.block B h.lt).trans h
theorem fr_back {w W W' : World} {g : Nat} (hb : Below w.heap.size w W) (hf : Fr W W' (fun k => k = g)) : Fr w W' (fun k => k = g) := (Fr.of_below hb _).then_ hf (fun _ hk => .inl hk)

set_option maxHeartbeats 4000000 in
set_option maxRecDepth 100000 in
theorem disk_Append (g : Nat) (d : DkS) (B : Option Addr) (cb : Nat) (b : List Int) (w : World) (h : DK w g d) (hok : d.ok) (hB : (Kd.int .u8).C w B b.length b) (hcb : b.length ≤ cb) (hl : b.length ≤ 100000000) :
    Calls Try.prog 28 #[.pointer (some ⟨g, 0, none⟩), .slice B b.length cb] w fun e w' => e = .returned (.int .i64 (d.append b).1) ∧ DK w' g (d.append b).2 ∧ Fr w w' (fun k => k = g) := by
  have q1 := hok.2.1
  have q2 := hok.2.2.1
  have HOK := Lib.hid hok
  have H := Lib.hid h
  have HB := Lib.hid hB
  clear h hok hB
  go_enter Try.func28, Try.ntmps28
  go_wp2_with fail
  obtain ⟨W0, hW0⟩ : ∃ W0, (w.alloc (.cells #[.pointer (some ⟨g, 0, none⟩)] 26)).alloc (.cells #[.slice B b.length cb] 33) = W0 := ⟨_, rfl⟩
  have hb1 : Boxed W0 w.heap.size 26 (.pointer (some ⟨g, 0, none⟩)) := by rw [← hW0]; exact (Boxed.new _ _ _).alloc _
  have hb2 : Boxed W0 (w.heap.size + 1) 33 (.slice B b.length cb) := by rw [← hW0]; have := Boxed.new (w.alloc (.cells #[.pointer (some ⟨g, 0, none⟩)] 26)) 33 (.slice B b.length cb); rwa [World.size_alloc] at this
  have hbel : Below w.heap.size w W0 := by rw [← hW0]; exact below_alloc (below_alloc (Below.refl _ _) _) _
  rw [hW0]
  clear hW0
  have hd := H.out.below hbel
  have hd' := hd
  obtain ⟨v, hv, hr⟩ := hd'
  obtain ⟨A, c, rfl⟩ := Kd.R_slice hr
  have c1 : W0.cell? ⟨g, 1, none⟩ = some (.slice A d.b.length c) := (blk_cell hv 1).trans rfl
  have x1 := hb1.cell
  have x2 := hb2.cell
  have HD := Lib.hid hd
  have HB1 := Lib.hid hb1
  have HB2 := Lib.hid hb2
  have HBEL := Lib.hid hbel
  clear hd hv hr hb1 hb2 hbel
  have hsum : IntKind.i64.wrap ((d.b.length : Int) + b.length) = (d.b.length : Int) + b.length := IntWalk.i64_in _ (by omega)
  refine start_ (n := 12) (S := fun w' => w'.cell? ⟨w.heap.size, 0, none⟩ = some (.pointer (some ⟨g, 0, none⟩)) ∧ w'.cell? ⟨w.heap.size + 1, 0, none⟩ = some (.slice B b.length cb) ∧ w'.cell? ⟨g, 1, none⟩ = some (.slice A d.b.length c)) (ds := [10]) #[false, false, false, false, false, false, false, false, false, false, false, false] (by kernel_rfl) rfl rfl ⟨x1, x2, c1⟩ (fun hHeld => ?_)
  refine pure_ (i := 9) (N := some 14) (v := ?_) (a' := ?_) #[false, false, false, false, false, false, false, false, false, true, false, false] rfl rfl (by kernel_rfl) (fun _ _ _ h => h) (Or.inl ⟨by rfl, ?_⟩) ?_ ?_
  rotate_left
  · intro w'
    go_simp
    with_reducible rfl
  rotate_left
  · simp only [Act.put, List.setIfInBounds_toArray, List.set_cons_zero, List.set_cons_succ, i64_w, i32_w]
    rfl
  refine take_ (i := 0) (N := some 5) (v := ?_) (a' := ?_) #[true, false, false, false, false, false, false, false, false, true, false, false] rfl rfl (by kernel_rfl) (fun _ _ _ h => h) (Or.inl ⟨by rfl, ?_⟩) hHeld ?_ ?_
  rotate_left
  · rintro w' ⟨s0, s1, s2⟩
    go_simp
    with_reducible rfl
  rotate_left
  · simp only [Act.put, List.setIfInBounds_toArray, List.set_cons_zero, List.set_cons_succ, i64_w, i32_w]
    rfl
  refine take_ (i := 1) (N := some 6) (v := ?_) (a' := ?_) #[true, true, false, false, false, false, false, false, false, true, false, false] rfl rfl (by kernel_rfl) (fun _ _ _ h => h) (Or.inl ⟨by rfl, ?_⟩) hHeld ?_ ?_
  rotate_left
  · rintro w' ⟨s0, s1, s2⟩
    go_simp
    with_reducible rfl
  rotate_left
  · simp only [Act.put, List.setIfInBounds_toArray, List.set_cons_zero, List.set_cons_succ, i64_w, i32_w]
    rfl
  refine pure_ (i := 2) (N := some 7) (v := ?_) (a' := ?_) #[true, true, true, false, false, false, false, false, false, true, false, false] rfl rfl (by kernel_rfl) (fun _ _ _ h => h) (Or.inl ⟨by rfl, ?_⟩) ?_ ?_
  rotate_left
  · intro w'
    go_simp
    with_reducible rfl
  rotate_left
  · simp only [Act.put, List.setIfInBounds_toArray, List.set_cons_zero, List.set_cons_succ, i64_w, i32_w]
    rfl
  refine pure_ (i := 3) (N := some 8) (v := ?_) (a' := ?_) #[true, true, true, true, false, false, false, false, false, true, false, false] rfl rfl (by kernel_rfl) (fun _ _ _ h => h) (Or.inl ⟨by rfl, ?_⟩) ?_ ?_
  rotate_left
  · intro w'
    go_simp
    with_reducible rfl
  rotate_left
  · simp only [Act.put, List.setIfInBounds_toArray, List.set_cons_zero, List.set_cons_succ, i64_w, i32_w]
    rfl
  refine take_ (i := 4) (N := some 9) (v := ?_) (a' := ?_) #[true, true, true, true, true, false, false, false, false, true, false, false] rfl rfl (by kernel_rfl) (fun _ _ _ h => h) (Or.inl ⟨by rfl, ?_⟩) hHeld ?_ ?_
  rotate_left
  · rintro w' ⟨s0, s1, s2⟩
    go_simp
    with_reducible rfl
  rotate_left
  · simp only [Act.put, List.setIfInBounds_toArray, List.set_cons_zero, List.set_cons_succ, i64_w, i32_w]
    rfl
  refine pure_ (i := 5) (N := some 10) (v := ?_) (a' := ?_) #[true, true, true, true, true, true, false, false, false, true, false, false] rfl rfl (by kernel_rfl) (fun _ _ _ h => h) (Or.inl ⟨by rfl, ?_⟩) ?_ ?_
  rotate_left
  · intro w'
    go_simp
    with_reducible rfl
  rotate_left
  · simp only [Act.put, List.setIfInBounds_toArray, List.set_cons_zero, List.set_cons_succ, i64_w, i32_w]
    rfl
  refine take_ (i := 6) (N := some 11) (v := ?_) (a' := ?_) #[true, true, true, true, true, true, true, false, false, true, false, false] rfl rfl (by kernel_rfl) (fun _ _ _ h => h) (Or.inl ⟨by rfl, ?_⟩) hHeld ?_ ?_
  rotate_left
  · rintro w' ⟨s0, s1, s2⟩
    go_simp
    with_reducible rfl
  rotate_left
  · simp only [Act.put, List.setIfInBounds_toArray, List.set_cons_zero, List.set_cons_succ, i64_w, i32_w]
    rfl
  refine pure_ (i := 7) (N := some 12) (v := ?_) (a' := ?_) #[true, true, true, true, true, true, true, true, false, true, false, false] rfl rfl (by kernel_rfl) (fun _ _ _ h => h) (Or.inl ⟨by rfl, ?_⟩) ?_ ?_
  rotate_left
  · intro w'
    go_simp
    with_reducible rfl
  rotate_left
  · simp only [Act.put, List.setIfInBounds_toArray, List.set_cons_zero, List.set_cons_succ, i64_w, i32_w]
    rfl
  refine pure_ (i := 8) (N := some 13) (v := ?_) (a' := ?_) #[true, true, true, true, true, true, true, true, true, true, false, false] rfl rfl (by kernel_rfl) (fun _ _ _ h => h) (Or.inl ⟨by rfl, ?_⟩) ?_ ?_
  rotate_left
  · intro w'
    go_simp
    with_reducible rfl
  rotate_left
  · simp only [Act.put, List.setIfInBounds_toArray, List.set_cons_zero, List.set_cons_succ, i64_w, i32_w]
    rfl
  refine last_ (i := 10) (N := some 15) #[true, true, true, true, true, true, true, true, true, true, true, false] rfl rfl (by kernel_rfl) (by decide) (fun K hK => ?_)
  refine goes_ Try.func29 (by kernel_rfl) rfl #[.pointer (some ⟨g, 0, none⟩), .int .i64 ((d.b.length : Int) + b.length), .func (.func 42) #[] #[.pointer (some ⟨w.heap.size, 0, none⟩), .pointer (some ⟨w.heap.size + 1, 0, none⟩)]] (by rfl) rfl rfl (by (try simp only [List.map_toArray, List.map_cons, List.map_nil]); rfl) ?_
  refine (change_append g d w.heap.size (w.heap.size + 1) B cb b _ HD.out.drew HOK.out (box_below HB1.out (below_drew (Below.refl _ _))) (box_below HB2.out (below_drew (Below.refl _ _))) (Kd.C_below HB.out (below_drew HBEL.out)) hcb (by omega)).mono ?_
  rintro e w2 ⟨rfl, hd2, hf2⟩
  refine ⟨_, rfl, ?_⟩
  refine hK.out _ _ ?_
  clear hK K hHeld
  try (refine norm_ (a' := ?_) ?_ ?_; rotate_left; focus (simp only [Act.put, List.setIfInBounds_toArray, List.set_cons_zero, List.set_cons_succ, i64_w, i32_w]; rfl))
  refine pure_ (i := 11) (N := some 4) (v := ?_) (a' := ?_) #[true, true, true, true, true, true, true, true, true, true, true, true] rfl rfl (by kernel_rfl) (fun _ _ _ h => h) (Or.inl ⟨by rfl, ?_⟩) ?_ ?_
  rotate_left
  · intro w'
    go_simp
    with_reducible rfl
  rotate_left
  · simp only [Act.put, List.setIfInBounds_toArray, List.set_cons_zero, List.set_cons_succ, i64_w, i32_w]
    rfl
  refine done_ (by kernel_rfl) ?_
  go_wp2
  go_ret
  exact ⟨rfl, hd2, fr_back HBEL.out (fr_back (below_drew (Below.refl _ _)) hf2)⟩

set_option maxHeartbeats 1000000 in
theorem disk_Sync (g : Nat) (d : DkS) (w : World) (h : DK w g d) (hok : d.ok) :
    Calls Try.prog 12 #[.pointer (some ⟨g, 0, none⟩)] w fun e w' => e = .returned (.int .i64 d.sync.1) ∧ DK w' g d.sync.2 ∧ Fr w w' (fun k => k = g) := by
  have HOK := Lib.hid hok
  have H := Lib.hid h
  clear h hok
  go_enter Try.func12, Try.ntmps12
  go_wp2_with (go_at_call 29; refine (change_sync g d w.heap.size _ (H.out.alloc _) HOK.out (Boxed.new _ _ _)).mono ?_; rintro e w2 ⟨rfl, hd2, hf2⟩)
  go_ret
  exact ⟨rfl, hd2, fr_back (below_alloc (Below.refl _ _) _) hf2⟩
set_option maxHeartbeats 1000000 in
theorem disk_Swap (g : Nat) (d : DkS) (B : Option Addr) (cb : Nat) (b : List Int) (w : World) (h : DK w g d) (hok : d.ok) (hB : (Kd.int .u8).C w B b.length b) (hcb : b.length ≤ cb) (hl : b.length ≤ 100000000) :
    Calls Try.prog 26 #[.pointer (some ⟨g, 0, none⟩), .slice B b.length cb] w fun e w' => e = .returned (.int .i64 (d.swap b).1) ∧ DK w' g (d.swap b).2 ∧ Fr w w' (fun k => k = g) := by
  have HOK := Lib.hid hok
  have H := Lib.hid h
  have HB := Lib.hid hB
  clear h hok hB
  have hB2 : ∀ W : World, Boxed ((W.alloc (.cells #[.pointer (some ⟨g, 0, none⟩)] 26)).alloc (.cells #[.slice B b.length cb] 33)) (W.heap.size + 1) 33 (.slice B b.length cb) := fun W => by have := Boxed.new (W.alloc (.cells #[.pointer (some ⟨g, 0, none⟩)] 26)) 33 (.slice B b.length cb); rwa [World.size_alloc] at this
  have HB2 := Lib.hid hB2
  clear hB2
  go_enter Try.func26, Try.ntmps26
  go_wp2_with (go_at_call 29; refine (change_swap g d w.heap.size (w.heap.size + 1) B cb b _ ((H.out.alloc _).alloc _) HOK.out ((Boxed.new _ _ _).alloc _) (HB2.out w) (Kd.C_alloc (Kd.C_alloc HB.out _) _) hcb (by omega)).mono ?_; rintro e w2 ⟨rfl, hd2, hf2⟩)
  go_ret
  exact ⟨rfl, hd2, fr_back (below_alloc (below_alloc (Below.refl _ _) _) _) hf2⟩
end Go.Proofs.Ytfndajgmjkimgaa
