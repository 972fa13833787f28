/-
  A disk's changes: what a closure of them does, and the methods over 'change'. Conditions: the disk is one that may be.
-/
import Derived.RangeFuncBox
import Derived.Test.YtfndajgmjkimgaaHDk1
namespace Go.Proofs.Ytfndajgmjkimgaa
open Go.RowKit Go.Proofs.YtfndajgmjkimgaaW.PrintWords Go.Proofs.YtfndajgmjkimgaaW.PrintLast Go.Proofs.YtfndajgmjkimgaaW.PrintMore
attribute [local go_sem] max2_int min2_int max_two min_two max_three min_three max_four min_four
set_option linter.unusedVariables false
set_option linter.unusedSimpArgs false

theorem box_fr {W W' : World} {B : Nat} {t : TypeId} {v : Value} {S : Nat → Prop} (h : Boxed W B t v) (hf : Fr W W' S) (hn : ¬ S B) : Boxed W' B t v := hf.blk h hn

theorem fr_put {w W : World} {g : Nat} (h : Fr w W (fun k => k = g)) (i : Nat) (u : Value) : Fr w (W.setCell ⟨g, i, none⟩ u) (fun k => k = g) := h.setCell (p := ⟨g, i, none⟩) (.inl rfl) u
theorem DkAt.drew {T U : TypeId} {w : World} {g : Nat} {d : DkS} (h : DkAt T U w g d) : DkAt T U w.drew g d := h.below (below_drew (Below.refl _ _))
theorem DkAt.drewN {T U : TypeId} {w : World} {g : Nat} {d : DkS} (h : DkAt T U w g d) (n : Nat) : DkAt T U (w.drewN n) g d := h.below (pw_below_drewN (Below.refl _ _) n)
theorem DkAt.alloc {T U : TypeId} {w : World} {g : Nat} {d : DkS} (h : DkAt T U w g d) (o : Obj) : DkAt T U (w.alloc o) g d := h.below (below_alloc (Below.refl _ _) o)

set_option maxHeartbeats 1000000 in
theorem sync1_calls (g : Nat) (d : DkS) (bd : Nat) (w : World) (h : DK w g d) (hb : Boxed w bd 26 (.pointer (some ⟨g, 0, none⟩))) :
    Calls Try.prog 30 #[.pointer (some ⟨bd, 0, none⟩)] w fun e w' => e = .returned (.tuple #[]) ∧ DK w' g { d with last := d.b.length } ∧ Fr w w' (fun k => k = g) := by
  have h' := h
  obtain ⟨v, hv, hr⟩ := h'
  obtain ⟨A, c, rfl⟩ := Kd.R_slice hr
  have c1 := (blk_cell hv 1).trans rfl
  have c2 := (blk_cell hv 2).trans rfl
  have z2 := blk_frozen hv 2
  have x1 := hb.cell
  have H := Lib.hid h
  clear h hv hr hb
  go_enter Try.func30, Try.ntmps30
  go_still_tail 6, (by kernel_rfl)
  change wpList _ _ _ _ _ w.drew
  go_wp2
  go_end0
  exact ⟨rfl, (H.out.below (below_drew (Below.refl _ _))).set_last (by decide) _, (fr_set w g 2 _).drew⟩

set_option maxHeartbeats 4000000 in
set_option maxRecDepth 100000 in
theorem append1_calls (g : Nat) (d : DkS) (bd bb : Nat) (B : Option Addr) (cb : Nat) (b : List Int) (w : World) (h : DK w g d) (hb : Boxed w bd 26 (.pointer (some ⟨g, 0, none⟩))) (hbb : Boxed w bb 33 (.slice B b.length cb))
    (hB : (Kd.int .u8).C w B b.length b) (hcb : b.length ≤ cb) (hl : d.b.length + b.length ≤ 140737488355328) :
    Calls Try.prog 42 #[.pointer (some ⟨bd, 0, none⟩), .pointer (some ⟨bb, 0, none⟩)] w fun e w' => e = .returned (.tuple #[]) ∧ DK w' g { d with b := d.b ++ b } ∧ Fr w w' (fun k => k = g) := by
  have h' := h
  obtain ⟨v, hv, hr⟩ := h'
  obtain ⟨A, c, rfl, hc, hC⟩ := Kd.R_reads hr
  have c1 : w.cell? ⟨g, 1, none⟩ = some (.slice A d.b.length c) := (blk_cell hv 1).trans rfl
  have z1 := blk_frozen hv 1
  have x1 := hb.cell
  have x2 := hbb.cell
  have hgl := blk_lt hv
  have H := Lib.hid h
  have HV := Lib.hid hv
  have HC := Lib.hid hC
  have HCC := Lib.hid hc
  have HB := Lib.hid hB
  have HBB := Lib.hid hb
  clear h hv hr hb hbb hC hc hB
  go_enter Try.func42, Try.ntmps42
  refine start_ (n := 11) (S := fun w' => w'.cell? ⟨bd, 0, none⟩ = some (.pointer (some ⟨g, 0, none⟩)) ∧ w'.cell? ⟨bb, 0, none⟩ = some (.slice B b.length cb) ∧ w'.cell? ⟨g, 1, none⟩ = some (.slice A d.b.length c)) (ds := [10]) #[false, false, false, false, false, false, false, false, false, false, false] (by kernel_rfl) rfl rfl ⟨x1, x2, c1⟩ (fun hHeld => ?_)
  refine take_ (i := 0) (N := some 2) (v := ?_) (a' := ?_) #[true, false, false, false, false, false, false, false, false, false, false] rfl rfl (by kernel_rfl) (fun _ _ _ h => h) (Or.inl ⟨by rfl, ?_⟩) hHeld ?_ ?_
  rotate_left
  · rintro w' ⟨s0, s1, s2⟩
    go_simp
    with_reducible rfl
  rotate_left
  · simp only [Act.put, List.setIfInBounds_toArray, List.set_cons_zero, List.set_cons_succ, i64_w, i32_w]
    rfl
  refine take_ (i := 1) (N := some 3) (v := ?_) (a' := ?_) #[true, true, false, false, false, false, false, false, false, false, false] rfl rfl (by kernel_rfl) (fun _ _ _ h => h) (Or.inl ⟨by rfl, ?_⟩) hHeld ?_ ?_
  rotate_left
  · rintro w' ⟨s0, s1, s2⟩
    go_simp
    with_reducible rfl
  rotate_left
  · simp only [Act.put, List.setIfInBounds_toArray, List.set_cons_zero, List.set_cons_succ, i64_w, i32_w]
    rfl
  refine pure_ (i := 2) (N := some 4) (v := ?_) (a' := ?_) #[true, true, true, false, false, false, false, false, false, false, false] rfl rfl (by kernel_rfl) (fun _ _ _ h => h) (Or.inl ⟨by rfl, ?_⟩) ?_ ?_
  rotate_left
  · intro w'
    go_simp
    with_reducible rfl
  rotate_left
  · simp only [Act.put, List.setIfInBounds_toArray, List.set_cons_zero, List.set_cons_succ, i64_w, i32_w]
    rfl
  refine pure_ (i := 3) (N := some 5) (v := ?_) (a' := ?_) #[true, true, true, true, false, false, false, false, false, false, false] rfl rfl (by kernel_rfl) (fun _ _ _ h => h) (Or.inl ⟨by rfl, ?_⟩) ?_ ?_
  rotate_left
  · intro w'
    go_simp
    with_reducible rfl
  rotate_left
  · simp only [Act.put, List.setIfInBounds_toArray, List.set_cons_zero, List.set_cons_succ, i64_w, i32_w]
    rfl
  refine take_ (i := 4) (N := some 6) (v := ?_) (a' := ?_) #[true, true, true, true, true, false, false, false, false, false, false] rfl rfl (by kernel_rfl) (fun _ _ _ h => h) (Or.inl ⟨by rfl, ?_⟩) hHeld ?_ ?_
  rotate_left
  · rintro w' ⟨s0, s1, s2⟩
    go_simp
    with_reducible rfl
  rotate_left
  · simp only [Act.put, List.setIfInBounds_toArray, List.set_cons_zero, List.set_cons_succ, i64_w, i32_w]
    rfl
  refine take_ (i := 5) (N := some 7) (v := ?_) (a' := ?_) #[true, true, true, true, true, true, false, false, false, false, false] rfl rfl (by kernel_rfl) (fun _ _ _ h => h) (Or.inl ⟨by rfl, ?_⟩) hHeld ?_ ?_
  rotate_left
  · rintro w' ⟨s0, s1, s2⟩
    go_simp
    with_reducible rfl
  rotate_left
  · simp only [Act.put, List.setIfInBounds_toArray, List.set_cons_zero, List.set_cons_succ, i64_w, i32_w]
    rfl
  refine one_ (i := 6) (N := some 8) #[true, true, true, true, true, true, true, false, false, false, false] rfl rfl (by kernel_rfl) (by decide) (fun K hK => ?_)
  go_simp
  clear hHeld
  refine hK.out _ _ ⟨pw_cell_below (below_drew (below_alloc (Below.refl _ _) _)) x1, pw_cell_below (below_drew (below_alloc (Below.refl _ _) _)) x2, pw_cell_below (below_drew (below_alloc (Below.refl _ _) _)) c1⟩ (fun hHeld => ?_)
  clear hK K
  try (refine norm_ (a' := ?_) ?_ ?_; rotate_left; focus (simp only [Act.put, List.setIfInBounds_toArray, List.set_cons_zero, List.set_cons_succ, i64_w, i32_w]; rfl))
  refine one_ (i := 7) (N := some 9) #[true, true, true, true, true, true, true, true, false, false, false] rfl rfl (by kernel_rfl) (by decide) (fun K hK => ?_)
  refine goes_ Try.func31 (by kernel_rfl) rfl #[.slice (some ⟨w.heap.size, 0, none⟩) 2 2] (by rfl) rfl rfl (by (try simp only [List.map_toArray, List.map_cons, List.map_nil]); rfl) ?_
  refine (own_calls _ _ [d.b, b] _ (C_two (blk_drew (blk_new _ _)) (Kd.C_drew (Kd.C_alloc HC.out _)) HCC.out (Kd.C_drew (Kd.C_alloc HB.out _)) hcb) (by simp) (by simpa using hl) (by simp)).mono ?_
  rintro e w2 ⟨v2, rfl, hv2, hb2⟩
  obtain ⟨A2, c2, rfl⟩ := Kd.R_slice hv2
  have hb3 : Below w.heap.size w w2 := (below_drew (below_alloc (Below.refl _ _) _)).trans (hb2.mono (by simp))
  have f1 := pw_cell_below hb3 x1
  have f2 := pw_cell_below hb3 x2
  have f3 := pw_cell_below hb3 c1
  have f4 : w2.frozen? ⟨g, 1, none⟩ = false := blk_frozen (blk_below HV.out hb3) 1
  have f5 := Lib.hid hv2
  have f6 := Lib.hid hb3
  clear hv2 hb2 hb3
  refine ⟨_, rfl, ?_⟩
  clear hHeld
  refine hK.out _ _ ⟨f1, f2, f3⟩ (fun hHeld => ?_)
  clear hK K
  try (refine norm_ (a' := ?_) ?_ ?_; rotate_left; focus (simp only [Act.put, List.setIfInBounds_toArray, List.set_cons_zero, List.set_cons_succ, i64_w, i32_w]; rfl))
  refine pure_ (i := 8) (N := some 10) (v := ?_) (a' := ?_) #[true, true, true, true, true, true, true, true, true, false, false] rfl rfl (by kernel_rfl) (fun _ _ _ h => h) (Or.inl ⟨by rfl, ?_⟩) ?_ ?_
  rotate_left
  · intro w'
    go_simp
    with_reducible rfl
  rotate_left
  · simp only [Act.put, List.setIfInBounds_toArray, List.set_cons_zero, List.set_cons_succ, i64_w, i32_w]
    rfl
  refine pure_ (i := 9) (N := some 11) (v := ?_) (a' := ?_) #[true, true, true, true, true, true, true, true, true, true, false] rfl rfl (by kernel_rfl) (fun _ _ _ h => h) (Or.inl ⟨by rfl, ?_⟩) ?_ ?_
  rotate_left
  · intro w'
    go_simp
    with_reducible rfl
  rotate_left
  · simp only [Act.put, List.setIfInBounds_toArray, List.set_cons_zero, List.set_cons_succ, i64_w, i32_w]
    rfl
  refine last_ (i := 10) (N := none) #[true, true, true, true, true, true, true, true, true, true, true] rfl rfl (by kernel_rfl) (by decide) (fun K hK => ?_)
  go_simp
  refine hK.out _ _ ?_
  clear hK K
  try (refine norm_ (a' := ?_) ?_ ?_; rotate_left; focus (simp only [Act.put, List.setIfInBounds_toArray, List.set_cons_zero, List.set_cons_succ, i64_w, i32_w]; rfl))
  refine done_ (by kernel_rfl) ?_
  go_end0
  have e2 : (Kd.int .u8).R 5 w2 0 (fun _ => True) (.slice A2 (d.b.length + b.length) c2) (d.b ++ b) := by have := Kd.R_lower f5.out (Nat.zero_le _); simpa using this
  exact ⟨rfl, (H.out.below f6.out).set_b (by decide) e2, fr_put (Fr.of_below f6.out _) 1 _⟩

set_option maxHeartbeats 4000000 in
set_option maxRecDepth 100000 in
theorem swap1_calls (g : Nat) (d : DkS) (bd bb : Nat) (B : Option Addr) (cb : Nat) (b : List Int) (w : World) (h : DK w g d) (hb : Boxed w bd 26 (.pointer (some ⟨g, 0, none⟩))) (hbb : Boxed w bb 33 (.slice B b.length cb))
    (hB : (Kd.int .u8).C w B b.length b) (hcb : b.length ≤ cb) (hl : b.length ≤ 140737488355328) :
    Calls Try.prog 41 #[.pointer (some ⟨bb, 0, none⟩), .pointer (some ⟨bd, 0, none⟩)] w fun e w' => e = .returned (.tuple #[]) ∧ DK w' g { d with b := b, last := b.length } ∧ Fr w w' (fun k => k = g) := by
  have h' := h
  obtain ⟨v, hv, hr⟩ := h'
  have x1 := hb.cell
  have x2 := hbb.cell
  have H := Lib.hid h
  have HV := Lib.hid hv
  have HB := Lib.hid hB
  have HN1 : Hid (bd ≠ g) := blk_ne hb hv (by decide)
  have HN2 : Hid (bb ≠ g) := blk_ne hbb hv (by decide)
  clear h hv hr hb hbb hB
  go_enter Try.func41, Try.ntmps41
  refine start_ (n := 13) (S := fun w' => w'.cell? ⟨bd, 0, none⟩ = some (.pointer (some ⟨g, 0, none⟩)) ∧ w'.cell? ⟨bb, 0, none⟩ = some (.slice B b.length cb)) (ds := []) #[false, false, false, false, false, false, false, false, false, false, false, false, false] (by kernel_rfl) rfl rfl ⟨x1, x2⟩ (fun hHeld => ?_)
  refine take_ (i := 0) (N := some 2) (v := ?_) (a' := ?_) #[true, false, false, false, false, false, false, false, false, false, false, false, false] rfl rfl (by kernel_rfl) (fun _ _ _ h => h) (Or.inl ⟨by rfl, ?_⟩) hHeld ?_ ?_
  rotate_left
  · rintro w' ⟨s0, s1⟩
    go_simp
    with_reducible rfl
  rotate_left
  · simp only [Act.put, List.setIfInBounds_toArray, List.set_cons_zero, List.set_cons_succ, i64_w, i32_w]
    rfl
  refine take_ (i := 1) (N := some 3) (v := ?_) (a' := ?_) #[true, true, false, false, false, false, false, false, false, false, false, false, false] rfl rfl (by kernel_rfl) (fun _ _ _ h => h) (Or.inl ⟨by rfl, ?_⟩) hHeld ?_ ?_
  rotate_left
  · rintro w' ⟨s0, s1⟩
    go_simp
    with_reducible rfl
  rotate_left
  · simp only [Act.put, List.setIfInBounds_toArray, List.set_cons_zero, List.set_cons_succ, i64_w, i32_w]
    rfl
  refine take_ (i := 2) (N := some 4) (v := ?_) (a' := ?_) #[true, true, true, false, false, false, false, false, false, false, false, false, false] rfl rfl (by kernel_rfl) (fun _ _ _ h => h) (Or.inl ⟨by rfl, ?_⟩) hHeld ?_ ?_
  rotate_left
  · rintro w' ⟨s0, s1⟩
    go_simp
    with_reducible rfl
  rotate_left
  · simp only [Act.put, List.setIfInBounds_toArray, List.set_cons_zero, List.set_cons_succ, i64_w, i32_w]
    rfl
  refine take_ (i := 5) (N := some 7) (v := ?_) (a' := ?_) #[true, true, true, false, false, true, false, false, false, false, false, false, false] rfl rfl (by kernel_rfl) (fun _ _ _ h => h) (Or.inl ⟨by rfl, ?_⟩) hHeld ?_ ?_
  rotate_left
  · rintro w' ⟨s0, s1⟩
    go_simp
    with_reducible rfl
  rotate_left
  · simp only [Act.put, List.setIfInBounds_toArray, List.set_cons_zero, List.set_cons_succ, i64_w, i32_w]
    rfl
  refine pure_ (i := 6) (N := some 8) (v := ?_) (a' := ?_) #[true, true, true, false, false, true, true, false, false, false, false, false, false] rfl rfl (by kernel_rfl) (fun _ _ _ h => h) (Or.inl ⟨by rfl, ?_⟩) ?_ ?_
  rotate_left
  · intro w'
    go_simp
    with_reducible rfl
  rotate_left
  · simp only [Act.put, List.setIfInBounds_toArray, List.set_cons_zero, List.set_cons_succ, i64_w, i32_w]
    rfl
  refine one_ (i := 3) (N := some 5) #[true, true, true, true, false, true, true, false, false, false, false, false, false] rfl rfl (by kernel_rfl) (by decide) (fun K hK => ?_)
  go_simp
  clear hHeld
  refine hK.out _ _ ⟨pw_cell_below (below_drew (below_alloc (Below.refl _ _) _)) x1, pw_cell_below (below_drew (below_alloc (Below.refl _ _) _)) x2⟩ (fun hHeld => ?_)
  clear hK K
  try (refine norm_ (a' := ?_) ?_ ?_; rotate_left; focus (simp only [Act.put, List.setIfInBounds_toArray, List.set_cons_zero, List.set_cons_succ, i64_w, i32_w]; rfl))
  refine one_ (i := 4) (N := some 6) #[true, true, true, true, true, true, true, false, false, false, false, false, false] rfl rfl (by kernel_rfl) (by decide) (fun K hK => ?_)
  refine goes_ Try.func31 (by kernel_rfl) rfl #[.slice (some ⟨w.heap.size, 0, none⟩) 1 1] (by rfl) rfl rfl (by (try simp only [List.map_toArray, List.map_cons, List.map_nil]); rfl) ?_
  refine (own_calls _ _ [b] _ (C_one (blk_drew (blk_new _ _)) (Kd.C_drew (Kd.C_alloc HB.out _)) hcb) (by simp) (by simpa using hl) (by simp)).mono ?_
  rintro e w2 ⟨v2, rfl, hv2, hb2⟩
  obtain ⟨A2, c2, rfl⟩ := Kd.R_slice hv2
  have hb3 : Below w.heap.size w w2 := (below_drew (below_alloc (Below.refl _ _) _)).trans (hb2.mono (by simp))
  have f1 := pw_cell_below hb3 x1
  have f2 := pw_cell_below hb3 x2
  have f4 : w2.frozen? ⟨g, 1, none⟩ = false := blk_frozen (blk_below HV.out hb3) 1
  have f3 := (blk_cell (blk_below HV.out hb3) 1).trans rfl
  have f5 := Lib.hid hv2
  have f6 := Lib.hid hb3
  clear hv2 hb2 hb3
  refine ⟨_, rfl, ?_⟩
  clear hHeld
  refine hK.out _ _ ⟨f1, f2⟩ (fun hHeld => ?_)
  clear hK K
  try (refine norm_ (a' := ?_) ?_ ?_; rotate_left; focus (simp only [Act.put, List.setIfInBounds_toArray, List.set_cons_zero, List.set_cons_succ, i64_w, i32_w]; rfl))
  refine pure_ (i := 7) (N := some 9) (v := ?_) (a' := ?_) #[true, true, true, true, true, true, true, true, false, false, false, false, false] rfl rfl (by kernel_rfl) (fun _ _ _ h => h) (Or.inl ⟨by rfl, ?_⟩) ?_ ?_
  rotate_left
  · intro w'
    go_simp
    with_reducible rfl
  rotate_left
  · simp only [Act.put, List.setIfInBounds_toArray, List.set_cons_zero, List.set_cons_succ, i64_w, i32_w]
    rfl
  refine pure_ (i := 8) (N := some 10) (v := ?_) (a' := ?_) #[true, true, true, true, true, true, true, true, true, false, false, false, false] rfl rfl (by kernel_rfl) (fun _ _ _ h => h) (Or.inl ⟨by rfl, ?_⟩) ?_ ?_
  rotate_left
  · intro w'
    go_simp
    with_reducible rfl
  rotate_left
  · simp only [Act.put, List.setIfInBounds_toArray, List.set_cons_zero, List.set_cons_succ, i64_w, i32_w]
    rfl
  refine one_ (i := 9) (N := none) #[true, true, true, true, true, true, true, true, true, true, false, false, false] rfl rfl (by kernel_rfl) (by decide) (fun K hK => ?_)
  go_simp
  clear hHeld
  have g1 : ∀ u, (w2.setCell ⟨g, 1, none⟩ u).cell? ⟨bd, 0, none⟩ = some (.pointer (some ⟨g, 0, none⟩)) := fun u => (World.cell?_of_block (Below.heap_setCell _ _ _ _ HN1.out)).trans f1
  have g2 : ∀ u, (w2.setCell ⟨g, 1, none⟩ u).cell? ⟨bb, 0, none⟩ = some (.slice B b.length cb) := fun u => (World.cell?_of_block (Below.heap_setCell _ _ _ _ HN2.out)).trans f2
  have g3 : ∀ u, (w2.setCell ⟨g, 1, none⟩ u).frozen? ⟨g, 2, none⟩ = false := fun u => blk_frozen (blk_set (blk_below HV.out f6.out) 1 u) 2
  have g4 : ∀ u, (w2.setCell ⟨g, 1, none⟩ u).cell? ⟨g, 2, none⟩ = some (.int .i64 d.last) := fun u => (blk_cell (blk_set (blk_below HV.out f6.out) 1 u) 2).trans rfl
  refine hK.out _ _ ⟨g1 _, g2 _⟩ (fun hHeld => ?_)
  clear hK K g1 g2
  try (refine norm_ (a' := ?_) ?_ ?_; rotate_left; focus (simp only [Act.put, List.setIfInBounds_toArray, List.set_cons_zero, List.set_cons_succ, i64_w, i32_w]; rfl))
  refine pure_ (i := 10) (N := some 11) (v := ?_) (a' := ?_) #[true, true, true, true, true, true, true, true, true, true, true, false, false] rfl rfl (by kernel_rfl) (fun _ _ _ h => h) (Or.inl ⟨by rfl, ?_⟩) ?_ ?_
  rotate_left
  · intro w'
    go_simp
    with_reducible rfl
  rotate_left
  · simp only [Act.put, List.setIfInBounds_toArray, List.set_cons_zero, List.set_cons_succ, i64_w, i32_w]
    rfl
  refine pure_ (i := 11) (N := some 12) (v := ?_) (a' := ?_) #[true, true, true, true, true, true, true, true, true, true, true, true, false] rfl rfl (by kernel_rfl) (fun _ _ _ h => h) (Or.inl ⟨by rfl, ?_⟩) ?_ ?_
  rotate_left
  · intro w'
    go_simp
    with_reducible rfl
  rotate_left
  · simp only [Act.put, List.setIfInBounds_toArray, List.set_cons_zero, List.set_cons_succ, i64_w, i32_w]
    rfl
  refine one_ (i := 12) (N := none) #[true, true, true, true, true, true, true, true, true, true, true, true, true] rfl rfl (by kernel_rfl) (by decide) (fun K hK => ?_)
  go_simp
  clear hHeld
  refine hK.out _ _ ⟨(World.cell?_of_block ((Below.heap_setCell _ _ _ _ HN1.out).trans (Below.heap_setCell _ _ _ _ HN1.out))).trans f1, (World.cell?_of_block ((Below.heap_setCell _ _ _ _ HN2.out).trans (Below.heap_setCell _ _ _ _ HN2.out))).trans f2⟩ (fun hHeld => ?_)
  clear hK K hHeld
  try (refine norm_ (a' := ?_) ?_ ?_; rotate_left; focus (simp only [Act.put, List.setIfInBounds_toArray, List.set_cons_zero, List.set_cons_succ, i64_w, i32_w]; rfl))
  refine done_ (by kernel_rfl) ?_
  go_end0
  have e2 : (Kd.int .u8).R 5 w2 0 (fun _ => True) (.slice A2 b.length c2) b := by have := Kd.R_lower f5.out (Nat.zero_le _); simpa using this
  exact ⟨rfl, ((H.out.below f6.out).set_b (by decide) e2).set_last (by decide) _, fr_put (fr_put (Fr.of_below f6.out _) 1 _) 2 _⟩
end Go.Proofs.Ytfndajgmjkimgaa
