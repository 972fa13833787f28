/-
  The document's disk: Swap, Crash. Conditions: the disk is one that may be.
-/
import Derived.Test.YtfndajgmjkimgaaHDk6
namespace Go.Proofs.Ytfndajgmjkimgaa
open Go.RowKit Go.Proofs.YtfndajgmjkimgaaW.PrintWords Go.Proofs.YtfndajgmjkimgaaW.PrintLast Go.Proofs.YtfndajgmjkimgaaW.PrintMore
attribute [local go_sem] max2_int min2_int max_two min_two max_three min_three max_four min_four
set_option linter.unusedVariables false
set_option linter.unusedSimpArgs false

set_option maxHeartbeats 4000000 in
set_option maxRecDepth 100000 in
theorem ref_Swap (g : Nat) (d : DkS) (B : Option Addr) (cb : Nat) (b : List Int) (w : World) (h : RK w g d) (hok : d.ok) (hB : (Kd.int .u8).C w B b.length b) (hcb : b.length ≤ cb) (hl : b.length ≤ 100000000) :
    Calls Try.prog 33 #[.pointer (some ⟨g, 0, none⟩), .slice B b.length cb] w fun e w' => e = .returned (.int .i64 (d.swap b).1) ∧ RK w' g (d.swap b).2 ∧ Fr w w' (fun k => k = g) := by
  by_cases h0 : d.inn = 0
  · have e0 : d.swap b = (7, d) := by unfold DkS.swap; rw [if_pos h0]
    have E := Lib.hid e0
    have H := Lib.hid h
    have H0 := Lib.hid h0
    clear h e0 h0 hok hB
    go_enter Try.func33, Try.ntmps33
    go_wp2_with (go_at_call 43; refine (fails_yes g d _ H.out H0.out).mono ?_; rintro e w' ⟨rfl, rfl⟩)
    go_ret
    rw [E.out]
    exact ⟨rfl, H.out, Fr.refl _ _⟩
  · by_cases h1 : d.room < (b.length : Int)
    · have e0 : d.swap b = (3, d.count) := by unfold DkS.swap; rw [if_neg h0, if_pos h1]
      have t1 : decide (d.room < (b.length : Int)) = true := decide_eq_true h1
      have E := Lib.hid e0
      have H := Lib.hid h
      have H0 := Lib.hid h0
      have HOK := Lib.hid hok
      clear h e0 h0 hok hB h1
      go_enter Try.func33, Try.ntmps33
      go_wp2_with (go_at_call 43; refine (fails_no g d _ H.out HOK.out H0.out).mono ?_; rintro e w1 ⟨rfl, hd1, hf1⟩; have hd1' := hd1; obtain ⟨v, hv, hr⟩ := hd1'; have c0 : w1.cell? ⟨g, 0, none⟩ = some (.int .i64 d.room) := (blk_cell hv 0).trans rfl; have HD1 := Lib.hid hd1; have HF1 := Lib.hid hf1; clear hd1 hf1 hv hr)
      go_ret
      rw [E.out]
      exact ⟨rfl, HD1.out, HF1.out⟩
    · have e0 : d.swap b = (0, { d.count with b := b, last := b.length }) := by unfold DkS.swap; rw [if_neg h0, if_neg h1]
      have t1 : decide (d.room < (b.length : Int)) = false := decide_eq_false h1
      have E := Lib.hid e0
      have H := Lib.hid h
      have H0 := Lib.hid h0
      have HOK := Lib.hid hok
      have HB := Lib.hid hB
      clear h e0 h0 hok hB h1
      go_enter Try.func33, Try.ntmps33
      go_wp2_with (first
        | (go_at_call 43; refine (fails_no g d _ H.out HOK.out H0.out).mono ?_; rintro e w1 ⟨rfl, hd1, hf1⟩; have hd1' := hd1; obtain ⟨v, hv, hr⟩ := hd1'; obtain ⟨A, c, rfl, hc, hC⟩ := Kd.R_reads hr; have c0 : w1.cell? ⟨g, 0, none⟩ = some (.int .i64 d.room) := (blk_cell hv 0).trans rfl; have HV1 := Lib.hid hv; have HB1 := Lib.hid (C_fr_dk HB.out H.out hf1); have HD1 := Lib.hid hd1; have HF1 := Lib.hid hf1; clear hd1 hf1 hv hr hC hc)
        | ((with_reducible refine gate_dst (N := 15) rfl ?_); refine Kd.R_lit (Kd.int .u8) (w0 := w1) w1.heap.size 5 rfl (N := 15) rfl (xs := ([] : List Int)) (inner := []) (ok := fun _ => True) (okp := fun _ => True) ?hr ?hp (fun _ hk => hk) trivial (Below.refl _ _) (Nat.le_refl _) (by simp) ?_; (case hr => first | (go_simp; done) | (go_simp; rfl)); (case hp => exact Reps.none _ _); intro v3 w3 ho3 hb3 _ _; have HO3 := Lib.hid ho3; have HB3 := Lib.hid hb3; clear ho3 hb3 c0)
        | ((with_reducible refine gate_dst (N := 17) rfl ?_); at_builtin; refine Kd.R_append_rows (Kd.int .u8) (w0 := w1) w1.heap.size rfl (.tmp 15) (.tmp 16) 33 5 (.int .u8 0) 1 rfl Try.underlying33 info_u8 rfl (by decide) (by omega) _ [] b _ _ _ (fun _ => True) (fun _ => False) rfl rfl HO3.out (Kd.C_below HB1.out HB3.out) (fun _ _ h => h) (fun _ h => h.elim) (fun _ _ => trivial) HB3.out HB3.out.size (by simp; omega) ?_; intro v5 w5 ho5 hb5 _ _; obtain ⟨A5, c5, rfl⟩ := Kd.R_slice ho5; have hv5 := blk_below HV1.out hb5; have k5 : w5.cell? ⟨g, 1, none⟩ = some (.slice A d.b.length c) := (blk_cell hv5 1).trans rfl; have z5 := blk_frozen hv5 1; have k6 : ∀ u, (w5.setCell ⟨g, 1, none⟩ u).cell? ⟨g, 2, none⟩ = some (.int .i64 d.last) := fun u => (blk_cell (blk_set hv5 1 u) 2).trans rfl; have z6 : ∀ u, (w5.setCell ⟨g, 1, none⟩ u).frozen? ⟨g, 2, none⟩ = false := fun u => blk_frozen (blk_set hv5 1 u) 2; have HO5 := Lib.hid ho5; have HB5 := Lib.hid hb5; clear ho5 hb5 hv5)
        | fail)
      go_ret
      rw [E.out]
      have e5 := Kd.R_lower HO5.out (Nat.zero_le _)
      refine ⟨rfl, ((HD1.out.below HB5.out).set_b (by decide) (b2 := b) (by simpa using e5)).set_last (by decide) _, fr_put (fr_put (HF1.out.below HB5.out) 1 _) 2 _⟩

set_option maxHeartbeats 4000000 in
set_option maxRecDepth 100000 in
theorem ref_Crash (g : Nat) (d : DkS) (keep : Int) (w : World) (h : RK w g d) (hok : d.ok) :
    Calls Try.prog 39 #[.pointer (some ⟨g, 0, none⟩), .int .i64 keep] w fun e w' => e = .returned (.tuple #[]) ∧ RK w' g (d.crash keep) ∧ Fr w w' (fun k => k = g) := by
  have hk := DkS.keeps_le hok keep
  have q1 := hok.2.1
  have q2 := hok.2.2.1
  have q3 := hok.2.2.2.1
  have q4 := hok.2.2.2.2.1
  have h' := h
  obtain ⟨v, hv, hr⟩ := h'
  obtain ⟨A, c, rfl, hc, hC⟩ := Kd.R_reads hr
  have c1 : w.cell? ⟨g, 1, none⟩ = some (.slice A d.b.length c) := (blk_cell hv 1).trans rfl
  have c2 : w.cell? ⟨g, 2, none⟩ = some (.int .i64 d.last) := (blk_cell hv 2).trans rfl
  obtain ⟨kk, hkk⟩ : ∃ kk : Int, (if keep < 0 then 0 else keep) = kk := ⟨_, rfl⟩
  obtain ⟨k2, hk2⟩ : ∃ k2 : Int, (if (d.b.length : Int) - d.last < kk then (d.b.length : Int) - d.last else kk) = k2 := ⟨_, rfl⟩
  have hks : d.keeps keep = d.last + k2 := by unfold DkS.keeps; dsimp only; rw [hkk, hk2]
  obtain ⟨m, hm⟩ : ∃ m : Nat, (m : Int) = d.last + k2 := ⟨(d.last + k2).toNat, by omega⟩
  have hmb : m ≤ d.b.length := by omega
  have HCR : Hid (d.crashed keep = d.b.take m) := by
    show _ = _
    rw [DkS.crashed_eq, hks, ← hm, Int.toNat_natCast]
  have r1 : Builtin.max2 (.int .i64 keep) (.int .i64 0) = pure (.int .i64 kk) := by rw [max2_int, hkk]
  have r2 : Builtin.min2 (.int .i64 kk) (.int .i64 ((d.b.length : Int) - d.last)) = pure (.int .i64 k2) := by rw [min2_int, hk2]
  have r3 : IntKind.i64.wrap ((d.b.length : Int) - d.last) = (d.b.length : Int) - d.last := IntWalk.i64_in _ (by omega)
  have r4 : IntKind.i64.wrap (d.last + k2) = (m : Int) := by rw [← hm]; exact IntWalk.i64_in _ (by omega)
  have r5 := fun W => take_u8 A c d.b.length m hmb hc W
  have H := Lib.hid h
  have HV := Lib.hid hv
  have HC := Lib.hid (C_take_n hC m hmb)
  have hlt : (d.b.take m).length = m := by rw [List.length_take]; omega
  have HLT := Lib.hid hlt
  have HCC := Lib.hid hc
  have HM := Lib.hid hm
  clear h hv hr hC hc hkk hk2 hks hm hk hlt
  go_enter Try.func39, Try.ntmps39
  go_wp2_with fail
  refine start_ (n := 14) (S := fun w' => w'.cell? ⟨g, 1, none⟩ = some (.slice A d.b.length c) ∧ w'.cell? ⟨g, 2, none⟩ = some (.int .i64 d.last)) (ds := []) #[false, false, false, false, false, false, false, false, false, false, false, false, false, false] (by kernel_rfl) rfl rfl ⟨c1, c2⟩ (fun hHeld => ?_)
  refine pure_ (i := 0) (N := some 4) (v := ?_) (a' := ?_) #[true, false, false, false, false, false, false, false, false, false, false, false, false, false] rfl rfl (by kernel_rfl) (fun _ _ _ h => h) (Or.inl ⟨by rfl, ?_⟩) ?_ ?_
  rotate_left
  · intro w'
    go_simp
    with_reducible rfl
  rotate_left
  · simp only [Act.put, List.setIfInBounds_toArray, List.set_cons_zero, List.set_cons_succ, i64_w, i32_w]
    rfl
  refine pure_ (i := 1) (N := some 5) (v := ?_) (a' := ?_) #[true, true, false, false, false, false, false, false, false, false, false, false, false, false] rfl rfl (by kernel_rfl) (fun _ _ _ h => h) (Or.inl ⟨by rfl, ?_⟩) ?_ ?_
  rotate_left
  · intro w'
    go_simp
    with_reducible rfl
  rotate_left
  · simp only [Act.put, List.setIfInBounds_toArray, List.set_cons_zero, List.set_cons_succ, i64_w, i32_w]
    rfl
  refine pure_ (i := 2) (N := some 6) (v := ?_) (a' := ?_) #[true, true, true, false, false, false, false, false, false, false, false, false, false, false] rfl rfl (by kernel_rfl) (fun _ _ _ h => h) (Or.inl ⟨by rfl, ?_⟩) ?_ ?_
  rotate_left
  · intro w'
    go_simp
    with_reducible rfl
  rotate_left
  · simp only [Act.put, List.setIfInBounds_toArray, List.set_cons_zero, List.set_cons_succ, i64_w, i32_w]
    rfl
  refine pure_ (i := 3) (N := some 7) (v := ?_) (a' := ?_) #[true, true, true, true, false, false, false, false, false, false, false, false, false, false] rfl rfl (by kernel_rfl) (fun _ _ _ h => h) (Or.inl ⟨by rfl, ?_⟩) ?_ ?_
  rotate_left
  · intro w'
    go_simp
    with_reducible rfl
  rotate_left
  · simp only [Act.put, List.setIfInBounds_toArray, List.set_cons_zero, List.set_cons_succ, i64_w, i32_w]
    rfl
  refine pure_ (i := 4) (N := some 8) (v := ?_) (a' := ?_) #[true, true, true, true, true, false, false, false, false, false, false, false, false, false] rfl rfl (by kernel_rfl) (fun _ _ _ h => h) (Or.inl ⟨by rfl, ?_⟩) ?_ ?_
  rotate_left
  · intro w'
    go_simp
    with_reducible rfl
  rotate_left
  · simp only [Act.put, List.setIfInBounds_toArray, List.set_cons_zero, List.set_cons_succ, i64_w, i32_w]
    rfl
  refine pure_ (i := 7) (N := some 11) (v := ?_) (a' := ?_) #[true, true, true, true, true, false, false, true, false, false, false, false, false, false] rfl rfl (by kernel_rfl) (fun _ _ _ h => h) (Or.inl ⟨by rfl, ?_⟩) ?_ ?_
  rotate_left
  · intro w'
    go_simp
    with_reducible rfl
  rotate_left
  · simp only [Act.put, List.setIfInBounds_toArray, List.set_cons_zero, List.set_cons_succ, i64_w, i32_w]
    rfl
  refine pure_ (i := 8) (N := some 12) (v := ?_) (a' := ?_) #[true, true, true, true, true, false, false, true, true, false, false, false, false, false] rfl rfl (by kernel_rfl) (fun _ _ _ h => h) (Or.inl ⟨by rfl, ?_⟩) ?_ ?_
  rotate_left
  · intro w'
    go_simp
    with_reducible rfl
  rotate_left
  · simp only [Act.put, List.setIfInBounds_toArray, List.set_cons_zero, List.set_cons_succ, i64_w, i32_w]
    rfl
  refine pure_ (i := 9) (N := some 13) (v := ?_) (a' := ?_) #[true, true, true, true, true, false, false, true, true, true, false, false, false, false] rfl rfl (by kernel_rfl) (fun _ _ _ h => h) (Or.inl ⟨by rfl, ?_⟩) ?_ ?_
  rotate_left
  · intro w'
    go_simp
    with_reducible rfl
  rotate_left
  · simp only [Act.put, List.setIfInBounds_toArray, List.set_cons_zero, List.set_cons_succ, i64_w, i32_w]
    rfl
  refine take_ (i := 5) (N := some 9) (v := ?_) (a' := ?_) #[true, true, true, true, true, true, false, true, true, true, false, false, false, false] rfl rfl (by kernel_rfl) (fun _ _ _ h => h) (Or.inl ⟨by rfl, ?_⟩) hHeld ?_ ?_
  rotate_left
  · rintro w' ⟨s0, s1⟩
    go_simp
    with_reducible rfl
  rotate_left
  · simp only [Act.put, List.setIfInBounds_toArray, List.set_cons_zero, List.set_cons_succ, i64_w, i32_w]
    rfl
  refine pure_ (i := 6) (N := some 10) (v := ?_) (a' := ?_) #[true, true, true, true, true, true, true, true, true, true, false, false, false, false] rfl rfl (by kernel_rfl) (fun _ _ _ h => h) (Or.inl ⟨by rfl, ?_⟩) ?_ ?_
  rotate_left
  · intro w'
    go_simp
    with_reducible rfl
  rotate_left
  · simp only [Act.put, List.setIfInBounds_toArray, List.set_cons_zero, List.set_cons_succ, i64_w, i32_w]
    rfl
  refine take_ (i := 10) (N := some 14) (v := ?_) (a' := ?_) #[true, true, true, true, true, true, true, true, true, true, true, false, false, false] rfl rfl (by kernel_rfl) (fun _ _ _ h => h) (Or.inl ⟨by rfl, ?_⟩) hHeld ?_ ?_
  rotate_left
  · rintro w' ⟨s0, s1⟩
    go_simp
    with_reducible rfl
  rotate_left
  · simp only [Act.put, List.setIfInBounds_toArray, List.set_cons_zero, List.set_cons_succ, i64_w, i32_w]
    rfl
  refine pure_ (i := 11) (N := some 15) (v := ?_) (a' := ?_) #[true, true, true, true, true, true, true, true, true, true, true, true, false, false] rfl rfl (by kernel_rfl) (fun _ _ _ h => h) (Or.inl ⟨by rfl, ?_⟩) ?_ ?_
  rotate_left
  · intro w'
    go_simp
    with_reducible rfl
  rotate_left
  · simp only [Act.put, List.setIfInBounds_toArray, List.set_cons_zero, List.set_cons_succ, i64_w, i32_w]
    rfl
  refine pure_ (i := 12) (N := some 16) (v := ?_) (a' := ?_) #[true, true, true, true, true, true, true, true, true, true, true, true, true, false] rfl rfl (by kernel_rfl) (fun _ _ _ h => h) (Or.inl ⟨by rfl, ?_⟩) ?_ ?_
  rotate_left
  · intro w'
    go_simp
    with_reducible rfl
  rotate_left
  · simp only [Act.put, List.setIfInBounds_toArray, List.set_cons_zero, List.set_cons_succ, i64_w, i32_w]
    rfl
  refine pure_ (i := 13) (N := some 1) (v := ?_) (a' := ?_) #[true, true, true, true, true, true, true, true, true, true, true, true, true, true] rfl rfl (by kernel_rfl) (fun _ _ _ h => h) (Or.inl ⟨by rfl, ?_⟩) ?_ ?_
  rotate_left
  · intro w'
    go_simp
    with_reducible rfl
  rotate_left
  · simp only [Act.put, List.setIfInBounds_toArray, List.set_cons_zero, List.set_cons_succ, i64_w, i32_w]
    rfl
  refine done_ (by kernel_rfl) ?_
  go_wp2_with fail
  refine start_ (n := 17) (S := fun w' => w'.cell? ⟨g, 1, none⟩ = some (.slice A d.b.length c) ∧ w'.cell? ⟨g, 2, none⟩ = some (.int .i64 d.last)) (ds := [16]) #[false, false, false, false, false, false, false, false, false, false, false, false, false, false, false, false, false] (by kernel_rfl) rfl rfl ⟨c1, c2⟩ (fun hHeld => ?_)
  obtain ⟨W2, hW2⟩ : ∃ W2, w.drew.drew = W2 := ⟨_, rfl⟩
  have hbw : Below w.heap.size w W2 := by rw [← hW2]; exact below_drew (below_drew (Below.refl _ _))
  rw [hW2] at hHeld ⊢
  clear hW2
  refine pure_ (i := 0) (N := some 17) (v := ?_) (a' := ?_) #[true, false, false, false, false, false, false, false, false, false, false, false, false, false, false, false, false] rfl rfl (by kernel_rfl) (fun _ _ _ h => h) (Or.inl ⟨by rfl, ?_⟩) ?_ ?_
  rotate_left
  · intro w'
    go_simp
    with_reducible rfl
  rotate_left
  · simp only [Act.put, List.setIfInBounds_toArray, List.set_cons_zero, List.set_cons_succ, i64_w, i32_w]
    rfl
  refine pure_ (i := 2) (N := some 19) (v := ?_) (a' := ?_) #[true, false, true, false, false, false, false, false, false, false, false, false, false, false, false, false, false] rfl rfl (by kernel_rfl) (fun _ _ _ h => h) (Or.inl ⟨by rfl, ?_⟩) ?_ ?_
  rotate_left
  · intro w'
    go_simp
    with_reducible rfl
  rotate_left
  · simp only [Act.put, List.setIfInBounds_toArray, List.set_cons_zero, List.set_cons_succ, i64_w, i32_w]
    rfl
  refine pure_ (i := 3) (N := some 20) (v := ?_) (a' := ?_) #[true, false, true, true, false, false, false, false, false, false, false, false, false, false, false, false, false] rfl rfl (by kernel_rfl) (fun _ _ _ h => h) (Or.inl ⟨by rfl, ?_⟩) ?_ ?_
  rotate_left
  · intro w'
    go_simp
    with_reducible rfl
  rotate_left
  · simp only [Act.put, List.setIfInBounds_toArray, List.set_cons_zero, List.set_cons_succ, i64_w, i32_w]
    rfl
  refine pure_ (i := 4) (N := some 21) (v := ?_) (a' := ?_) #[true, false, true, true, true, false, false, false, false, false, false, false, false, false, false, false, false] rfl rfl (by kernel_rfl) (fun _ _ _ h => h) (Or.inl ⟨by rfl, ?_⟩) ?_ ?_
  rotate_left
  · intro w'
    go_simp
    with_reducible rfl
  rotate_left
  · simp only [Act.put, List.setIfInBounds_toArray, List.set_cons_zero, List.set_cons_succ, i64_w, i32_w]
    rfl
  refine pure_ (i := 6) (N := some 23) (v := ?_) (a' := ?_) #[true, false, true, true, true, false, true, false, false, false, false, false, false, false, false, false, false] rfl rfl (by kernel_rfl) (fun _ _ _ h => h) (Or.inl ⟨by rfl, ?_⟩) ?_ ?_
  rotate_left
  · intro w'
    go_simp
    with_reducible rfl
  rotate_left
  · simp only [Act.put, List.setIfInBounds_toArray, List.set_cons_zero, List.set_cons_succ, i64_w, i32_w]
    rfl
  refine pure_ (i := 7) (N := some 24) (v := ?_) (a' := ?_) #[true, false, true, true, true, false, true, true, false, false, false, false, false, false, false, false, false] rfl rfl (by kernel_rfl) (fun _ _ _ h => h) (Or.inl ⟨by rfl, ?_⟩) ?_ ?_
  rotate_left
  · intro w'
    go_simp
    with_reducible rfl
  rotate_left
  · simp only [Act.put, List.setIfInBounds_toArray, List.set_cons_zero, List.set_cons_succ, i64_w, i32_w]
    rfl
  refine pure_ (i := 8) (N := some 25) (v := ?_) (a' := ?_) #[true, false, true, true, true, false, true, true, true, false, false, false, false, false, false, false, false] rfl rfl (by kernel_rfl) (fun _ _ _ h => h) (Or.inl ⟨by rfl, ?_⟩) ?_ ?_
  rotate_left
  · intro w'
    go_simp
    with_reducible rfl
  rotate_left
  · simp only [Act.put, List.setIfInBounds_toArray, List.set_cons_zero, List.set_cons_succ, i64_w, i32_w]
    rfl
  refine pure_ (i := 10) (N := some 27) (v := ?_) (a' := ?_) #[true, false, true, true, true, false, true, true, true, false, true, false, false, false, false, false, false] rfl rfl (by kernel_rfl) (fun _ _ _ h => h) (Or.inl ⟨by rfl, ?_⟩) ?_ ?_
  rotate_left
  · intro w'
    go_simp
    with_reducible rfl
  rotate_left
  · simp only [Act.put, List.setIfInBounds_toArray, List.set_cons_zero, List.set_cons_succ, i64_w, i32_w]
    rfl
  refine take_ (i := 5) (N := some 22) (v := ?_) (a' := ?_) #[true, false, true, true, true, true, true, true, true, false, true, false, false, false, false, false, false] rfl rfl (by kernel_rfl) (fun _ _ _ h => h) (Or.inl ⟨by rfl, ?_⟩) hHeld ?_ ?_
  rotate_left
  · rintro w' ⟨s0, s1⟩
    go_simp
    with_reducible rfl
  rotate_left
  · simp only [Act.put, List.setIfInBounds_toArray, List.set_cons_zero, List.set_cons_succ, i64_w, i32_w]
    rfl
  refine take_ (i := 9) (N := some 26) (v := ?_) (a' := ?_) #[true, false, true, true, true, true, true, true, true, true, true, false, false, false, false, false, false] rfl rfl (by kernel_rfl) (fun _ _ _ h => h) (Or.inl ⟨by rfl, ?_⟩) hHeld ?_ ?_
  rotate_left
  · rintro w' ⟨s0, s1⟩
    go_simp
    with_reducible rfl
  rotate_left
  · simp only [Act.put, List.setIfInBounds_toArray, List.set_cons_zero, List.set_cons_succ, i64_w, i32_w]
    rfl
  refine pure_ (i := 11) (N := some 28) (v := ?_) (a' := ?_) #[true, false, true, true, true, true, true, true, true, true, true, true, false, false, false, false, false] rfl rfl (by kernel_rfl) (fun _ _ _ h => h) (Or.inl ⟨by rfl, ?_⟩) ?_ ?_
  rotate_left
  · intro w'
    go_simp
    with_reducible rfl
  rotate_left
  · simp only [Act.put, List.setIfInBounds_toArray, List.set_cons_zero, List.set_cons_succ, i64_w, i32_w]
    rfl
  refine pure_ (i := 12) (N := some 29) (v := ?_) (a' := ?_) #[true, false, true, true, true, true, true, true, true, true, true, true, true, false, false, false, false] rfl rfl (by kernel_rfl) (fun _ _ _ h => h) (Or.inl ⟨by rfl, ?_⟩) ?_ ?_
  rotate_left
  · intro w'
    go_simp
    with_reducible rfl
  rotate_left
  · simp only [Act.put, List.setIfInBounds_toArray, List.set_cons_zero, List.set_cons_succ, i64_w, i32_w]
    rfl
  refine one_ (i := 1) (N := some 18) #[true, true, true, true, true, true, true, true, true, true, true, true, true, false, false, false, false] rfl rfl (by kernel_rfl) (by decide) (fun K hK => ?_)
  refine Kd.R_lit_step (Kd.int .u8) (w0 := W2) W2.heap.size 5 ?hg (N := 18) ?hd (xs := ([] : List Int)) (inner := []) (ok := fun _ => True) (okp := fun _ => True) ?hr ?hp (fun _ hk => hk) trivial (Below.refl _ _) (Nat.le_refl _) (by simp) ?_
  (case hd => rfl)
  (case hg => rfl)
  (case hr => first | (go_simp; done) | (go_simp; rfl))
  (case hp => exact Reps.none _ _)
  intro v3 w3 ho3 hb3 _ _
  clear hHeld
  have HO3 := Lib.hid ho3
  have HB3 := Lib.hid hb3
  clear ho3 hb3
  refine hK.out _ _ ⟨pw_cell_below (hbw.trans (HB3.out.mono hbw.size)) c1, pw_cell_below (hbw.trans (HB3.out.mono hbw.size)) c2⟩ (fun hHeld => ?_)
  clear hK K
  try (refine norm_ (a' := ?_) ?_ ?_; rotate_left; focus (simp only [Act.put, List.setIfInBounds_toArray, List.set_cons_zero, List.set_cons_succ, i64_w, i32_w]; rfl))
  refine one_ (i := 13) (N := some 30) #[true, true, true, true, true, true, true, true, true, true, true, true, true, true, false, false, false] rfl rfl (by kernel_rfl) (by decide) (fun K hK => ?_)
  refine Kd.R_append_rows_step (Kd.int .u8) (w0 := W2) W2.heap.size (by rfl) (.tmp 18) (.tmp 29) 33 5 (.int .u8 0) 1 rfl Try.underlying33 info_u8 rfl (by decide) (by omega) v3 [] (d.b.take m) A m c (fun _ => True) (fun _ => False) rfl rfl HO3.out (by have := Kd.C_below HC.out (hbw.trans (HB3.out.mono hbw.size)); rwa [HLT.out] at this) (fun _ _ h => h) (fun _ h => h.elim) (fun _ _ => trivial) HB3.out HB3.out.size (by simp; omega) ?_
  intro v5 w5 ho5 hb5 _ _
  obtain ⟨A5, c5, rfl⟩ := Kd.R_slice ho5
  have hb3 : Below w.heap.size w w5 := hbw.trans (hb5.mono hbw.size)
  have f1 := pw_cell_below hb3 c1
  have f2 := pw_cell_below hb3 c2
  have f4 : ∀ i, w5.frozen? ⟨g, i, none⟩ = false := blk_frozen (blk_below HV.out hb3)
  have f5 := Lib.hid ho5
  have f6 := Lib.hid hb3
  clear ho5 hb5 hb3 hHeld
  refine hK.out _ _ ⟨f1, f2⟩ (fun hHeld => ?_)
  clear hK K
  try (refine norm_ (a' := ?_) ?_ ?_; rotate_left; focus (simp only [Act.put, List.setIfInBounds_toArray, List.set_cons_zero, List.set_cons_succ, i64_w, i32_w]; rfl))
  refine pure_ (i := 14) (N := some 31) (v := ?_) (a' := ?_) #[true, true, true, true, true, true, true, true, true, true, true, true, true, true, true, false, false] rfl rfl (by kernel_rfl) (fun _ _ _ h => h) (Or.inl ⟨by rfl, ?_⟩) ?_ ?_
  rotate_left
  · intro w'
    go_simp
    with_reducible rfl
  rotate_left
  · simp only [Act.put, List.setIfInBounds_toArray, List.set_cons_zero, List.set_cons_succ, i64_w, i32_w]
    rfl
  refine pure_ (i := 15) (N := some 32) (v := ?_) (a' := ?_) #[true, true, true, true, true, true, true, true, true, true, true, true, true, true, true, true, false] rfl rfl (by kernel_rfl) (fun _ _ _ h => h) (Or.inl ⟨by rfl, ?_⟩) ?_ ?_
  rotate_left
  · intro w'
    go_simp
    with_reducible rfl
  rotate_left
  · simp only [Act.put, List.setIfInBounds_toArray, List.set_cons_zero, List.set_cons_succ, i64_w, i32_w]
    rfl
  refine last_ (i := 16) (N := none) #[true, true, true, true, true, true, true, true, true, true, true, true, true, true, true, true, true] rfl rfl (by kernel_rfl) (by decide) (fun K hK => ?_)
  have z1 := f4 1
  go_simp
  clear hHeld
  refine hK.out _ _ ?_
  clear hK K z1
  try (refine norm_ (a' := ?_) ?_ ?_; rotate_left; focus (simp only [Act.put, List.setIfInBounds_toArray, List.set_cons_zero, List.set_cons_succ, i64_w, i32_w]; rfl))
  refine done_ (by kernel_rfl) ?_
  have e2 : (Kd.int .u8).R 5 w5 0 (fun _ => True) (.slice A5 m c5) (d.b.take m) := by have := Kd.R_lower f5.out (Nat.zero_le _); simpa [HLT.out] using this
  have hd3 := (H.out.below f6.out).set_b (by decide) e2
  have hv3 := (blk_set (blk_below HV.out f6.out) 1 (.slice A5 m c5)).trans (rfl : _ = some (Obj.cells #[.int .i64 d.room, .slice A5 m c5, .int .i64 d.last, .int .i64 d.inn] 61 (0, 0)))
  have hf3 := fr_put (g := g) (Fr.of_below f6.out _) 1 (.slice A5 m c5)
  have hms : (d.b.take m).length = m := HLT.out
  clear f1 f2 f4 e2 c1 c2
  obtain ⟨w3, hw3⟩ : ∃ w3, w5.setCell ⟨g, 1, none⟩ (.slice A5 m c5) = w3 := ⟨_, rfl⟩
  rw [hw3] at hd3 hv3 hf3 ⊢
  clear hw3 hms hbw
  have y1 : w3.cell? ⟨g, 1, none⟩ = some (.slice A5 m c5) := (blk_cell hv3 1).trans rfl
  have y2 : w3.cell? ⟨g, 2, none⟩ = some (.int .i64 d.last) := (blk_cell hv3 2).trans rfl
  have z2 := blk_frozen hv3 2
  have y3 : ∀ u, (w3.setCell ⟨g, 2, none⟩ u).cell? ⟨g, 3, none⟩ = some (.int .i64 d.inn) := fun u => (blk_cell (blk_set hv3 2 u) 3).trans rfl
  have z3 : ∀ u, (w3.setCell ⟨g, 2, none⟩ u).frozen? ⟨g, 3, none⟩ = false := fun u => blk_frozen (blk_set hv3 2 u) 3
  have HD3 := Lib.hid hd3
  have HF3 := Lib.hid hf3
  clear hd3 hv3 hf3
  go_wp2
  go_end0
  have hd4 := (HD3.out.set_last (by decide) (m : Int)).set_in (by decide) (-1)
  have e4 : d.crash keep = { d with b := d.b.take m, last := (m : Int), inn := -1 } := by unfold DkS.crash; rw [HCR.out, HLT.out]
  rw [e4]
  exact ⟨rfl, hd4, fr_put (fr_put HF3.out 2 _) 3 _⟩
end Go.Proofs.Ytfndajgmjkimgaa
