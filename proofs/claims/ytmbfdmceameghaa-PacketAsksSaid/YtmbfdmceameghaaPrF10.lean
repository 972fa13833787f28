-- written by a program of this session (wip/tools/gen.py) over the kit's print
import Derived.Test.YtmbfdmceameghaaPr0
import Derived.Test.YtmbfdmceameghaaPrF23
namespace Go.Proofs.Ytmbfdmceameghaa.Pr
open Go.RowKit Go.Proofs.YtmbfdmceameghaaW.PrintWords Go.Proofs.YtmbfdmceameghaaW.PrintLast Go.Proofs.YtmbfdmceameghaaW.PrintMore
attribute [local go_sem] max2_int min2_int max_two min_two max_three min_three max_four min_four   -- for this text's walks alone
set_option linter.unusedVariables false
set_option linter.unusedSimpArgs false

/-! ### packet_Right: function 10 -/
def packet_Right.j0 : Nat → Int → Bool → Int → Int → Int → Int → Int → Int → Int → Int → List Int → List (S42) → Option (Bool)
  | 0, _, _, _, _, _, _, _, _, _, _, _, _ => none
  | k + 1, x4, x11, x239000, x239001, x239002, x239003, x239004, x239005, x239006, x239007, x239008, x239009 => if x11 = true then (some false) else (if (x239008.length : Int) < 1 then (some false) else (if (x239008.length : Int) > 16 then (some false) else (if x239002 ≥ 0 then (if x239002 ≤ 65535 then (if x239003 ≥ 0 then (if x239003 ≤ 65535 then (some (x4 == 0)) else (some false)) else (some false)) else (some false)) else (some false))))
def packet_Right.f (k : Nat) (a0_0 : Int) (a0_1 : Int) (a0_2 : Int) (a0_3 : Int) (a0_4 : Int) (a0_5 : Int) (a0_6 : Int) (a0_7 : Int) (l0_8 : List Int) (l0_9 : List (S42)) : Option (Bool) := (option_Encode.f k l0_9).bind fun bt239 => (if a0_0 = 1 then (packet_Right.j0 k bt239.2 false a0_0 a0_1 a0_2 a0_3 a0_4 a0_5 a0_6 a0_7 l0_8 l0_9) else (packet_Right.j0 k bt239.2 (a0_0 != 2) a0_0 a0_1 a0_2 a0_3 a0_4 a0_5 a0_6 a0_7 l0_8 l0_9))
theorem packet_Right.mono_l : ∀ k, (∀ y0 y1 y2 y3 y4 y5 y6 y7 y8 y9 y10 y11, LeO (packet_Right.j0 k y0 y1 y2 y3 y4 y5 y6 y7 y8 y9 y10 y11) (packet_Right.j0 (k + 1) y0 y1 y2 y3 y4 y5 y6 y7 y8 y9 y10 y11))
  | 0 => fun _ _ _ _ _ _ _ _ _ _ _ _ r h => by simp [packet_Right.j0] at h
  | k + 1 => by
    have ih0 := packet_Right.mono_l k
    · intro y0 y1 y2 y3 y4 y5 y6 y7 y8 y9 y10 y11
      unfold packet_Right.j0
      repeat' first
      | (with_reducible exact ih0 _ _ _ _ _ _ _ _ _ _ _ _)
      | (with_reducible exact option_Encode.mono _ _)
      | (with_reducible exact LeO.refl _)
      | (with_reducible exact LeO.none _)
      | (with_reducible refine LeO.ite ?_ ?_)
      | (with_reducible refine LeO.bind ?_ (fun _ => ?_))
      | exact ih0 _ _ _ _ _ _ _ _ _ _ _ _
      | exact option_Encode.mono _ _
      | exact LeO.none _
      | refine LeO.ite ?_ ?_
      | refine LeO.bind ?_ (fun _ => ?_)
theorem packet_Right.mono : ∀ a0 a1 a2 a3 a4 a5 a6 a7 a8 a9 k, LeO (packet_Right.f k a0 a1 a2 a3 a4 a5 a6 a7 a8 a9) (packet_Right.f (k + 1) a0 a1 a2 a3 a4 a5 a6 a7 a8 a9) := by
  intro a0 a1 a2 a3 a4 a5 a6 a7 a8 a9 k
  have ih0 := packet_Right.mono_l k
  unfold packet_Right.f
  repeat' first
      | (with_reducible exact ih0 _ _ _ _ _ _ _ _ _ _ _ _)
      | (with_reducible exact option_Encode.mono _ _)
      | (with_reducible exact LeO.refl _)
      | (with_reducible exact LeO.none _)
      | (with_reducible refine LeO.ite ?_ ?_)
      | (with_reducible refine LeO.bind ?_ (fun _ => ?_))
      | exact ih0 _ _ _ _ _ _ _ _ _ _ _ _
      | exact option_Encode.mono _ _
      | exact LeO.none _
      | refine LeO.ite ?_ ?_
      | refine LeO.bind ?_ (fun _ => ?_)
set_option maxHeartbeats 8000000 in
set_option maxRecDepth 100000 in
theorem packet_Right.calls (k : Nat) (a0_0 : Int) (a0_1 : Int) (a0_2 : Int) (a0_3 : Int) (a0_4 : Int) (a0_5 : Int) (a0_6 : Int) (a0_7 : Int) (A0_8 : Option Addr) (c0_8 : Nat) (l0_8 : List Int) (A0_9 : Option Addr) (c0_9 : Nat) (l0_9 : List (S42)) (r : Bool) (w : World) (hr0_8 : Kd.C (Kd.int .u8) w A0_8 l0_8.length l0_8) (hc0_8 : l0_8.length ≤ c0_8) (hr0_9 : Kd.C k42 w A0_9 l0_9.length l0_9) (hc0_9 : l0_9.length ≤ c0_9) (h : packet_Right.f k a0_0 a0_1 a0_2 a0_3 a0_4 a0_5 a0_6 a0_7 l0_8 l0_9 = some r) :
    Calls Try.prog 10 #[.agg #[.int .i64 a0_0, .int .u32 a0_1, .int .i64 a0_2, .int .i64 a0_3, .int .u32 a0_4, .int .u32 a0_5, .int .u32 a0_6, .int .u32 a0_7, .slice A0_8 l0_8.length c0_8, .slice A0_9 l0_9.length c0_9]] w fun e w' => e = .returned (.bool r) ∧ Below w.heap.size w w' := by
  have hu27 := Try.underlying27
  have HR0_8 := Aside0.mk hr0_8
  have HC0_8 := Aside0.mk hc0_8
  clear hr0_8 hc0_8
  have HR0_9 := Aside0.mk hr0_9
  have HC0_9 := Aside0.mk hc0_9
  clear hr0_9 hc0_9
  have HB := Aside0.mk (Below.refl w.heap.size w)
  have H : ((option_Encode.f k l0_9).bind fun bt239 => (if a0_0 = 1 then (packet_Right.j0 k bt239.2 false a0_0 a0_1 a0_2 a0_3 a0_4 a0_5 a0_6 a0_7 l0_8 l0_9) else (packet_Right.j0 k bt239.2 (a0_0 != 2) a0_0 a0_1 a0_2 a0_3 a0_4 a0_5 a0_6 a0_7 l0_8 l0_9))) = some r := h
  clear h
  replace H := Option.bind_eq_some_iff.mp H
  obtain ⟨⟨t239, t240⟩, A20, H⟩ := H
  replace H : (if a0_0 = 1 then (packet_Right.j0 k t240 false a0_0 a0_1 a0_2 a0_3 a0_4 a0_5 a0_6 a0_7 l0_8 l0_9) else (packet_Right.j0 k t240 (a0_0 != 2) a0_0 a0_1 a0_2 a0_3 a0_4 a0_5 a0_6 a0_7 l0_8 l0_9)) = some r := H
  have A2 := Aside0.mk A20
  clear A20
  have HC3 := Aside0.mk H
  clear H
  go_enter Try.func10, Try.ntmps10
  go_upto_region 2 with (first | ((with_reducible refine gate_dst (N := 1) rfl ?_); (try (refine gate_guard (by rfl) ?_; dsimp only)); refine box_event ?hg_1 (N := 1) ?hd_1 (cs := #[.int .i64 a0_0, .int .u32 a0_1, .int .i64 a0_2, .int .i64 a0_3, .int .u32 a0_4, .int .u32 a0_5, .int .u32 a0_6, .int .u32 a0_7, .slice A0_8 l0_8.length c0_8, .slice A0_9 l0_9.length c0_9]) (t := 27) ?hr_1 ?_; (case hd_1 => rfl); (case hg_1 => rfl); (case hr_1 => first | (go_simp; done) | (go_simp; rfl)); intro gb238 hg w4 hbox hb; have n0_ := Aside0.mk (below_step (by repeat (first | (with_reducible first | exact HB.out | apply below_alloc | apply pw_below_drewN | apply below_drew1) | exact HB.out)) hb); have n1_ := Aside0.mk (hbox); have n2_ := Aside0.mk ((by rw [hg]; exact (below_size (by repeat (first | (with_reducible first | exact HB.out | apply below_alloc | apply pw_below_drewN | apply below_drew1) | exact HB.out))) : w.heap.size ≤ gb238)); have n3_ := Aside0.mk ((by rw [hg]; exact (below_size (by repeat (first | (with_reducible first | exact HB.out | apply below_alloc | apply pw_below_drewN | apply below_drew1) | exact HB.out))) : w.heap.size ≤ gb238)); clear HB; have HB := n0_; have BK238 := n1_; have GW238 := n2_; have GE238 := n3_; clear n0_ n1_ n2_ n3_; clear hb hbox hg; have hcz5_0 : w4.cell? ⟨gb238, 0, none⟩ = some (.int .i64 a0_0) := (blk_cell BK238.out 0).trans rfl; have hcz5_1 : w4.cell? ⟨gb238, 1, none⟩ = some (.int .u32 a0_1) := (blk_cell BK238.out 1).trans rfl; have hcz5_2 : w4.cell? ⟨gb238, 2, none⟩ = some (.int .i64 a0_2) := (blk_cell BK238.out 2).trans rfl; have hcz5_3 : w4.cell? ⟨gb238, 3, none⟩ = some (.int .i64 a0_3) := (blk_cell BK238.out 3).trans rfl; have hcz5_4 : w4.cell? ⟨gb238, 4, none⟩ = some (.int .u32 a0_4) := (blk_cell BK238.out 4).trans rfl; have hcz5_5 : w4.cell? ⟨gb238, 5, none⟩ = some (.int .u32 a0_5) := (blk_cell BK238.out 5).trans rfl; have hcz5_6 : w4.cell? ⟨gb238, 6, none⟩ = some (.int .u32 a0_6) := (blk_cell BK238.out 6).trans rfl; have hcz5_7 : w4.cell? ⟨gb238, 7, none⟩ = some (.int .u32 a0_7) := (blk_cell BK238.out 7).trans rfl; have hcz5_8 : w4.cell? ⟨gb238, 8, none⟩ = some (.slice A0_8 l0_8.length c0_8) := (blk_cell BK238.out 8).trans rfl; have hcz5_9 : w4.cell? ⟨gb238, 9, none⟩ = some (.slice A0_9 l0_9.length c0_9) := (blk_cell BK238.out 9).trans rfl; have hfz5_0 := blk_frozen BK238.out 0; have hfz5_1 := blk_frozen BK238.out 1; have hfz5_2 := blk_frozen BK238.out 2; have hfz5_3 := blk_frozen BK238.out 3; have hfz5_4 := blk_frozen BK238.out 4; have hfz5_5 := blk_frozen BK238.out 5; have hfz5_6 := blk_frozen BK238.out 6; have hfz5_7 := blk_frozen BK238.out 7; have hfz5_8 := blk_frozen BK238.out 8; have hfz5_9 := blk_frozen BK238.out 9) | ((with_reducible refine gate_callee (f := 23) rfl ?_); refine goesL_ (some 8) rfl rfl Try.func23 (by kernel_rfl) rfl #[.slice A0_9 l0_9.length c0_9] rfl (by (try simp only [List.map_toArray, List.map_cons, List.map_nil]); first | done | rfl | (simp only [List.length_drop, List.length_take]; rfl)) ?_; (with_reducible refine (option_Encode.calls k _ _ l0_9 t239 t240 _ ?side1_2 ?side2_2 A2.out).mono ?_); (case side1_2 => repeat (first | exact (Kd.C_below HR0_9.out HB.out) | exact (Kd.C_below (Aside0.out (by assumption)) HB.out) | (with_reducible refine Kd.C_alloc ?_ _) | (with_reducible refine Kd.C_drewN ?_ _) | (with_reducible refine Kd.C_drew ?_))); (case side2_2 => exact HC0_9.out); rintro e w6 ⟨v241, rfl, ho0, hb⟩; refine ⟨_, rfl, ?_⟩; have n0_ := Aside0.mk (Kd.R_lower ho0 (below_size (by repeat (first | (with_reducible first | exact HB.out | apply below_alloc | apply pw_below_drewN | apply below_drew1 | refine below_set ?_ GE238.out) | exact HB.out)))); have n1_ := Aside0.mk (blk_below (g := gb238) (o := .cells #[.int .i64 a0_0, .int .u32 a0_1, .int .i64 a0_2, .int .i64 a0_3, .int .u32 a0_4, .int .u32 a0_5, .int .u32 a0_6, .int .u32 a0_7, .slice A0_8 l0_8.length c0_8, .slice A0_9 l0_9.length c0_9] 27 (0, 0)) (by (with_reducible repeat (first | refine blk_drewN ?_ _ | refine blk_drew ?_ | refine blk_alloc ?_ _)); exact BK238.out) hb); have n2_ := Aside0.mk (below_step (by repeat (first | (with_reducible first | exact HB.out | apply below_alloc | apply pw_below_drewN | apply below_drew1 | refine below_set ?_ GE238.out) | exact HB.out)) hb); clear BK238; clear HB; have HO242 := n0_; have BK238 := n1_; have HB := n2_; clear n0_ n1_ n2_; (try clear hb); (try clear hb2); (try clear hk); (try clear hi); (try clear ho0)))
  (try simp only [Act.put, List.setIfInBounds_toArray, List.set_cons_zero, List.set_cons_succ])
  go_cut [11] (fun v11 wc => ∃ (kq : Nat) (x11_2 : Bool), v11 = .bool x11_2 ∧ Aside0 (packet_Right.j0 kq t240 x11_2 a0_0 a0_1 a0_2 a0_3 a0_4 a0_5 a0_6 a0_7 l0_8 l0_9 = some r) ∧ Aside0 (kq ≤ k) ∧ Aside0 (wc.heap[gb238]? = some (.cells #[.int .i64 a0_0, .int .u32 a0_1, .int .i64 a0_2, .int .i64 a0_3, .int .u32 a0_4, .int .u32 a0_5, .int .u32 a0_6, .int .u32 a0_7, (.slice A0_8 l0_8.length c0_8), (.slice A0_9 l0_9.length c0_9)] 27 (0, 0))) ∧ Aside0 (Below w.heap.size w wc))
  case first =>
    have H := HC3.out
    clear HC3
    by_cases c7 : a0_0 = 1
    · rw [if_pos c7] at H
      have c7b0 : (a0_0 == 1) = true := beq_iff_eq.mpr c7
      have c7b1 : (a0_0 != 1) = false := bne_eq_false_iff_eq.mpr c7
      clear c7
      (first | rw [c7b0] | (simp only [i64_w, i32_w]; rw [c7b0]) | skip)
      have H' := Aside0.mk H
      clear H
      have hcz8_0 : w6.cell? ⟨gb238, 0, none⟩ = some (.int .i64 a0_0) := (blk_cell BK238.out 0).trans rfl
      have hcz8_1 : w6.cell? ⟨gb238, 1, none⟩ = some (.int .u32 a0_1) := (blk_cell BK238.out 1).trans rfl
      have hcz8_2 : w6.cell? ⟨gb238, 2, none⟩ = some (.int .i64 a0_2) := (blk_cell BK238.out 2).trans rfl
      have hcz8_3 : w6.cell? ⟨gb238, 3, none⟩ = some (.int .i64 a0_3) := (blk_cell BK238.out 3).trans rfl
      have hcz8_4 : w6.cell? ⟨gb238, 4, none⟩ = some (.int .u32 a0_4) := (blk_cell BK238.out 4).trans rfl
      have hcz8_5 : w6.cell? ⟨gb238, 5, none⟩ = some (.int .u32 a0_5) := (blk_cell BK238.out 5).trans rfl
      have hcz8_6 : w6.cell? ⟨gb238, 6, none⟩ = some (.int .u32 a0_6) := (blk_cell BK238.out 6).trans rfl
      have hcz8_7 : w6.cell? ⟨gb238, 7, none⟩ = some (.int .u32 a0_7) := (blk_cell BK238.out 7).trans rfl
      have hcz8_8 : w6.cell? ⟨gb238, 8, none⟩ = some (.slice A0_8 l0_8.length c0_8) := (blk_cell BK238.out 8).trans rfl
      have hcz8_9 : w6.cell? ⟨gb238, 9, none⟩ = some (.slice A0_9 l0_9.length c0_9) := (blk_cell BK238.out 9).trans rfl
      have hfz8_0 := blk_frozen BK238.out 0
      have hfz8_1 := blk_frozen BK238.out 1
      have hfz8_2 := blk_frozen BK238.out 2
      have hfz8_3 := blk_frozen BK238.out 3
      have hfz8_4 := blk_frozen BK238.out 4
      have hfz8_5 := blk_frozen BK238.out 5
      have hfz8_6 := blk_frozen BK238.out 6
      have hfz8_7 := blk_frozen BK238.out 7
      have hfz8_8 := blk_frozen BK238.out 8
      have hfz8_9 := blk_frozen BK238.out 9
      go_wp2
      go_meet
      case rel => exact ⟨_, (false), (by first | rfl | (simp; done) | (simp [*]; done)), H', ⟨by first | omega | exact Nat.le_refl _⟩, ⟨by (with_reducible repeat (first | refine blk_drewN ?_ _ | refine blk_drew ?_ | refine blk_alloc ?_ _)); exact BK238.out⟩, ⟨by repeat (first | (with_reducible first | exact HB.out | apply below_alloc | apply pw_below_drewN | apply below_drew1 | refine below_set ?_ GE238.out) | exact HB.out)⟩⟩
    · rw [if_neg c7] at H
      have c7b0 : (a0_0 == 1) = false := beq_eq_false_iff_ne.mpr c7
      have c7b1 : (a0_0 != 1) = true := bne_iff_ne.mpr c7
      (first | rw [c7b0] | (simp only [i64_w, i32_w]; rw [c7b0]) | skip)
      have H' := Aside0.mk H
      clear H
      have hcz9_0 : w6.cell? ⟨gb238, 0, none⟩ = some (.int .i64 a0_0) := (blk_cell BK238.out 0).trans rfl
      have hcz9_1 : w6.cell? ⟨gb238, 1, none⟩ = some (.int .u32 a0_1) := (blk_cell BK238.out 1).trans rfl
      have hcz9_2 : w6.cell? ⟨gb238, 2, none⟩ = some (.int .i64 a0_2) := (blk_cell BK238.out 2).trans rfl
      have hcz9_3 : w6.cell? ⟨gb238, 3, none⟩ = some (.int .i64 a0_3) := (blk_cell BK238.out 3).trans rfl
      have hcz9_4 : w6.cell? ⟨gb238, 4, none⟩ = some (.int .u32 a0_4) := (blk_cell BK238.out 4).trans rfl
      have hcz9_5 : w6.cell? ⟨gb238, 5, none⟩ = some (.int .u32 a0_5) := (blk_cell BK238.out 5).trans rfl
      have hcz9_6 : w6.cell? ⟨gb238, 6, none⟩ = some (.int .u32 a0_6) := (blk_cell BK238.out 6).trans rfl
      have hcz9_7 : w6.cell? ⟨gb238, 7, none⟩ = some (.int .u32 a0_7) := (blk_cell BK238.out 7).trans rfl
      have hcz9_8 : w6.cell? ⟨gb238, 8, none⟩ = some (.slice A0_8 l0_8.length c0_8) := (blk_cell BK238.out 8).trans rfl
      have hcz9_9 : w6.cell? ⟨gb238, 9, none⟩ = some (.slice A0_9 l0_9.length c0_9) := (blk_cell BK238.out 9).trans rfl
      have hfz9_0 := blk_frozen BK238.out 0
      have hfz9_1 := blk_frozen BK238.out 1
      have hfz9_2 := blk_frozen BK238.out 2
      have hfz9_3 := blk_frozen BK238.out 3
      have hfz9_4 := blk_frozen BK238.out 4
      have hfz9_5 := blk_frozen BK238.out 5
      have hfz9_6 := blk_frozen BK238.out 6
      have hfz9_7 := blk_frozen BK238.out 7
      have hfz9_8 := blk_frozen BK238.out 8
      have hfz9_9 := blk_frozen BK238.out 9
      go_wp2
      go_meet
      case rel => exact ⟨_, ((a0_0 != 2)), (by first | rfl | (simp; done) | (simp [*]; done)), H', ⟨by first | omega | exact Nat.le_refl _⟩, ⟨by (with_reducible repeat (first | refine blk_drewN ?_ _ | refine blk_drew ?_ | refine blk_alloc ?_ _)); exact BK238.out⟩, ⟨by repeat (first | (with_reducible first | exact HB.out | apply below_alloc | apply pw_below_drewN | apply below_drew1 | refine below_set ?_ GE238.out) | exact HB.out)⟩⟩
  case rest =>
    clear HC3
    try clear c1
    try clear c2
    try clear p2
    try clear c7
    try clear c7b0
    try clear c7b1
    try clear hcz5_0
    try clear hcz5_1
    try clear hcz5_2
    try clear hcz5_3
    try clear hcz5_4
    try clear hcz5_5
    try clear hcz5_6
    try clear hcz5_7
    try clear hcz5_8
    try clear hcz5_9
    try clear hcz8_0
    try clear hcz8_1
    try clear hcz8_2
    try clear hcz8_3
    try clear hcz8_4
    try clear hcz8_5
    try clear hcz8_6
    try clear hcz8_7
    try clear hcz8_8
    try clear hcz8_9
    try clear hcz9_0
    try clear hcz9_1
    try clear hcz9_2
    try clear hcz9_3
    try clear hcz9_4
    try clear hcz9_5
    try clear hcz9_6
    try clear hcz9_7
    try clear hcz9_8
    try clear hcz9_9
    try clear hfz5_0
    try clear hfz5_1
    try clear hfz5_2
    try clear hfz5_3
    try clear hfz5_4
    try clear hfz5_5
    try clear hfz5_6
    try clear hfz5_7
    try clear hfz5_8
    try clear hfz5_9
    try clear hfz8_0
    try clear hfz8_1
    try clear hfz8_2
    try clear hfz8_3
    try clear hfz8_4
    try clear hfz8_5
    try clear hfz8_6
    try clear hfz8_7
    try clear hfz8_8
    try clear hfz8_9
    try clear hfz9_0
    try clear hfz9_1
    try clear hfz9_2
    try clear hfz9_3
    try clear hfz9_4
    try clear hfz9_5
    try clear hfz9_6
    try clear hfz9_7
    try clear hfz9_8
    try clear hfz9_9
    obtain ⟨kq, x11_2, rfl, HA, HJ2, BK238, HB⟩ := hcut
    cases kq with
    | zero => exact absurd HA.out (by simp [packet_Right.j0])
    | succ kj2 =>
      have H := HA.out
      clear HA
      simp only [packet_Right.j0] at H
      by_cases c10 : x11_2 = true
      · subst c10
        have H1 : (some false) = some r := by rw [if_pos rfl] at H; exact H
        clear H
        have H := H1
        clear H1
        obtain rfl := Option.some.inj H
        go_wp2
        go_ret
        exact ⟨by first | rfl | (simp [errW_none, errW_some] <;> rfl) | (simp [*, errW_none, errW_some] <;> rfl), by repeat (first | (with_reducible first | exact HB.out | apply below_alloc | apply pw_below_drewN | apply below_drew1 | refine below_set ?_ GE238.out) | exact HB.out)⟩
      · replace c10 := Bool.eq_false_iff.mpr c10
        subst c10
        have H1 : (if (l0_8.length : Int) < 1 then (some false) else (if (l0_8.length : Int) > 16 then (some false) else (if a0_2 ≥ 0 then (if a0_2 ≤ 65535 then (if a0_3 ≥ 0 then (if a0_3 ≤ 65535 then (some (t240 == 0)) else (some false)) else (some false)) else (some false)) else (some false)))) = some r := by rw [if_neg (show ¬ (false = true) by decide)] at H; exact H
        clear H
        have H := H1
        clear H1
        by_cases c11 : (l0_8.length : Int) < 1
        · rw [if_pos c11] at H
          have c11b0 : decide ((l0_8.length : Int) < 1) = true := decide_eq_true c11
          have c11b1 : decide (l0_8.length < 1) = true := decide_eq_true (by omega)
          clear c11
          obtain rfl := Option.some.inj H
          have hcz12_0 : wc.cell? ⟨gb238, 0, none⟩ = some (.int .i64 a0_0) := (blk_cell BK238.out 0).trans rfl
          have hcz12_1 : wc.cell? ⟨gb238, 1, none⟩ = some (.int .u32 a0_1) := (blk_cell BK238.out 1).trans rfl
          have hcz12_2 : wc.cell? ⟨gb238, 2, none⟩ = some (.int .i64 a0_2) := (blk_cell BK238.out 2).trans rfl
          have hcz12_3 : wc.cell? ⟨gb238, 3, none⟩ = some (.int .i64 a0_3) := (blk_cell BK238.out 3).trans rfl
          have hcz12_4 : wc.cell? ⟨gb238, 4, none⟩ = some (.int .u32 a0_4) := (blk_cell BK238.out 4).trans rfl
          have hcz12_5 : wc.cell? ⟨gb238, 5, none⟩ = some (.int .u32 a0_5) := (blk_cell BK238.out 5).trans rfl
          have hcz12_6 : wc.cell? ⟨gb238, 6, none⟩ = some (.int .u32 a0_6) := (blk_cell BK238.out 6).trans rfl
          have hcz12_7 : wc.cell? ⟨gb238, 7, none⟩ = some (.int .u32 a0_7) := (blk_cell BK238.out 7).trans rfl
          have hcz12_8 : wc.cell? ⟨gb238, 8, none⟩ = some (.slice A0_8 l0_8.length c0_8) := (blk_cell BK238.out 8).trans rfl
          have hcz12_9 : wc.cell? ⟨gb238, 9, none⟩ = some (.slice A0_9 l0_9.length c0_9) := (blk_cell BK238.out 9).trans rfl
          have hfz12_0 := blk_frozen BK238.out 0
          have hfz12_1 := blk_frozen BK238.out 1
          have hfz12_2 := blk_frozen BK238.out 2
          have hfz12_3 := blk_frozen BK238.out 3
          have hfz12_4 := blk_frozen BK238.out 4
          have hfz12_5 := blk_frozen BK238.out 5
          have hfz12_6 := blk_frozen BK238.out 6
          have hfz12_7 := blk_frozen BK238.out 7
          have hfz12_8 := blk_frozen BK238.out 8
          have hfz12_9 := blk_frozen BK238.out 9
          go_wp2
          go_ret
          exact ⟨by first | rfl | (simp [errW_none, errW_some] <;> rfl) | (simp [*, errW_none, errW_some] <;> rfl), by repeat (first | (with_reducible first | exact HB.out | apply below_alloc | apply pw_below_drewN | apply below_drew1 | refine below_set ?_ GE238.out) | exact HB.out)⟩
        · rw [if_neg c11] at H
          have c11b0 : decide ((l0_8.length : Int) < 1) = false := decide_eq_false c11
          have c11b1 : decide (l0_8.length < 1) = false := decide_eq_false (by omega)
          clear c11
          by_cases c13 : (l0_8.length : Int) > 16
          · rw [if_pos c13] at H
            have c13b0 : decide (16 < (l0_8.length : Int)) = true := decide_eq_true c13
            have c13b1 : decide (16 < l0_8.length) = true := decide_eq_true (by omega)
            clear c13
            obtain rfl := Option.some.inj H
            have hcz14_0 : wc.cell? ⟨gb238, 0, none⟩ = some (.int .i64 a0_0) := (blk_cell BK238.out 0).trans rfl
            have hcz14_1 : wc.cell? ⟨gb238, 1, none⟩ = some (.int .u32 a0_1) := (blk_cell BK238.out 1).trans rfl
            have hcz14_2 : wc.cell? ⟨gb238, 2, none⟩ = some (.int .i64 a0_2) := (blk_cell BK238.out 2).trans rfl
            have hcz14_3 : wc.cell? ⟨gb238, 3, none⟩ = some (.int .i64 a0_3) := (blk_cell BK238.out 3).trans rfl
            have hcz14_4 : wc.cell? ⟨gb238, 4, none⟩ = some (.int .u32 a0_4) := (blk_cell BK238.out 4).trans rfl
            have hcz14_5 : wc.cell? ⟨gb238, 5, none⟩ = some (.int .u32 a0_5) := (blk_cell BK238.out 5).trans rfl
            have hcz14_6 : wc.cell? ⟨gb238, 6, none⟩ = some (.int .u32 a0_6) := (blk_cell BK238.out 6).trans rfl
            have hcz14_7 : wc.cell? ⟨gb238, 7, none⟩ = some (.int .u32 a0_7) := (blk_cell BK238.out 7).trans rfl
            have hcz14_8 : wc.cell? ⟨gb238, 8, none⟩ = some (.slice A0_8 l0_8.length c0_8) := (blk_cell BK238.out 8).trans rfl
            have hcz14_9 : wc.cell? ⟨gb238, 9, none⟩ = some (.slice A0_9 l0_9.length c0_9) := (blk_cell BK238.out 9).trans rfl
            have hfz14_0 := blk_frozen BK238.out 0
            have hfz14_1 := blk_frozen BK238.out 1
            have hfz14_2 := blk_frozen BK238.out 2
            have hfz14_3 := blk_frozen BK238.out 3
            have hfz14_4 := blk_frozen BK238.out 4
            have hfz14_5 := blk_frozen BK238.out 5
            have hfz14_6 := blk_frozen BK238.out 6
            have hfz14_7 := blk_frozen BK238.out 7
            have hfz14_8 := blk_frozen BK238.out 8
            have hfz14_9 := blk_frozen BK238.out 9
            go_wp2
            go_ret
            exact ⟨by first | rfl | (simp [errW_none, errW_some] <;> rfl) | (simp [*, errW_none, errW_some] <;> rfl), by repeat (first | (with_reducible first | exact HB.out | apply below_alloc | apply pw_below_drewN | apply below_drew1 | refine below_set ?_ GE238.out) | exact HB.out)⟩
          · rw [if_neg c13] at H
            have c13b0 : decide (16 < (l0_8.length : Int)) = false := decide_eq_false c13
            have c13b1 : decide (16 < l0_8.length) = false := decide_eq_false (by omega)
            clear c13
            by_cases c15 : a0_2 ≥ 0
            · rw [if_pos c15] at H
              have c15b0 : decide (0 ≤ a0_2) = true := decide_eq_true c15
              clear c15
              by_cases c16 : a0_2 ≤ 65535
              · rw [if_pos c16] at H
                have c16b0 : decide (a0_2 ≤ 65535) = true := decide_eq_true c16
                clear c16
                by_cases c17 : a0_3 ≥ 0
                · rw [if_pos c17] at H
                  have c17b0 : decide (0 ≤ a0_3) = true := decide_eq_true c17
                  clear c17
                  by_cases c18 : a0_3 ≤ 65535
                  · rw [if_pos c18] at H
                    have c18b0 : decide (a0_3 ≤ 65535) = true := decide_eq_true c18
                    clear c18
                    obtain rfl := Option.some.inj H
                    have hcz19_0 : wc.cell? ⟨gb238, 0, none⟩ = some (.int .i64 a0_0) := (blk_cell BK238.out 0).trans rfl
                    have hcz19_1 : wc.cell? ⟨gb238, 1, none⟩ = some (.int .u32 a0_1) := (blk_cell BK238.out 1).trans rfl
                    have hcz19_2 : wc.cell? ⟨gb238, 2, none⟩ = some (.int .i64 a0_2) := (blk_cell BK238.out 2).trans rfl
                    have hcz19_3 : wc.cell? ⟨gb238, 3, none⟩ = some (.int .i64 a0_3) := (blk_cell BK238.out 3).trans rfl
                    have hcz19_4 : wc.cell? ⟨gb238, 4, none⟩ = some (.int .u32 a0_4) := (blk_cell BK238.out 4).trans rfl
                    have hcz19_5 : wc.cell? ⟨gb238, 5, none⟩ = some (.int .u32 a0_5) := (blk_cell BK238.out 5).trans rfl
                    have hcz19_6 : wc.cell? ⟨gb238, 6, none⟩ = some (.int .u32 a0_6) := (blk_cell BK238.out 6).trans rfl
                    have hcz19_7 : wc.cell? ⟨gb238, 7, none⟩ = some (.int .u32 a0_7) := (blk_cell BK238.out 7).trans rfl
                    have hcz19_8 : wc.cell? ⟨gb238, 8, none⟩ = some (.slice A0_8 l0_8.length c0_8) := (blk_cell BK238.out 8).trans rfl
                    have hcz19_9 : wc.cell? ⟨gb238, 9, none⟩ = some (.slice A0_9 l0_9.length c0_9) := (blk_cell BK238.out 9).trans rfl
                    have hfz19_0 := blk_frozen BK238.out 0
                    have hfz19_1 := blk_frozen BK238.out 1
                    have hfz19_2 := blk_frozen BK238.out 2
                    have hfz19_3 := blk_frozen BK238.out 3
                    have hfz19_4 := blk_frozen BK238.out 4
                    have hfz19_5 := blk_frozen BK238.out 5
                    have hfz19_6 := blk_frozen BK238.out 6
                    have hfz19_7 := blk_frozen BK238.out 7
                    have hfz19_8 := blk_frozen BK238.out 8
                    have hfz19_9 := blk_frozen BK238.out 9
                    go_wp2
                    go_ret
                    exact ⟨by first | rfl | (simp [errW_none, errW_some] <;> rfl) | (simp [*, errW_none, errW_some] <;> rfl), by repeat (first | (with_reducible first | exact HB.out | apply below_alloc | apply pw_below_drewN | apply below_drew1 | refine below_set ?_ GE238.out) | exact HB.out)⟩
                  · rw [if_neg c18] at H
                    have c18b0 : decide (a0_3 ≤ 65535) = false := decide_eq_false c18
                    clear c18
                    obtain rfl := Option.some.inj H
                    have hcz20_0 : wc.cell? ⟨gb238, 0, none⟩ = some (.int .i64 a0_0) := (blk_cell BK238.out 0).trans rfl
                    have hcz20_1 : wc.cell? ⟨gb238, 1, none⟩ = some (.int .u32 a0_1) := (blk_cell BK238.out 1).trans rfl
                    have hcz20_2 : wc.cell? ⟨gb238, 2, none⟩ = some (.int .i64 a0_2) := (blk_cell BK238.out 2).trans rfl
                    have hcz20_3 : wc.cell? ⟨gb238, 3, none⟩ = some (.int .i64 a0_3) := (blk_cell BK238.out 3).trans rfl
                    have hcz20_4 : wc.cell? ⟨gb238, 4, none⟩ = some (.int .u32 a0_4) := (blk_cell BK238.out 4).trans rfl
                    have hcz20_5 : wc.cell? ⟨gb238, 5, none⟩ = some (.int .u32 a0_5) := (blk_cell BK238.out 5).trans rfl
                    have hcz20_6 : wc.cell? ⟨gb238, 6, none⟩ = some (.int .u32 a0_6) := (blk_cell BK238.out 6).trans rfl
                    have hcz20_7 : wc.cell? ⟨gb238, 7, none⟩ = some (.int .u32 a0_7) := (blk_cell BK238.out 7).trans rfl
                    have hcz20_8 : wc.cell? ⟨gb238, 8, none⟩ = some (.slice A0_8 l0_8.length c0_8) := (blk_cell BK238.out 8).trans rfl
                    have hcz20_9 : wc.cell? ⟨gb238, 9, none⟩ = some (.slice A0_9 l0_9.length c0_9) := (blk_cell BK238.out 9).trans rfl
                    have hfz20_0 := blk_frozen BK238.out 0
                    have hfz20_1 := blk_frozen BK238.out 1
                    have hfz20_2 := blk_frozen BK238.out 2
                    have hfz20_3 := blk_frozen BK238.out 3
                    have hfz20_4 := blk_frozen BK238.out 4
                    have hfz20_5 := blk_frozen BK238.out 5
                    have hfz20_6 := blk_frozen BK238.out 6
                    have hfz20_7 := blk_frozen BK238.out 7
                    have hfz20_8 := blk_frozen BK238.out 8
                    have hfz20_9 := blk_frozen BK238.out 9
                    go_wp2
                    go_ret
                    exact ⟨by first | rfl | (simp [errW_none, errW_some] <;> rfl) | (simp [*, errW_none, errW_some] <;> rfl), by repeat (first | (with_reducible first | exact HB.out | apply below_alloc | apply pw_below_drewN | apply below_drew1 | refine below_set ?_ GE238.out) | exact HB.out)⟩
                · rw [if_neg c17] at H
                  have c17b0 : decide (0 ≤ a0_3) = false := decide_eq_false c17
                  clear c17
                  obtain rfl := Option.some.inj H
                  have hcz21_0 : wc.cell? ⟨gb238, 0, none⟩ = some (.int .i64 a0_0) := (blk_cell BK238.out 0).trans rfl
                  have hcz21_1 : wc.cell? ⟨gb238, 1, none⟩ = some (.int .u32 a0_1) := (blk_cell BK238.out 1).trans rfl
                  have hcz21_2 : wc.cell? ⟨gb238, 2, none⟩ = some (.int .i64 a0_2) := (blk_cell BK238.out 2).trans rfl
                  have hcz21_3 : wc.cell? ⟨gb238, 3, none⟩ = some (.int .i64 a0_3) := (blk_cell BK238.out 3).trans rfl
                  have hcz21_4 : wc.cell? ⟨gb238, 4, none⟩ = some (.int .u32 a0_4) := (blk_cell BK238.out 4).trans rfl
                  have hcz21_5 : wc.cell? ⟨gb238, 5, none⟩ = some (.int .u32 a0_5) := (blk_cell BK238.out 5).trans rfl
                  have hcz21_6 : wc.cell? ⟨gb238, 6, none⟩ = some (.int .u32 a0_6) := (blk_cell BK238.out 6).trans rfl
                  have hcz21_7 : wc.cell? ⟨gb238, 7, none⟩ = some (.int .u32 a0_7) := (blk_cell BK238.out 7).trans rfl
                  have hcz21_8 : wc.cell? ⟨gb238, 8, none⟩ = some (.slice A0_8 l0_8.length c0_8) := (blk_cell BK238.out 8).trans rfl
                  have hcz21_9 : wc.cell? ⟨gb238, 9, none⟩ = some (.slice A0_9 l0_9.length c0_9) := (blk_cell BK238.out 9).trans rfl
                  have hfz21_0 := blk_frozen BK238.out 0
                  have hfz21_1 := blk_frozen BK238.out 1
                  have hfz21_2 := blk_frozen BK238.out 2
                  have hfz21_3 := blk_frozen BK238.out 3
                  have hfz21_4 := blk_frozen BK238.out 4
                  have hfz21_5 := blk_frozen BK238.out 5
                  have hfz21_6 := blk_frozen BK238.out 6
                  have hfz21_7 := blk_frozen BK238.out 7
                  have hfz21_8 := blk_frozen BK238.out 8
                  have hfz21_9 := blk_frozen BK238.out 9
                  go_wp2
                  go_ret
                  exact ⟨by first | rfl | (simp [errW_none, errW_some] <;> rfl) | (simp [*, errW_none, errW_some] <;> rfl), by repeat (first | (with_reducible first | exact HB.out | apply below_alloc | apply pw_below_drewN | apply below_drew1 | refine below_set ?_ GE238.out) | exact HB.out)⟩
              · rw [if_neg c16] at H
                have c16b0 : decide (a0_2 ≤ 65535) = false := decide_eq_false c16
                clear c16
                obtain rfl := Option.some.inj H
                have hcz22_0 : wc.cell? ⟨gb238, 0, none⟩ = some (.int .i64 a0_0) := (blk_cell BK238.out 0).trans rfl
                have hcz22_1 : wc.cell? ⟨gb238, 1, none⟩ = some (.int .u32 a0_1) := (blk_cell BK238.out 1).trans rfl
                have hcz22_2 : wc.cell? ⟨gb238, 2, none⟩ = some (.int .i64 a0_2) := (blk_cell BK238.out 2).trans rfl
                have hcz22_3 : wc.cell? ⟨gb238, 3, none⟩ = some (.int .i64 a0_3) := (blk_cell BK238.out 3).trans rfl
                have hcz22_4 : wc.cell? ⟨gb238, 4, none⟩ = some (.int .u32 a0_4) := (blk_cell BK238.out 4).trans rfl
                have hcz22_5 : wc.cell? ⟨gb238, 5, none⟩ = some (.int .u32 a0_5) := (blk_cell BK238.out 5).trans rfl
                have hcz22_6 : wc.cell? ⟨gb238, 6, none⟩ = some (.int .u32 a0_6) := (blk_cell BK238.out 6).trans rfl
                have hcz22_7 : wc.cell? ⟨gb238, 7, none⟩ = some (.int .u32 a0_7) := (blk_cell BK238.out 7).trans rfl
                have hcz22_8 : wc.cell? ⟨gb238, 8, none⟩ = some (.slice A0_8 l0_8.length c0_8) := (blk_cell BK238.out 8).trans rfl
                have hcz22_9 : wc.cell? ⟨gb238, 9, none⟩ = some (.slice A0_9 l0_9.length c0_9) := (blk_cell BK238.out 9).trans rfl
                have hfz22_0 := blk_frozen BK238.out 0
                have hfz22_1 := blk_frozen BK238.out 1
                have hfz22_2 := blk_frozen BK238.out 2
                have hfz22_3 := blk_frozen BK238.out 3
                have hfz22_4 := blk_frozen BK238.out 4
                have hfz22_5 := blk_frozen BK238.out 5
                have hfz22_6 := blk_frozen BK238.out 6
                have hfz22_7 := blk_frozen BK238.out 7
                have hfz22_8 := blk_frozen BK238.out 8
                have hfz22_9 := blk_frozen BK238.out 9
                go_wp2
                go_ret
                exact ⟨by first | rfl | (simp [errW_none, errW_some] <;> rfl) | (simp [*, errW_none, errW_some] <;> rfl), by repeat (first | (with_reducible first | exact HB.out | apply below_alloc | apply pw_below_drewN | apply below_drew1 | refine below_set ?_ GE238.out) | exact HB.out)⟩
            · rw [if_neg c15] at H
              have c15b0 : decide (0 ≤ a0_2) = false := decide_eq_false c15
              clear c15
              obtain rfl := Option.some.inj H
              have hcz23_0 : wc.cell? ⟨gb238, 0, none⟩ = some (.int .i64 a0_0) := (blk_cell BK238.out 0).trans rfl
              have hcz23_1 : wc.cell? ⟨gb238, 1, none⟩ = some (.int .u32 a0_1) := (blk_cell BK238.out 1).trans rfl
              have hcz23_2 : wc.cell? ⟨gb238, 2, none⟩ = some (.int .i64 a0_2) := (blk_cell BK238.out 2).trans rfl
              have hcz23_3 : wc.cell? ⟨gb238, 3, none⟩ = some (.int .i64 a0_3) := (blk_cell BK238.out 3).trans rfl
              have hcz23_4 : wc.cell? ⟨gb238, 4, none⟩ = some (.int .u32 a0_4) := (blk_cell BK238.out 4).trans rfl
              have hcz23_5 : wc.cell? ⟨gb238, 5, none⟩ = some (.int .u32 a0_5) := (blk_cell BK238.out 5).trans rfl
              have hcz23_6 : wc.cell? ⟨gb238, 6, none⟩ = some (.int .u32 a0_6) := (blk_cell BK238.out 6).trans rfl
              have hcz23_7 : wc.cell? ⟨gb238, 7, none⟩ = some (.int .u32 a0_7) := (blk_cell BK238.out 7).trans rfl
              have hcz23_8 : wc.cell? ⟨gb238, 8, none⟩ = some (.slice A0_8 l0_8.length c0_8) := (blk_cell BK238.out 8).trans rfl
              have hcz23_9 : wc.cell? ⟨gb238, 9, none⟩ = some (.slice A0_9 l0_9.length c0_9) := (blk_cell BK238.out 9).trans rfl
              have hfz23_0 := blk_frozen BK238.out 0
              have hfz23_1 := blk_frozen BK238.out 1
              have hfz23_2 := blk_frozen BK238.out 2
              have hfz23_3 := blk_frozen BK238.out 3
              have hfz23_4 := blk_frozen BK238.out 4
              have hfz23_5 := blk_frozen BK238.out 5
              have hfz23_6 := blk_frozen BK238.out 6
              have hfz23_7 := blk_frozen BK238.out 7
              have hfz23_8 := blk_frozen BK238.out 8
              have hfz23_9 := blk_frozen BK238.out 9
              go_wp2
              go_ret
              exact ⟨by first | rfl | (simp [errW_none, errW_some] <;> rfl) | (simp [*, errW_none, errW_some] <;> rfl), by repeat (first | (with_reducible first | exact HB.out | apply below_alloc | apply pw_below_drewN | apply below_drew1 | refine below_set ?_ GE238.out) | exact HB.out)⟩

end Go.Proofs.Ytmbfdmceameghaa.Pr
