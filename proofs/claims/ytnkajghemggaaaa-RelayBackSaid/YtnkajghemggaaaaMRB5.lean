/-
  Printed: PrF28.
  Options as bytes, over lists: what option.Encode and the reference's Encode compute of few options.
  Packets as bytes, over lists: what packet.Right and the reference's compute of few options.
  relay.take and the closure that relay.read defers (recover): what each does. No condition.
  relay.read: the tags of data, by take, with its panic recovered. Condition: bytes, fewer than 2^40.
  relay.Decode in the print's form.
  Tags as bytes, over lists: what relay.Encode, relay.Decode and the reference's compute. No condition of their own.
  What a put makes of options, over lists: what was put is found, just once, and all others are as they were.
  relay.Add in the print's form. Condition: few options, few tags.
-/
import Derived.Test.YtnkajghemggaaaaMRB1
import Derived.Test.YtnkajghemggaaaaMRB4
import Derived.Lib.Hide
import Derived.RangeFuncBox
import Derived.Defers
import Derived.Recover
import Derived.Test.YtnkajghemggaaaaMRB2
import Derived.Test.YtnkajghemggaaaaWNEv

section
-- written by a program of this session (wip/tools/gen.py) over the kit's print
namespace Go.Proofs.Ytnkajghemggaaaa.Pr
open Go.RowKit Go.Proofs.YtnkajghemggaaaaW.PrintWords Go.Proofs.YtnkajghemggaaaaW.PrintLast Go.Proofs.YtnkajghemggaaaaW.PrintMore
attribute [local go_sem] max2_int min2_int max_two min_two max_three min_three max_four min_four   -- for this text's walks alone
set_option linter.unusedVariables false
set_option linter.unusedSimpArgs false

/-! ### packet_Right: function 28 -/
def packet_Right.j0 : Nat → Int → Bool → Int → Int → Int → Int → Int → Int → Int → Int → List Int → List (S48) → Option (Bool)
  | 0, _, _, _, _, _, _, _, _, _, _, _, _ => none
  | k + 1, x4, x11, x368000, x368001, x368002, x368003, x368004, x368005, x368006, x368007, x368008, x368009 => if x11 = true then (some false) else (if (x368008.length : Int) < 1 then (some false) else (if (x368008.length : Int) > 16 then (some false) else (if x368002 ≥ 0 then (if x368002 ≤ 65535 then (if x368003 ≥ 0 then (if x368003 ≤ 65535 then (some (x4 == 0)) else (some false)) else (some false)) else (some false)) else (some false))))
def packet_Right.f (k : Nat) (a0_0 : Int) (a0_1 : Int) (a0_2 : Int) (a0_3 : Int) (a0_4 : Int) (a0_5 : Int) (a0_6 : Int) (a0_7 : Int) (l0_8 : List Int) (l0_9 : List (S48)) : Option (Bool) := (option_Encode.f k l0_9).bind fun bt368 => (if a0_0 = 1 then (packet_Right.j0 k bt368.2 false a0_0 a0_1 a0_2 a0_3 a0_4 a0_5 a0_6 a0_7 l0_8 l0_9) else (packet_Right.j0 k bt368.2 (a0_0 != 2) a0_0 a0_1 a0_2 a0_3 a0_4 a0_5 a0_6 a0_7 l0_8 l0_9))
theorem packet_Right.mono_l : ∀ k, (∀ y0 y1 y2 y3 y4 y5 y6 y7 y8 y9 y10 y11, LeO (packet_Right.j0 k y0 y1 y2 y3 y4 y5 y6 y7 y8 y9 y10 y11) (packet_Right.j0 (k + 1) y0 y1 y2 y3 y4 y5 y6 y7 y8 y9 y10 y11))
  | 0 => fun _ _ _ _ _ _ _ _ _ _ _ _ r h => by simp [packet_Right.j0] at h
  | k + 1 => by
    have ih0 := packet_Right.mono_l k
    · intro y0 y1 y2 y3 y4 y5 y6 y7 y8 y9 y10 y11
      unfold packet_Right.j0
      repeat' first
      | (with_reducible exact ih0 _ _ _ _ _ _ _ _ _ _ _ _)
      | (with_reducible exact option_Encode.mono _ _)
      | (with_reducible exact LeO.refl _)
      | (with_reducible exact LeO.none _)
      | (with_reducible refine LeO.ite ?_ ?_)
      | (with_reducible refine LeO.bind ?_ (fun _ => ?_))
      | exact ih0 _ _ _ _ _ _ _ _ _ _ _ _
      | exact option_Encode.mono _ _
      | exact LeO.none _
      | refine LeO.ite ?_ ?_
      | refine LeO.bind ?_ (fun _ => ?_)
theorem packet_Right.mono : ∀ a0 a1 a2 a3 a4 a5 a6 a7 a8 a9 k, LeO (packet_Right.f k a0 a1 a2 a3 a4 a5 a6 a7 a8 a9) (packet_Right.f (k + 1) a0 a1 a2 a3 a4 a5 a6 a7 a8 a9) := by
  intro a0 a1 a2 a3 a4 a5 a6 a7 a8 a9 k
  have ih0 := packet_Right.mono_l k
  unfold packet_Right.f
  repeat' first
      | (with_reducible exact ih0 _ _ _ _ _ _ _ _ _ _ _ _)
      | (with_reducible exact option_Encode.mono _ _)
      | (with_reducible exact LeO.refl _)
      | (with_reducible exact LeO.none _)
      | (with_reducible refine LeO.ite ?_ ?_)
      | (with_reducible refine LeO.bind ?_ (fun _ => ?_))
      | exact ih0 _ _ _ _ _ _ _ _ _ _ _ _
      | exact option_Encode.mono _ _
      | exact LeO.none _
      | refine LeO.ite ?_ ?_
      | refine LeO.bind ?_ (fun _ => ?_)
set_option maxHeartbeats 8000000 in
set_option maxRecDepth 100000 in
theorem packet_Right.calls (k : Nat) (a0_0 : Int) (a0_1 : Int) (a0_2 : Int) (a0_3 : Int) (a0_4 : Int) (a0_5 : Int) (a0_6 : Int) (a0_7 : Int) (A0_8 : Option Addr) (c0_8 : Nat) (l0_8 : List Int) (A0_9 : Option Addr) (c0_9 : Nat) (l0_9 : List (S48)) (r : Bool) (w : World) (hr0_8 : Kd.C (Kd.int .u8) w A0_8 l0_8.length l0_8) (hc0_8 : l0_8.length ≤ c0_8) (hr0_9 : Kd.C k48 w A0_9 l0_9.length l0_9) (hc0_9 : l0_9.length ≤ c0_9) (h : packet_Right.f k a0_0 a0_1 a0_2 a0_3 a0_4 a0_5 a0_6 a0_7 l0_8 l0_9 = some r) :
    Calls Try.prog 28 #[.agg #[.int .i64 a0_0, .int .u32 a0_1, .int .i64 a0_2, .int .i64 a0_3, .int .u32 a0_4, .int .u32 a0_5, .int .u32 a0_6, .int .u32 a0_7, .slice A0_8 l0_8.length c0_8, .slice A0_9 l0_9.length c0_9]] w fun e w' => e = .returned (.bool r) ∧ Below w.heap.size w w' := by
  have hu28 := Try.underlying28
  have HR0_8 := Aside0.mk hr0_8
  have HC0_8 := Aside0.mk hc0_8
  clear hr0_8 hc0_8
  have HR0_9 := Aside0.mk hr0_9
  have HC0_9 := Aside0.mk hc0_9
  clear hr0_9 hc0_9
  have HB := Aside0.mk (Below.refl w.heap.size w)
  have H : ((option_Encode.f k l0_9).bind fun bt368 => (if a0_0 = 1 then (packet_Right.j0 k bt368.2 false a0_0 a0_1 a0_2 a0_3 a0_4 a0_5 a0_6 a0_7 l0_8 l0_9) else (packet_Right.j0 k bt368.2 (a0_0 != 2) a0_0 a0_1 a0_2 a0_3 a0_4 a0_5 a0_6 a0_7 l0_8 l0_9))) = some r := h
  clear h
  replace H := Option.bind_eq_some_iff.mp H
  obtain ⟨⟨t368, t369⟩, A20, H⟩ := H
  replace H : (if a0_0 = 1 then (packet_Right.j0 k t369 false a0_0 a0_1 a0_2 a0_3 a0_4 a0_5 a0_6 a0_7 l0_8 l0_9) else (packet_Right.j0 k t369 (a0_0 != 2) a0_0 a0_1 a0_2 a0_3 a0_4 a0_5 a0_6 a0_7 l0_8 l0_9)) = some r := H
  have A2 := Aside0.mk A20
  clear A20
  have HC3 := Aside0.mk H
  clear H
  go_enter Try.func28, Try.ntmps28
  go_upto_region 2 with (first | ((with_reducible refine gate_dst (N := 1) rfl ?_); (try (refine gate_guard (by rfl) ?_; dsimp only)); refine box_event ?hg_1 (N := 1) ?hd_1 (cs := #[.int .i64 a0_0, .int .u32 a0_1, .int .i64 a0_2, .int .i64 a0_3, .int .u32 a0_4, .int .u32 a0_5, .int .u32 a0_6, .int .u32 a0_7, .slice A0_8 l0_8.length c0_8, .slice A0_9 l0_9.length c0_9]) (t := 28) ?hr_1 ?_; (case hd_1 => rfl); (case hg_1 => rfl); (case hr_1 => first | (go_simp; done) | (go_simp; rfl)); intro gb367 hg w4 hbox hb; have n0_ := Aside0.mk (below_step (by repeat (first | (with_reducible first | exact HB.out | apply below_alloc | apply pw_below_drewN | apply below_drew1) | exact HB.out)) hb); have n1_ := Aside0.mk (hbox); have n2_ := Aside0.mk ((by rw [hg]; exact (below_size (by repeat (first | (with_reducible first | exact HB.out | apply below_alloc | apply pw_below_drewN | apply below_drew1) | exact HB.out))) : w.heap.size ≤ gb367)); have n3_ := Aside0.mk ((by rw [hg]; exact (below_size (by repeat (first | (with_reducible first | exact HB.out | apply below_alloc | apply pw_below_drewN | apply below_drew1) | exact HB.out))) : w.heap.size ≤ gb367)); clear HB; have HB := n0_; have BK367 := n1_; have GW367 := n2_; have GE367 := n3_; clear n0_ n1_ n2_ n3_; clear hb hbox hg; have hcz5_0 : w4.cell? ⟨gb367, 0, none⟩ = some (.int .i64 a0_0) := (blk_cell BK367.out 0).trans rfl; have hcz5_1 : w4.cell? ⟨gb367, 1, none⟩ = some (.int .u32 a0_1) := (blk_cell BK367.out 1).trans rfl; have hcz5_2 : w4.cell? ⟨gb367, 2, none⟩ = some (.int .i64 a0_2) := (blk_cell BK367.out 2).trans rfl; have hcz5_3 : w4.cell? ⟨gb367, 3, none⟩ = some (.int .i64 a0_3) := (blk_cell BK367.out 3).trans rfl; have hcz5_4 : w4.cell? ⟨gb367, 4, none⟩ = some (.int .u32 a0_4) := (blk_cell BK367.out 4).trans rfl; have hcz5_5 : w4.cell? ⟨gb367, 5, none⟩ = some (.int .u32 a0_5) := (blk_cell BK367.out 5).trans rfl; have hcz5_6 : w4.cell? ⟨gb367, 6, none⟩ = some (.int .u32 a0_6) := (blk_cell BK367.out 6).trans rfl; have hcz5_7 : w4.cell? ⟨gb367, 7, none⟩ = some (.int .u32 a0_7) := (blk_cell BK367.out 7).trans rfl; have hcz5_8 : w4.cell? ⟨gb367, 8, none⟩ = some (.slice A0_8 l0_8.length c0_8) := (blk_cell BK367.out 8).trans rfl; have hcz5_9 : w4.cell? ⟨gb367, 9, none⟩ = some (.slice A0_9 l0_9.length c0_9) := (blk_cell BK367.out 9).trans rfl; have hfz5_0 := blk_frozen BK367.out 0; have hfz5_1 := blk_frozen BK367.out 1; have hfz5_2 := blk_frozen BK367.out 2; have hfz5_3 := blk_frozen BK367.out 3; have hfz5_4 := blk_frozen BK367.out 4; have hfz5_5 := blk_frozen BK367.out 5; have hfz5_6 := blk_frozen BK367.out 6; have hfz5_7 := blk_frozen BK367.out 7; have hfz5_8 := blk_frozen BK367.out 8; have hfz5_9 := blk_frozen BK367.out 9) | ((with_reducible refine gate_callee (f := 43) rfl ?_); refine goesL_ (some 8) rfl rfl Try.func43 (by kernel_rfl) rfl #[.slice A0_9 l0_9.length c0_9] rfl (by (try simp only [List.map_toArray, List.map_cons, List.map_nil]); first | done | rfl | (simp only [List.length_drop, List.length_take]; rfl)) ?_; (with_reducible refine (option_Encode.calls k _ _ l0_9 t368 t369 _ ?side1_2 ?side2_2 A2.out).mono ?_); (case side1_2 => repeat (first | exact (Kd.C_below HR0_9.out HB.out) | exact (Kd.C_below (Aside0.out (by assumption)) HB.out) | (with_reducible refine Kd.C_alloc ?_ _) | (with_reducible refine Kd.C_drewN ?_ _) | (with_reducible refine Kd.C_drew ?_))); (case side2_2 => exact HC0_9.out); rintro e w6 ⟨v370, rfl, ho0, hb⟩; refine ⟨_, rfl, ?_⟩; have n0_ := Aside0.mk (Kd.R_lower ho0 (below_size (by repeat (first | (with_reducible first | exact HB.out | apply below_alloc | apply pw_below_drewN | apply below_drew1 | refine below_set ?_ GE367.out) | exact HB.out)))); have n1_ := Aside0.mk (blk_below (g := gb367) (o := .cells #[.int .i64 a0_0, .int .u32 a0_1, .int .i64 a0_2, .int .i64 a0_3, .int .u32 a0_4, .int .u32 a0_5, .int .u32 a0_6, .int .u32 a0_7, .slice A0_8 l0_8.length c0_8, .slice A0_9 l0_9.length c0_9] 28 (0, 0)) (by (with_reducible repeat (first | refine blk_drewN ?_ _ | refine blk_drew ?_ | refine blk_alloc ?_ _)); exact BK367.out) hb); have n2_ := Aside0.mk (below_step (by repeat (first | (with_reducible first | exact HB.out | apply below_alloc | apply pw_below_drewN | apply below_drew1 | refine below_set ?_ GE367.out) | exact HB.out)) hb); clear BK367; clear HB; have HO371 := n0_; have BK367 := n1_; have HB := n2_; clear n0_ n1_ n2_; (try clear hb); (try clear hb2); (try clear hk); (try clear hi); (try clear ho0)))
  (try simp only [Act.put, List.setIfInBounds_toArray, List.set_cons_zero, List.set_cons_succ])
  go_cut [11] (fun v11 wc => ∃ (kq : Nat) (x11_2 : Bool), v11 = .bool x11_2 ∧ Aside0 (packet_Right.j0 kq t369 x11_2 a0_0 a0_1 a0_2 a0_3 a0_4 a0_5 a0_6 a0_7 l0_8 l0_9 = some r) ∧ Aside0 (kq ≤ k) ∧ Aside0 (wc.heap[gb367]? = some (.cells #[.int .i64 a0_0, .int .u32 a0_1, .int .i64 a0_2, .int .i64 a0_3, .int .u32 a0_4, .int .u32 a0_5, .int .u32 a0_6, .int .u32 a0_7, (.slice A0_8 l0_8.length c0_8), (.slice A0_9 l0_9.length c0_9)] 28 (0, 0))) ∧ Aside0 (Below w.heap.size w wc))
  case first =>
    have H := HC3.out
    clear HC3
    by_cases c7 : a0_0 = 1
    · rw [if_pos c7] at H
      have c7b0 : (a0_0 == 1) = true := beq_iff_eq.mpr c7
      have c7b1 : (a0_0 != 1) = false := bne_eq_false_iff_eq.mpr c7
      clear c7
      (first | rw [c7b0] | (simp only [i64_w, i32_w]; rw [c7b0]) | skip)
      have H' := Aside0.mk H
      clear H
      have hcz8_0 : w6.cell? ⟨gb367, 0, none⟩ = some (.int .i64 a0_0) := (blk_cell BK367.out 0).trans rfl
      have hcz8_1 : w6.cell? ⟨gb367, 1, none⟩ = some (.int .u32 a0_1) := (blk_cell BK367.out 1).trans rfl
      have hcz8_2 : w6.cell? ⟨gb367, 2, none⟩ = some (.int .i64 a0_2) := (blk_cell BK367.out 2).trans rfl
      have hcz8_3 : w6.cell? ⟨gb367, 3, none⟩ = some (.int .i64 a0_3) := (blk_cell BK367.out 3).trans rfl
      have hcz8_4 : w6.cell? ⟨gb367, 4, none⟩ = some (.int .u32 a0_4) := (blk_cell BK367.out 4).trans rfl
      have hcz8_5 : w6.cell? ⟨gb367, 5, none⟩ = some (.int .u32 a0_5) := (blk_cell BK367.out 5).trans rfl
      have hcz8_6 : w6.cell? ⟨gb367, 6, none⟩ = some (.int .u32 a0_6) := (blk_cell BK367.out 6).trans rfl
      have hcz8_7 : w6.cell? ⟨gb367, 7, none⟩ = some (.int .u32 a0_7) := (blk_cell BK367.out 7).trans rfl
      have hcz8_8 : w6.cell? ⟨gb367, 8, none⟩ = some (.slice A0_8 l0_8.length c0_8) := (blk_cell BK367.out 8).trans rfl
      have hcz8_9 : w6.cell? ⟨gb367, 9, none⟩ = some (.slice A0_9 l0_9.length c0_9) := (blk_cell BK367.out 9).trans rfl
      have hfz8_0 := blk_frozen BK367.out 0
      have hfz8_1 := blk_frozen BK367.out 1
      have hfz8_2 := blk_frozen BK367.out 2
      have hfz8_3 := blk_frozen BK367.out 3
      have hfz8_4 := blk_frozen BK367.out 4
      have hfz8_5 := blk_frozen BK367.out 5
      have hfz8_6 := blk_frozen BK367.out 6
      have hfz8_7 := blk_frozen BK367.out 7
      have hfz8_8 := blk_frozen BK367.out 8
      have hfz8_9 := blk_frozen BK367.out 9
      go_wp2
      go_meet
      case rel => exact ⟨_, (false), (by first | rfl | (simp; done) | (simp [*]; done)), H', ⟨by first | omega | exact Nat.le_refl _⟩, ⟨by (with_reducible repeat (first | refine blk_drewN ?_ _ | refine blk_drew ?_ | refine blk_alloc ?_ _)); exact BK367.out⟩, ⟨by repeat (first | (with_reducible first | exact HB.out | apply below_alloc | apply pw_below_drewN | apply below_drew1 | refine below_set ?_ GE367.out) | exact HB.out)⟩⟩
    · rw [if_neg c7] at H
      have c7b0 : (a0_0 == 1) = false := beq_eq_false_iff_ne.mpr c7
      have c7b1 : (a0_0 != 1) = true := bne_iff_ne.mpr c7
      (first | rw [c7b0] | (simp only [i64_w, i32_w]; rw [c7b0]) | skip)
      have H' := Aside0.mk H
      clear H
      have hcz9_0 : w6.cell? ⟨gb367, 0, none⟩ = some (.int .i64 a0_0) := (blk_cell BK367.out 0).trans rfl
      have hcz9_1 : w6.cell? ⟨gb367, 1, none⟩ = some (.int .u32 a0_1) := (blk_cell BK367.out 1).trans rfl
      have hcz9_2 : w6.cell? ⟨gb367, 2, none⟩ = some (.int .i64 a0_2) := (blk_cell BK367.out 2).trans rfl
      have hcz9_3 : w6.cell? ⟨gb367, 3, none⟩ = some (.int .i64 a0_3) := (blk_cell BK367.out 3).trans rfl
      have hcz9_4 : w6.cell? ⟨gb367, 4, none⟩ = some (.int .u32 a0_4) := (blk_cell BK367.out 4).trans rfl
      have hcz9_5 : w6.cell? ⟨gb367, 5, none⟩ = some (.int .u32 a0_5) := (blk_cell BK367.out 5).trans rfl
      have hcz9_6 : w6.cell? ⟨gb367, 6, none⟩ = some (.int .u32 a0_6) := (blk_cell BK367.out 6).trans rfl
      have hcz9_7 : w6.cell? ⟨gb367, 7, none⟩ = some (.int .u32 a0_7) := (blk_cell BK367.out 7).trans rfl
      have hcz9_8 : w6.cell? ⟨gb367, 8, none⟩ = some (.slice A0_8 l0_8.length c0_8) := (blk_cell BK367.out 8).trans rfl
      have hcz9_9 : w6.cell? ⟨gb367, 9, none⟩ = some (.slice A0_9 l0_9.length c0_9) := (blk_cell BK367.out 9).trans rfl
      have hfz9_0 := blk_frozen BK367.out 0
      have hfz9_1 := blk_frozen BK367.out 1
      have hfz9_2 := blk_frozen BK367.out 2
      have hfz9_3 := blk_frozen BK367.out 3
      have hfz9_4 := blk_frozen BK367.out 4
      have hfz9_5 := blk_frozen BK367.out 5
      have hfz9_6 := blk_frozen BK367.out 6
      have hfz9_7 := blk_frozen BK367.out 7
      have hfz9_8 := blk_frozen BK367.out 8
      have hfz9_9 := blk_frozen BK367.out 9
      go_wp2
      go_meet
      case rel => exact ⟨_, ((a0_0 != 2)), (by first | rfl | (simp; done) | (simp [*]; done)), H', ⟨by first | omega | exact Nat.le_refl _⟩, ⟨by (with_reducible repeat (first | refine blk_drewN ?_ _ | refine blk_drew ?_ | refine blk_alloc ?_ _)); exact BK367.out⟩, ⟨by repeat (first | (with_reducible first | exact HB.out | apply below_alloc | apply pw_below_drewN | apply below_drew1 | refine below_set ?_ GE367.out) | exact HB.out)⟩⟩
  case rest =>
    clear HC3
    try clear c2
    try clear p2
    try clear c4
    try clear c7
    try clear c7b0
    try clear c7b1
    try clear hcz5_0
    try clear hcz5_1
    try clear hcz5_2
    try clear hcz5_3
    try clear hcz5_4
    try clear hcz5_5
    try clear hcz5_6
    try clear hcz5_7
    try clear hcz5_8
    try clear hcz5_9
    try clear hcz8_0
    try clear hcz8_1
    try clear hcz8_2
    try clear hcz8_3
    try clear hcz8_4
    try clear hcz8_5
    try clear hcz8_6
    try clear hcz8_7
    try clear hcz8_8
    try clear hcz8_9
    try clear hcz9_0
    try clear hcz9_1
    try clear hcz9_2
    try clear hcz9_3
    try clear hcz9_4
    try clear hcz9_5
    try clear hcz9_6
    try clear hcz9_7
    try clear hcz9_8
    try clear hcz9_9
    try clear hfz5_0
    try clear hfz5_1
    try clear hfz5_2
    try clear hfz5_3
    try clear hfz5_4
    try clear hfz5_5
    try clear hfz5_6
    try clear hfz5_7
    try clear hfz5_8
    try clear hfz5_9
    try clear hfz8_0
    try clear hfz8_1
    try clear hfz8_2
    try clear hfz8_3
    try clear hfz8_4
    try clear hfz8_5
    try clear hfz8_6
    try clear hfz8_7
    try clear hfz8_8
    try clear hfz8_9
    try clear hfz9_0
    try clear hfz9_1
    try clear hfz9_2
    try clear hfz9_3
    try clear hfz9_4
    try clear hfz9_5
    try clear hfz9_6
    try clear hfz9_7
    try clear hfz9_8
    try clear hfz9_9
    obtain ⟨kq, x11_2, rfl, HA, HJ2, BK367, HB⟩ := hcut
    cases kq with
    | zero => exact absurd HA.out (by simp [packet_Right.j0])
    | succ kj2 =>
      have H := HA.out
      clear HA
      simp only [packet_Right.j0] at H
      by_cases c10 : x11_2 = true
      · subst c10
        have H1 : (some false) = some r := by rw [if_pos rfl] at H; exact H
        clear H
        have H := H1
        clear H1
        obtain rfl := Option.some.inj H
        go_wp2
        go_ret
        exact ⟨by first | rfl | (simp [errW_none, errW_some] <;> rfl) | (simp [*, errW_none, errW_some] <;> rfl), by repeat (first | (with_reducible first | exact HB.out | apply below_alloc | apply pw_below_drewN | apply below_drew1 | refine below_set ?_ GE367.out) | exact HB.out)⟩
      · replace c10 := Bool.eq_false_iff.mpr c10
        subst c10
        have H1 : (if (l0_8.length : Int) < 1 then (some false) else (if (l0_8.length : Int) > 16 then (some false) else (if a0_2 ≥ 0 then (if a0_2 ≤ 65535 then (if a0_3 ≥ 0 then (if a0_3 ≤ 65535 then (some (t369 == 0)) else (some false)) else (some false)) else (some false)) else (some false)))) = some r := by rw [if_neg (show ¬ (false = true) by decide)] at H; exact H
        clear H
        have H := H1
        clear H1
        by_cases c11 : (l0_8.length : Int) < 1
        · rw [if_pos c11] at H
          have c11b0 : decide ((l0_8.length : Int) < 1) = true := decide_eq_true c11
          have c11b1 : decide (l0_8.length < 1) = true := decide_eq_true (by omega)
          clear c11
          obtain rfl := Option.some.inj H
          have hcz12_0 : wc.cell? ⟨gb367, 0, none⟩ = some (.int .i64 a0_0) := (blk_cell BK367.out 0).trans rfl
          have hcz12_1 : wc.cell? ⟨gb367, 1, none⟩ = some (.int .u32 a0_1) := (blk_cell BK367.out 1).trans rfl
          have hcz12_2 : wc.cell? ⟨gb367, 2, none⟩ = some (.int .i64 a0_2) := (blk_cell BK367.out 2).trans rfl
          have hcz12_3 : wc.cell? ⟨gb367, 3, none⟩ = some (.int .i64 a0_3) := (blk_cell BK367.out 3).trans rfl
          have hcz12_4 : wc.cell? ⟨gb367, 4, none⟩ = some (.int .u32 a0_4) := (blk_cell BK367.out 4).trans rfl
          have hcz12_5 : wc.cell? ⟨gb367, 5, none⟩ = some (.int .u32 a0_5) := (blk_cell BK367.out 5).trans rfl
          have hcz12_6 : wc.cell? ⟨gb367, 6, none⟩ = some (.int .u32 a0_6) := (blk_cell BK367.out 6).trans rfl
          have hcz12_7 : wc.cell? ⟨gb367, 7, none⟩ = some (.int .u32 a0_7) := (blk_cell BK367.out 7).trans rfl
          have hcz12_8 : wc.cell? ⟨gb367, 8, none⟩ = some (.slice A0_8 l0_8.length c0_8) := (blk_cell BK367.out 8).trans rfl
          have hcz12_9 : wc.cell? ⟨gb367, 9, none⟩ = some (.slice A0_9 l0_9.length c0_9) := (blk_cell BK367.out 9).trans rfl
          have hfz12_0 := blk_frozen BK367.out 0
          have hfz12_1 := blk_frozen BK367.out 1
          have hfz12_2 := blk_frozen BK367.out 2
          have hfz12_3 := blk_frozen BK367.out 3
          have hfz12_4 := blk_frozen BK367.out 4
          have hfz12_5 := blk_frozen BK367.out 5
          have hfz12_6 := blk_frozen BK367.out 6
          have hfz12_7 := blk_frozen BK367.out 7
          have hfz12_8 := blk_frozen BK367.out 8
          have hfz12_9 := blk_frozen BK367.out 9
          go_wp2
          go_ret
          exact ⟨by first | rfl | (simp [errW_none, errW_some] <;> rfl) | (simp [*, errW_none, errW_some] <;> rfl), by repeat (first | (with_reducible first | exact HB.out | apply below_alloc | apply pw_below_drewN | apply below_drew1 | refine below_set ?_ GE367.out) | exact HB.out)⟩
        · rw [if_neg c11] at H
          have c11b0 : decide ((l0_8.length : Int) < 1) = false := decide_eq_false c11
          have c11b1 : decide (l0_8.length < 1) = false := decide_eq_false (by omega)
          clear c11
          by_cases c13 : (l0_8.length : Int) > 16
          · rw [if_pos c13] at H
            have c13b0 : decide (16 < (l0_8.length : Int)) = true := decide_eq_true c13
            have c13b1 : decide (16 < l0_8.length) = true := decide_eq_true (by omega)
            clear c13
            obtain rfl := Option.some.inj H
            have hcz14_0 : wc.cell? ⟨gb367, 0, none⟩ = some (.int .i64 a0_0) := (blk_cell BK367.out 0).trans rfl
            have hcz14_1 : wc.cell? ⟨gb367, 1, none⟩ = some (.int .u32 a0_1) := (blk_cell BK367.out 1).trans rfl
            have hcz14_2 : wc.cell? ⟨gb367, 2, none⟩ = some (.int .i64 a0_2) := (blk_cell BK367.out 2).trans rfl
            have hcz14_3 : wc.cell? ⟨gb367, 3, none⟩ = some (.int .i64 a0_3) := (blk_cell BK367.out 3).trans rfl
            have hcz14_4 : wc.cell? ⟨gb367, 4, none⟩ = some (.int .u32 a0_4) := (blk_cell BK367.out 4).trans rfl
            have hcz14_5 : wc.cell? ⟨gb367, 5, none⟩ = some (.int .u32 a0_5) := (blk_cell BK367.out 5).trans rfl
            have hcz14_6 : wc.cell? ⟨gb367, 6, none⟩ = some (.int .u32 a0_6) := (blk_cell BK367.out 6).trans rfl
            have hcz14_7 : wc.cell? ⟨gb367, 7, none⟩ = some (.int .u32 a0_7) := (blk_cell BK367.out 7).trans rfl
            have hcz14_8 : wc.cell? ⟨gb367, 8, none⟩ = some (.slice A0_8 l0_8.length c0_8) := (blk_cell BK367.out 8).trans rfl
            have hcz14_9 : wc.cell? ⟨gb367, 9, none⟩ = some (.slice A0_9 l0_9.length c0_9) := (blk_cell BK367.out 9).trans rfl
            have hfz14_0 := blk_frozen BK367.out 0
            have hfz14_1 := blk_frozen BK367.out 1
            have hfz14_2 := blk_frozen BK367.out 2
            have hfz14_3 := blk_frozen BK367.out 3
            have hfz14_4 := blk_frozen BK367.out 4
            have hfz14_5 := blk_frozen BK367.out 5
            have hfz14_6 := blk_frozen BK367.out 6
            have hfz14_7 := blk_frozen BK367.out 7
            have hfz14_8 := blk_frozen BK367.out 8
            have hfz14_9 := blk_frozen BK367.out 9
            go_wp2
            go_ret
            exact ⟨by first | rfl | (simp [errW_none, errW_some] <;> rfl) | (simp [*, errW_none, errW_some] <;> rfl), by repeat (first | (with_reducible first | exact HB.out | apply below_alloc | apply pw_below_drewN | apply below_drew1 | refine below_set ?_ GE367.out) | exact HB.out)⟩
          · rw [if_neg c13] at H
            have c13b0 : decide (16 < (l0_8.length : Int)) = false := decide_eq_false c13
            have c13b1 : decide (16 < l0_8.length) = false := decide_eq_false (by omega)
            clear c13
            by_cases c15 : a0_2 ≥ 0
            · rw [if_pos c15] at H
              have c15b0 : decide (0 ≤ a0_2) = true := decide_eq_true c15
              clear c15
              by_cases c16 : a0_2 ≤ 65535
              · rw [if_pos c16] at H
                have c16b0 : decide (a0_2 ≤ 65535) = true := decide_eq_true c16
                clear c16
                by_cases c17 : a0_3 ≥ 0
                · rw [if_pos c17] at H
                  have c17b0 : decide (0 ≤ a0_3) = true := decide_eq_true c17
                  clear c17
                  by_cases c18 : a0_3 ≤ 65535
                  · rw [if_pos c18] at H
                    have c18b0 : decide (a0_3 ≤ 65535) = true := decide_eq_true c18
                    clear c18
                    obtain rfl := Option.some.inj H
                    have hcz19_0 : wc.cell? ⟨gb367, 0, none⟩ = some (.int .i64 a0_0) := (blk_cell BK367.out 0).trans rfl
                    have hcz19_1 : wc.cell? ⟨gb367, 1, none⟩ = some (.int .u32 a0_1) := (blk_cell BK367.out 1).trans rfl
                    have hcz19_2 : wc.cell? ⟨gb367, 2, none⟩ = some (.int .i64 a0_2) := (blk_cell BK367.out 2).trans rfl
                    have hcz19_3 : wc.cell? ⟨gb367, 3, none⟩ = some (.int .i64 a0_3) := (blk_cell BK367.out 3).trans rfl
                    have hcz19_4 : wc.cell? ⟨gb367, 4, none⟩ = some (.int .u32 a0_4) := (blk_cell BK367.out 4).trans rfl
                    have hcz19_5 : wc.cell? ⟨gb367, 5, none⟩ = some (.int .u32 a0_5) := (blk_cell BK367.out 5).trans rfl
                    have hcz19_6 : wc.cell? ⟨gb367, 6, none⟩ = some (.int .u32 a0_6) := (blk_cell BK367.out 6).trans rfl
                    have hcz19_7 : wc.cell? ⟨gb367, 7, none⟩ = some (.int .u32 a0_7) := (blk_cell BK367.out 7).trans rfl
                    have hcz19_8 : wc.cell? ⟨gb367, 8, none⟩ = some (.slice A0_8 l0_8.length c0_8) := (blk_cell BK367.out 8).trans rfl
                    have hcz19_9 : wc.cell? ⟨gb367, 9, none⟩ = some (.slice A0_9 l0_9.length c0_9) := (blk_cell BK367.out 9).trans rfl
                    have hfz19_0 := blk_frozen BK367.out 0
                    have hfz19_1 := blk_frozen BK367.out 1
                    have hfz19_2 := blk_frozen BK367.out 2
                    have hfz19_3 := blk_frozen BK367.out 3
                    have hfz19_4 := blk_frozen BK367.out 4
                    have hfz19_5 := blk_frozen BK367.out 5
                    have hfz19_6 := blk_frozen BK367.out 6
                    have hfz19_7 := blk_frozen BK367.out 7
                    have hfz19_8 := blk_frozen BK367.out 8
                    have hfz19_9 := blk_frozen BK367.out 9
                    go_wp2
                    go_ret
                    exact ⟨by first | rfl | (simp [errW_none, errW_some] <;> rfl) | (simp [*, errW_none, errW_some] <;> rfl), by repeat (first | (with_reducible first | exact HB.out | apply below_alloc | apply pw_below_drewN | apply below_drew1 | refine below_set ?_ GE367.out) | exact HB.out)⟩
                  · rw [if_neg c18] at H
                    have c18b0 : decide (a0_3 ≤ 65535) = false := decide_eq_false c18
                    clear c18
                    obtain rfl := Option.some.inj H
                    have hcz20_0 : wc.cell? ⟨gb367, 0, none⟩ = some (.int .i64 a0_0) := (blk_cell BK367.out 0).trans rfl
                    have hcz20_1 : wc.cell? ⟨gb367, 1, none⟩ = some (.int .u32 a0_1) := (blk_cell BK367.out 1).trans rfl
                    have hcz20_2 : wc.cell? ⟨gb367, 2, none⟩ = some (.int .i64 a0_2) := (blk_cell BK367.out 2).trans rfl
                    have hcz20_3 : wc.cell? ⟨gb367, 3, none⟩ = some (.int .i64 a0_3) := (blk_cell BK367.out 3).trans rfl
                    have hcz20_4 : wc.cell? ⟨gb367, 4, none⟩ = some (.int .u32 a0_4) := (blk_cell BK367.out 4).trans rfl
                    have hcz20_5 : wc.cell? ⟨gb367, 5, none⟩ = some (.int .u32 a0_5) := (blk_cell BK367.out 5).trans rfl
                    have hcz20_6 : wc.cell? ⟨gb367, 6, none⟩ = some (.int .u32 a0_6) := (blk_cell BK367.out 6).trans rfl
                    have hcz20_7 : wc.cell? ⟨gb367, 7, none⟩ = some (.int .u32 a0_7) := (blk_cell BK367.out 7).trans rfl
                    have hcz20_8 : wc.cell? ⟨gb367, 8, none⟩ = some (.slice A0_8 l0_8.length c0_8) := (blk_cell BK367.out 8).trans rfl
                    have hcz20_9 : wc.cell? ⟨gb367, 9, none⟩ = some (.slice A0_9 l0_9.length c0_9) := (blk_cell BK367.out 9).trans rfl
                    have hfz20_0 := blk_frozen BK367.out 0
                    have hfz20_1 := blk_frozen BK367.out 1
                    have hfz20_2 := blk_frozen BK367.out 2
                    have hfz20_3 := blk_frozen BK367.out 3
                    have hfz20_4 := blk_frozen BK367.out 4
                    have hfz20_5 := blk_frozen BK367.out 5
                    have hfz20_6 := blk_frozen BK367.out 6
                    have hfz20_7 := blk_frozen BK367.out 7
                    have hfz20_8 := blk_frozen BK367.out 8
                    have hfz20_9 := blk_frozen BK367.out 9
                    go_wp2
                    go_ret
                    exact ⟨by first | rfl | (simp [errW_none, errW_some] <;> rfl) | (simp [*, errW_none, errW_some] <;> rfl), by repeat (first | (with_reducible first | exact HB.out | apply below_alloc | apply pw_below_drewN | apply below_drew1 | refine below_set ?_ GE367.out) | exact HB.out)⟩
                · rw [if_neg c17] at H
                  have c17b0 : decide (0 ≤ a0_3) = false := decide_eq_false c17
                  clear c17
                  obtain rfl := Option.some.inj H
                  have hcz21_0 : wc.cell? ⟨gb367, 0, none⟩ = some (.int .i64 a0_0) := (blk_cell BK367.out 0).trans rfl
                  have hcz21_1 : wc.cell? ⟨gb367, 1, none⟩ = some (.int .u32 a0_1) := (blk_cell BK367.out 1).trans rfl
                  have hcz21_2 : wc.cell? ⟨gb367, 2, none⟩ = some (.int .i64 a0_2) := (blk_cell BK367.out 2).trans rfl
                  have hcz21_3 : wc.cell? ⟨gb367, 3, none⟩ = some (.int .i64 a0_3) := (blk_cell BK367.out 3).trans rfl
                  have hcz21_4 : wc.cell? ⟨gb367, 4, none⟩ = some (.int .u32 a0_4) := (blk_cell BK367.out 4).trans rfl
                  have hcz21_5 : wc.cell? ⟨gb367, 5, none⟩ = some (.int .u32 a0_5) := (blk_cell BK367.out 5).trans rfl
                  have hcz21_6 : wc.cell? ⟨gb367, 6, none⟩ = some (.int .u32 a0_6) := (blk_cell BK367.out 6).trans rfl
                  have hcz21_7 : wc.cell? ⟨gb367, 7, none⟩ = some (.int .u32 a0_7) := (blk_cell BK367.out 7).trans rfl
                  have hcz21_8 : wc.cell? ⟨gb367, 8, none⟩ = some (.slice A0_8 l0_8.length c0_8) := (blk_cell BK367.out 8).trans rfl
                  have hcz21_9 : wc.cell? ⟨gb367, 9, none⟩ = some (.slice A0_9 l0_9.length c0_9) := (blk_cell BK367.out 9).trans rfl
                  have hfz21_0 := blk_frozen BK367.out 0
                  have hfz21_1 := blk_frozen BK367.out 1
                  have hfz21_2 := blk_frozen BK367.out 2
                  have hfz21_3 := blk_frozen BK367.out 3
                  have hfz21_4 := blk_frozen BK367.out 4
                  have hfz21_5 := blk_frozen BK367.out 5
                  have hfz21_6 := blk_frozen BK367.out 6
                  have hfz21_7 := blk_frozen BK367.out 7
                  have hfz21_8 := blk_frozen BK367.out 8
                  have hfz21_9 := blk_frozen BK367.out 9
                  go_wp2
                  go_ret
                  exact ⟨by first | rfl | (simp [errW_none, errW_some] <;> rfl) | (simp [*, errW_none, errW_some] <;> rfl), by repeat (first | (with_reducible first | exact HB.out | apply below_alloc | apply pw_below_drewN | apply below_drew1 | refine below_set ?_ GE367.out) | exact HB.out)⟩
              · rw [if_neg c16] at H
                have c16b0 : decide (a0_2 ≤ 65535) = false := decide_eq_false c16
                clear c16
                obtain rfl := Option.some.inj H
                have hcz22_0 : wc.cell? ⟨gb367, 0, none⟩ = some (.int .i64 a0_0) := (blk_cell BK367.out 0).trans rfl
                have hcz22_1 : wc.cell? ⟨gb367, 1, none⟩ = some (.int .u32 a0_1) := (blk_cell BK367.out 1).trans rfl
                have hcz22_2 : wc.cell? ⟨gb367, 2, none⟩ = some (.int .i64 a0_2) := (blk_cell BK367.out 2).trans rfl
                have hcz22_3 : wc.cell? ⟨gb367, 3, none⟩ = some (.int .i64 a0_3) := (blk_cell BK367.out 3).trans rfl
                have hcz22_4 : wc.cell? ⟨gb367, 4, none⟩ = some (.int .u32 a0_4) := (blk_cell BK367.out 4).trans rfl
                have hcz22_5 : wc.cell? ⟨gb367, 5, none⟩ = some (.int .u32 a0_5) := (blk_cell BK367.out 5).trans rfl
                have hcz22_6 : wc.cell? ⟨gb367, 6, none⟩ = some (.int .u32 a0_6) := (blk_cell BK367.out 6).trans rfl
                have hcz22_7 : wc.cell? ⟨gb367, 7, none⟩ = some (.int .u32 a0_7) := (blk_cell BK367.out 7).trans rfl
                have hcz22_8 : wc.cell? ⟨gb367, 8, none⟩ = some (.slice A0_8 l0_8.length c0_8) := (blk_cell BK367.out 8).trans rfl
                have hcz22_9 : wc.cell? ⟨gb367, 9, none⟩ = some (.slice A0_9 l0_9.length c0_9) := (blk_cell BK367.out 9).trans rfl
                have hfz22_0 := blk_frozen BK367.out 0
                have hfz22_1 := blk_frozen BK367.out 1
                have hfz22_2 := blk_frozen BK367.out 2
                have hfz22_3 := blk_frozen BK367.out 3
                have hfz22_4 := blk_frozen BK367.out 4
                have hfz22_5 := blk_frozen BK367.out 5
                have hfz22_6 := blk_frozen BK367.out 6
                have hfz22_7 := blk_frozen BK367.out 7
                have hfz22_8 := blk_frozen BK367.out 8
                have hfz22_9 := blk_frozen BK367.out 9
                go_wp2
                go_ret
                exact ⟨by first | rfl | (simp [errW_none, errW_some] <;> rfl) | (simp [*, errW_none, errW_some] <;> rfl), by repeat (first | (with_reducible first | exact HB.out | apply below_alloc | apply pw_below_drewN | apply below_drew1 | refine below_set ?_ GE367.out) | exact HB.out)⟩
            · rw [if_neg c15] at H
              have c15b0 : decide (0 ≤ a0_2) = false := decide_eq_false c15
              clear c15
              obtain rfl := Option.some.inj H
              have hcz23_0 : wc.cell? ⟨gb367, 0, none⟩ = some (.int .i64 a0_0) := (blk_cell BK367.out 0).trans rfl
              have hcz23_1 : wc.cell? ⟨gb367, 1, none⟩ = some (.int .u32 a0_1) := (blk_cell BK367.out 1).trans rfl
              have hcz23_2 : wc.cell? ⟨gb367, 2, none⟩ = some (.int .i64 a0_2) := (blk_cell BK367.out 2).trans rfl
              have hcz23_3 : wc.cell? ⟨gb367, 3, none⟩ = some (.int .i64 a0_3) := (blk_cell BK367.out 3).trans rfl
              have hcz23_4 : wc.cell? ⟨gb367, 4, none⟩ = some (.int .u32 a0_4) := (blk_cell BK367.out 4).trans rfl
              have hcz23_5 : wc.cell? ⟨gb367, 5, none⟩ = some (.int .u32 a0_5) := (blk_cell BK367.out 5).trans rfl
              have hcz23_6 : wc.cell? ⟨gb367, 6, none⟩ = some (.int .u32 a0_6) := (blk_cell BK367.out 6).trans rfl
              have hcz23_7 : wc.cell? ⟨gb367, 7, none⟩ = some (.int .u32 a0_7) := (blk_cell BK367.out 7).trans rfl
              have hcz23_8 : wc.cell? ⟨gb367, 8, none⟩ = some (.slice A0_8 l0_8.length c0_8) := (blk_cell BK367.out 8).trans rfl
              have hcz23_9 : wc.cell? ⟨gb367, 9, none⟩ = some (.slice A0_9 l0_9.length c0_9) := (blk_cell BK367.out 9).trans rfl
              have hfz23_0 := blk_frozen BK367.out 0
              have hfz23_1 := blk_frozen BK367.out 1
              have hfz23_2 := blk_frozen BK367.out 2
              have hfz23_3 := blk_frozen BK367.out 3
              have hfz23_4 := blk_frozen BK367.out 4
              have hfz23_5 := blk_frozen BK367.out 5
              have hfz23_6 := blk_frozen BK367.out 6
              have hfz23_7 := blk_frozen BK367.out 7
              have hfz23_8 := blk_frozen BK367.out 8
              have hfz23_9 := blk_frozen BK367.out 9
              go_wp2
              go_ret
              exact ⟨by first | rfl | (simp [errW_none, errW_some] <;> rfl) | (simp [*, errW_none, errW_some] <;> rfl), by repeat (first | (with_reducible first | exact HB.out | apply below_alloc | apply pw_below_drewN | apply below_drew1 | refine below_set ?_ GE367.out) | exact HB.out)⟩

end Go.Proofs.Ytnkajghemggaaaa.Pr
end

section
namespace Go.Proofs.Ytnkajghemggaaaa.PO
open Go.RowKit Go.Proofs.Ytnkajghemggaaaa Go.Proofs.Ytnkajghemggaaaa.Pr Go.Proofs.YtnkajghemggaaaaW.PrintWords Go.Proofs.YtnkajghemggaaaaW.PrintLast Go.Proofs.YtnkajghemggaaaaW.PrintMore
set_option linter.unusedVariables false
set_option linter.unusedSimpArgs false

abbrev Opt := S48
theorem wrapO {x : Int} (h0 : 0 ≤ x) (h1 : x < 9223372036854775808) : wrap64 x = x := by unfold wrap64; omega
theorem rd_at (l : List Opt) {i : Nat} (h : i < l.length) : rd_T48 l (i : Int) = l[i] := by
  unfold rd_T48
  rw [Int.toNat_natCast, List.getD_eq_getElem?_getD, List.getElem?_eq_getElem h]
  rfl

def okOpt (x : Opt) : Prop := 1 ≤ x.f0 ∧ x.f0 ≤ 254 ∧ x.f1.length ≤ 255
instance (x : Opt) : Decidable (okOpt x) := by unfold okOpt; infer_instance
def enc1 (x : Opt) : List Int := [x.f0 % 256, (x.f1.length : Int) % 256] ++ x.f1
def enc (l : List Opt) : List Int := (l.map enc1).flatten
def encR (l : List Opt) : List Int × Int := if ∀ x ∈ l, okOpt x then (if 1024 ≤ (enc l).length then ([], 3) else (enc l ++ [255], 0)) else ([], 1)
def few (l : List Opt) : Prop := l.length ≤ 200 ∧ ∀ x ∈ l, x.f1.length ≤ 1000
theorem enc_append (l m : List Opt) : enc (l ++ m) = enc l ++ enc m := by simp [enc]
theorem enc_one (x : Opt) : enc [x] = enc1 x := by simp [enc]
theorem enc1_len (x : Opt) : (enc1 x).length = x.f1.length + 2 := by simp [enc1]
theorem enc_len_le : ∀ (l : List Opt), (∀ x ∈ l, x.f1.length ≤ 1000) → (enc l).length ≤ l.length * 1002 := by
  intro l
  induction l with
  | nil => intro _; simp [enc]
  | cons x l ih =>
    intro h
    have h1 := ih (fun y hy => h y (by simp [hy]))
    have h2 := h x (by simp)
    have e : enc (x :: l) = enc1 x ++ enc l := by simp [enc]
    rw [e, List.length_append, enc1_len, List.length_cons]
    omega
theorem enc_take_le (l : List Opt) (i : Nat) : (enc (l.take i)).length ≤ (enc l).length := by
  have : enc l = enc (l.take i) ++ enc (l.drop i) := by rw [← enc_append, List.take_append_drop]
  rw [this, List.length_append]; omega

/-! ### option.Encode -/
theorem odd_eq (x : Opt) : option_Encode_1.f x.f0 x.f1 = some (!decide (okOpt x)) := by
  unfold option_Encode_1.f
  by_cases ok : okOpt x
  · rw [decide_eq_true ok]
    unfold okOpt at ok
    rw [if_neg (by omega), if_neg (by omega), decide_eq_false (by omega)]
    rfl
  · rw [decide_eq_false ok]
    unfold okOpt at ok
    split
    · rfl
    · split
      · rfl
      · rw [decide_eq_true (by omega)]
        rfl
theorem index_spec (l : List Opt) (hl : l.length ≤ 1000000) : ∀ (d i k : Nat), l.length ≤ i + d → i ≤ l.length → d < k →
    ∃ r : Int, slices_IndexFuncO.l0 k l (l.length : Int) (i : Int) = some r ∧ ((0 ≤ r ∧ ∃ x ∈ l.drop i, ¬ okOpt x) ∨ (r < 0 ∧ ∀ x ∈ l.drop i, okOpt x)) := by
  intro d
  induction d with
  | zero =>
    intro i k h1 h2 hk
    obtain ⟨k, rfl⟩ : ∃ m, k = m + 1 := ⟨k - 1, by omega⟩
    refine ⟨-1, ?_, .inr ⟨by omega, ?_⟩⟩
    · simp only [slices_IndexFuncO.l0]; rw [if_neg (by omega)]
    · rw [List.drop_of_length_le (by omega)]; simp
  | succ d ih =>
    intro i k h1 h2 hk
    obtain ⟨k, rfl⟩ : ∃ m, k = m + 1 := ⟨k - 1, by omega⟩
    by_cases h : i < l.length
    · simp only [slices_IndexFuncO.l0]
      rw [if_pos (by omega), if_pos (by omega), if_pos (by omega), rd_at l h, odd_eq]
      simp only [Option.bind_some]
      rw [List.drop_eq_getElem_cons h]
      by_cases ok : okOpt l[i]
      · rw [decide_eq_true ok, wrapO (by omega) (by omega)]
        obtain ⟨r, hr, hs⟩ := ih (i + 1) k (by omega) (by omega) (by omega)
        refine ⟨r, by simpa using (show slices_IndexFuncO.l0 k l (l.length : Int) ((i : Int) + 1) = some r from hr), ?_⟩
        rcases hs with ⟨a, x, hx, b⟩ | ⟨a, b⟩
        · exact .inl ⟨a, x, List.mem_cons_of_mem _ hx, b⟩
        · exact .inr ⟨a, fun x hx => by
            rcases List.mem_cons.1 hx with rfl | hx
            · exact ok
            · exact b x hx⟩
      · rw [decide_eq_false ok]
        exact ⟨i, by simp, .inl ⟨by omega, l[i], List.mem_cons_self, ok⟩⟩
    · refine ⟨-1, ?_, .inr ⟨by omega, ?_⟩⟩
      · simp only [slices_IndexFuncO.l0]; rw [if_neg (by omega)]
      · rw [List.drop_of_length_le (by omega)]; simp
theorem contains_eq (l : List Opt) (hl : l.length ≤ 1000000) (a : Int) (k : Nat) (hk : l.length < k) : slices_ContainsFuncO.f k l a = some (!decide (∀ x ∈ l, okOpt x)) := by
  obtain ⟨r, hr, hs⟩ := index_spec l hl l.length 0 k (by omega) (by omega) hk
  unfold slices_ContainsFuncO.f slices_IndexFuncO.f
  rw [show ((0 : Nat) : Int) = 0 from rfl] at hr
  rw [hr]
  simp only [Option.bind_some]
  rw [List.drop_zero] at hs
  rcases hs with ⟨h1, x, hx, h2⟩ | ⟨h1, h2⟩
  · rw [decide_eq_true (by omega), decide_eq_false (fun h => h2 (h x hx))]; rfl
  · rw [decide_eq_false (by omega), decide_eq_true h2]; rfl
theorem encode_loop (l : List Opt) (hf : few l) : ∀ (d i k : Nat), l.length ≤ i + d → i ≤ l.length → d < k →
    option_Encode.l0 k (enc (l.take i)) l (l.length : Int) (i : Int) = some (if 1024 ≤ (enc l).length then ([], 3) else (enc l ++ [255], 0)) := by
  obtain ⟨hn, hx⟩ := hf
  have hel := enc_len_le l hx
  have hel' : (enc l).length ≤ 200400 := by omega
  intro d
  induction d with
  | zero =>
    intro i k h1 h2 hk
    obtain ⟨k, rfl⟩ : ∃ m, k = m + 1 := ⟨k - 1, by omega⟩
    simp only [option_Encode.l0]
    rw [if_neg (by omega), List.take_of_length_le (by omega), if_pos (by omega)]
    simp only [Option.bind_some]
    by_cases c : 1024 ≤ (enc l).length
    · rw [if_pos (by simp; omega), if_pos c]
    · rw [if_neg (by simp; omega), if_neg c]
  | succ d ih =>
    intro i k h1 h2 hk
    obtain ⟨k, rfl⟩ : ∃ m, k = m + 1 := ⟨k - 1, by omega⟩
    by_cases h : i < l.length
    · simp only [option_Encode.l0]
      have ht := enc_take_le l i
      have ht1 := enc_take_le l (i + 1)
      have hx1 := hx l[i] (List.getElem_mem h)
      rw [if_pos (by omega), if_pos (by omega), if_pos (by omega), rd_at l h]
      simp only [Option.bind_some]
      rw [if_pos (by simp; omega), if_pos (by simp; omega), wrapO (by omega) (by omega)]
      have e : enc (l.take i) ++ [l[i].f0 % 256, (l[i].f1.length : Int) % 256] ++ l[i].f1 = enc (l.take (i + 1)) := by
        rw [List.take_succ_eq_append_getElem h, enc_append, enc_one, enc1, List.append_assoc]
      rw [e]
      exact ih (i + 1) k (by omega) (by omega) (by omega)
    · obtain rfl : i = l.length := by omega
      simp only [option_Encode.l0]
      rw [if_neg (by omega), List.take_of_length_le (by omega), if_pos (by omega)]
      simp only [Option.bind_some]
      by_cases c : 1024 ≤ (enc l).length
      · rw [if_pos (by simp; omega), if_pos c]
      · rw [if_neg (by simp; omega), if_neg c]
theorem encode_eq (l : List Opt) (hf : few l) (k : Nat) (hk : 201 ≤ k) : option_Encode.f k l = some (encR l) := by
  have hn := hf.1
  unfold option_Encode.f encR
  rw [contains_eq l (by omega) _ k (by omega)]
  simp only [Option.bind_some]
  by_cases ok : ∀ x ∈ l, okOpt x
  · rw [decide_eq_true ok, if_neg (by decide), if_pos ok]
    exact encode_loop l hf l.length 0 k (by omega) (by omega) (by omega)
  · rw [decide_eq_false ok, if_pos (by decide), if_neg ok]

end Go.Proofs.Ytnkajghemggaaaa.PO
end

section
namespace Go.Proofs.Ytnkajghemggaaaa.PP
open Go.RowKit Go.Proofs.Ytnkajghemggaaaa Go.Proofs.Ytnkajghemggaaaa.Pr Go.Proofs.Ytnkajghemggaaaa.PO Go.Proofs.YtnkajghemggaaaaW.PrintWords Go.Proofs.YtnkajghemggaaaaW.PrintLast Go.Proofs.YtnkajghemggaaaaW.PrintMore
set_option linter.unusedVariables false
set_option linter.unusedSimpArgs false

theorem wrapP {x : Int} (h0 : 0 ≤ x) (h1 : x < 9223372036854775808) : wrap64 x = x := by unfold wrap64; omega
def okPk (a0 a2 a3 : Int) (l8 : List Int) (l9 : List Opt) : Prop := (a0 = 1 ∨ a0 = 2) ∧ (1 ≤ l8.length ∧ l8.length ≤ 16) ∧ (0 ≤ a2 ∧ a2 ≤ 65535) ∧ (0 ≤ a3 ∧ a3 ≤ 65535) ∧ (encR l9).2 = 0
instance (a0 a2 a3 : Int) (l8 : List Int) (l9 : List Opt) : Decidable (okPk a0 a2 a3 l8 l9) := by unfold okPk; infer_instance
theorem right_eq (a0 a1 a2 a3 a4 a5 a6 a7 : Int) (l8 : List Int) (l9 : List Opt) (hf : few l9) (k : Nat) (hk : 210 ≤ k) : packet_Right.f k a0 a1 a2 a3 a4 a5 a6 a7 l8 l9 = some (decide (okPk a0 a2 a3 l8 l9)) := by
  obtain ⟨k, rfl⟩ : ∃ m, k = m + 1 := ⟨k - 1, by omega⟩
  unfold packet_Right.f
  rw [encode_eq l9 hf _ (by omega)]
  simp only [Option.bind_some, packet_Right.j0]
  by_cases c0 : a0 = 1 ∨ a0 = 2
  · have e : (if a0 = 1 then false else (a0 != 2)) = false := by
      rcases c0 with rfl | rfl <;> decide
    have e2 : ∀ (f : Bool → Option Bool), (if a0 = 1 then f false else f (a0 != 2)) = f false := by
      intro f
      rcases c0 with rfl | rfl
      · rfl
      · rfl
    rw [e2 (fun b => if b = true then some false else (if (l8.length : Int) < 1 then (some false) else (if (l8.length : Int) > 16 then (some false) else (if a2 ≥ 0 then (if a2 ≤ 65535 then (if a3 ≥ 0 then (if a3 ≤ 65535 then (some ((encR l9).2 == 0)) else (some false)) else (some false)) else (some false)) else (some false)))))]
    simp only [Bool.false_eq_true, if_false]
    by_cases c : (1 ≤ l8.length ∧ l8.length ≤ 16) ∧ (0 ≤ a2 ∧ a2 ≤ 65535) ∧ (0 ≤ a3 ∧ a3 ≤ 65535)
    · obtain ⟨⟨x1, x2⟩, ⟨x3, x4⟩, x5, x6⟩ := c
      rw [if_neg (by omega), if_neg (by omega), if_pos x3, if_pos x4, if_pos x5, if_pos x6]
      congr 1
      rw [Bool.eq_iff_iff, beq_iff_eq, decide_eq_true_iff]
      unfold okPk
      exact ⟨fun h => ⟨c0, ⟨x1, x2⟩, ⟨x3, x4⟩, ⟨x5, x6⟩, h⟩, fun h => h.2.2.2.2⟩
    · rw [decide_eq_false (fun h => c ⟨h.2.1, h.2.2.1, h.2.2.2.1⟩)]
      repeat' split
      all_goals first | rfl | (exfalso; omega)
  · have n1 : ¬ a0 = 1 := fun h => c0 (.inl h)
    have n2 : ¬ a0 = 2 := fun h => c0 (.inr h)
    rw [if_neg n1, show (a0 != 2) = true from bne_iff_ne.2 n2, decide_eq_false (fun h => c0 h.1)]
    rfl
end Go.Proofs.Ytnkajghemggaaaa.PP
end

section
namespace Go.Proofs.Ytnkajghemggaaaa
open Go.RowKit Go.Proofs.Ytnkajghemggaaaa.Pr Go.Proofs.YtnkajghemggaaaaW.PrintWords Go.Proofs.YtnkajghemggaaaaW.PrintLast Go.Proofs.YtnkajghemggaaaaW.PrintMore
attribute [local go_sem] max2_int min2_int max_two min_two max_three min_three max_four min_four
set_option linter.unusedVariables false
set_option linter.unusedSimpArgs false

set_option maxHeartbeats 2000000 in
set_option maxRecDepth 100000 in
theorem take_some (A : Option Addr) (c n k : Nat) (w : World) (hk : k ≤ n) (hc : n ≤ c) (hn : n ≤ 9223372036854775807) :
    Calls Try.prog 42 #[.slice A n c, .int .i64 (k : Int)] w fun e w' => e = .returned (.tuple #[.slice A k c, .slice (if c = k then A else A.map (·.add k)) (n - k) (c - k)]) ∧ w' = w.drew := by
  obtain ⟨i0, hinf, hzz⟩ := Option.map_eq_some_iff.1 cl_info
  simp only [Prod.mk.injEq] at hzz
  have r1 := cut_from (P := Try.prog) 25 5 .i64 Try.underlying25 hinf 1 hzz.2.1 A n c (k : Int) (by omega) (by omega)
  have r2 := cut_to (P := Try.prog) 25 5 .i64 Try.underlying25 hinf A n c (k : Int) (by omega) (by omega) hc
  simp only [Int.toNat_natCast, Nat.mul_one] at r1 r2
  have p1 : ((k : Int) > (n : Int)) = False := eq_false (by omega)
  have p2 : ((n : Int) < (k : Int)) = False := eq_false (by omega)
  clear hinf hzz hk hc
  obtain ⟨A2, hA2⟩ : ∃ A2, A2 = (if c = k then A else A.map (·.add k)) := ⟨_, rfl⟩
  obtain ⟨n2, hn2⟩ : ∃ n2, n2 = n - k := ⟨_, rfl⟩
  obtain ⟨c2, hc2⟩ : ∃ c2, c2 = c - k := ⟨_, rfl⟩
  rw [← hA2, ← hn2, ← hc2] at r1 ⊢
  clear hA2 hn2 hc2
  go_enter Try.func42, Try.ntmps42
  go_wp2_with fail
  refine start_ (n := 8) (S := fun w' => True) (ds := []) #[false, false, false, false, false, false, false, false] (by kernel_rfl) rfl rfl trivial (fun hHeld => ?_)
  refine pure_ (i := 0) (N := some 12) (v := ?_) (a' := ?_) #[true, false, false, false, false, false, false, false] rfl rfl (by kernel_rfl) (fun _ _ _ h => h) (Or.inl ⟨by rfl, ?_⟩) ?_ ?_
  rotate_left
  · intro w'
    go_simp
    with_reducible rfl
  rotate_left
  · simp only [Act.put, List.setIfInBounds_toArray, List.set_cons_zero, List.set_cons_succ, i64_w, i32_w]
    rfl
  refine pure_ (i := 1) (N := some 13) (v := ?_) (a' := ?_) #[true, true, false, false, false, false, false, false] rfl rfl (by kernel_rfl) (fun _ _ _ h => h) (Or.inl ⟨by rfl, ?_⟩) ?_ ?_
  rotate_left
  · intro w'
    go_simp
    with_reducible rfl
  rotate_left
  · simp only [Act.put, List.setIfInBounds_toArray, List.set_cons_zero, List.set_cons_succ, i64_w, i32_w]
    rfl
  refine pure_ (i := 2) (N := some 14) (v := .slice A k c) (a' := ?_) #[true, true, true, false, false, false, false, false] rfl rfl (by kernel_rfl) (fun _ _ _ h => h) (Or.inl ⟨by rfl, ?_⟩) ?_ ?_
  · intro w'
    go_simp
    try (with_reducible rfl)
  rotate_left
  · simp only [Act.put, List.setIfInBounds_toArray, List.set_cons_zero, List.set_cons_succ, i64_w, i32_w]
    rfl
  refine pure_ (i := 3) (N := some 15) (v := ?_) (a' := ?_) #[true, true, true, true, false, false, false, false] rfl rfl (by kernel_rfl) (fun _ _ _ h => h) (Or.inl ⟨by rfl, ?_⟩) ?_ ?_
  rotate_left
  · intro w'
    go_simp
    with_reducible rfl
  rotate_left
  · simp only [Act.put, List.setIfInBounds_toArray, List.set_cons_zero, List.set_cons_succ, i64_w, i32_w]
    rfl
  refine pure_ (i := 4) (N := some 16) (v := ?_) (a' := ?_) #[true, true, true, true, true, false, false, false] rfl rfl (by kernel_rfl) (fun _ _ _ h => h) (Or.inl ⟨by rfl, ?_⟩) ?_ ?_
  rotate_left
  · intro w'
    go_simp
    with_reducible rfl
  rotate_left
  · simp only [Act.put, List.setIfInBounds_toArray, List.set_cons_zero, List.set_cons_succ, i64_w, i32_w]
    rfl
  refine pure_ (i := 5) (N := some 17) (v := .slice A2 n2 c2) (a' := ?_) #[true, true, true, true, true, true, false, false] rfl rfl (by kernel_rfl) (fun _ _ _ h => h) (Or.inl ⟨by rfl, ?_⟩) ?_ ?_
  · intro w'
    go_simp
    try (with_reducible rfl)
  rotate_left
  · simp only [Act.put, List.setIfInBounds_toArray, List.set_cons_zero, List.set_cons_succ, i64_w, i32_w]
    rfl
  refine pure_ (i := 6) (N := some 4) (v := ?_) (a' := ?_) #[true, true, true, true, true, true, true, false] rfl rfl (by kernel_rfl) (fun _ _ _ h => h) (Or.inl ⟨by rfl, ?_⟩) ?_ ?_
  rotate_left
  · intro w'
    go_simp
    with_reducible rfl
  rotate_left
  · simp only [Act.put, List.setIfInBounds_toArray, List.set_cons_zero, List.set_cons_succ, i64_w, i32_w]
    rfl
  refine pure_ (i := 7) (N := some 5) (v := ?_) (a' := ?_) #[true, true, true, true, true, true, true, true] rfl rfl (by kernel_rfl) (fun _ _ _ h => h) (Or.inl ⟨by rfl, ?_⟩) ?_ ?_
  rotate_left
  · intro w'
    go_simp
    with_reducible rfl
  rotate_left
  · simp only [Act.put, List.setIfInBounds_toArray, List.set_cons_zero, List.set_cons_succ, i64_w, i32_w]
    rfl
  refine done_ (by kernel_rfl) ?_
  go_wp2_with fail
  go_ret2
  exact ⟨rfl, rfl⟩
set_option maxHeartbeats 1000000 in
set_option maxRecDepth 100000 in
theorem take_none (A : Option Addr) (c n k : Nat) (w : World) (hk : n < k) :
    Calls Try.prog 42 #[.slice A n c, .int .i64 (k : Int)] w fun e w' => e = .panicked [{ v := .iface 67 (.agg #[]), recovered := false }] ∧ w' = w := by
  have p1 : ((k : Int) > (n : Int)) = True := eq_true (by omega)
  have p2 : ((n : Int) < (k : Int)) = True := eq_true (by omega)
  have hpn : ∀ w : World, (Instr.panic (.iface 67 (.agg #[]))).run Try.prog w = .halt (.panic (.iface 67 (.agg #[]))) w := fun _ => rfl
  go_enter Try.func42, Try.ntmps42
  go_wp2_with fail
  simp [bodyPost]

set_option maxRecDepth 100000 in
set_option maxHeartbeats 2000000 in
/-- The deferred closure, in a frame that panics with a cut: recovered; the results are nil and false. -/
theorem catch_cut (bl bf : Nat) (v : Value) (b : Bool) (older : List PanicEntry) (w : World) (hl : Boxed w bl 26 v) (hf : Boxed w bf 4 (.bool b)) (hne : bf ≠ bl) :
    CallsD Try.prog 41 #[.pointer (some ⟨bl, 0, none⟩), .pointer (some ⟨bf, 0, none⟩)] (.panicking ({ v := .iface 67 (.agg #[]), recovered := false } :: older)) w fun e u' w' =>
      e = .returned (.tuple #[]) ∧ u' = .panicking ({ v := .iface 67 (.agg #[]), recovered := true } :: older) ∧ w' = ((w.alloc (.cells #[] 67)).setCell ⟨bl, 0, none⟩ (.slice none 0 0)).setCell ⟨bf, 0, none⟩ (.bool false) := by
  have y1 := (hl.alloc (.cells #[] 67)).cell
  have y2 := (hf.alloc (.cells #[] 67)).cell
  have hta : ∀ w, (Instr.typeAssert (.iface 67 (.agg #[])) 20 67 true).run Try.prog w = .ok (.tuple #[.agg #[], .bool true]) w := fun w => by kernel_rfl
  refine callsD_of_wpS Try.func41 rfl fun c₀ cs hu => ?_
  apply wpS_seq
  apply wpS_region
  simp [wpOpsS, go_sem, recoverD, hu, Try.ntmps41, Exit.thenS, hta, y1, y2, Act.put, Array.replicate]
  clear hta
  apply wpS_seq
  apply wpS_region
  simp [wpOpsS, go_sem, Exit.thenS, Act.put]
  refine wpS_cond (t := true) (by simp [Act.eval, Array.replicate]) ?_
  simp only [if_true]
  apply wpS_region
  have z1 := (hl.alloc (.cells #[] 67)).frozen
  have y3 : ((w.alloc (.cells #[] 67)).setCell ⟨bl, 0, none⟩ (.slice none 0 0)).cell? ⟨bf, 0, none⟩ = some (.bool b) := (World.cell?_setCell_other _ _ _ _ (by intro e; injection e with e; exact hne e.symm)).trans y2
  have z2 := (hf.alloc (.cells #[] 67)).frozen
  simp [wpOpsS, go_sem, y1, y3, z1, z2, bodyPostS, results, Try.results41, hu]

/-- The same where nothing panics. -/
theorem catch_none (bl bf : Nat) (w : World) :
    CallsD Try.prog 41 #[.pointer (some ⟨bl, 0, none⟩), .pointer (some ⟨bf, 0, none⟩)] .returning w fun e u' w' => e = .returned (.tuple #[]) ∧ u' = .returning ∧ w' = w.alloc (.cells #[] 67) := by
  have hta : ∀ w, (Instr.typeAssert .nilIface 20 67 true).run Try.prog w = .ok (.tuple #[.agg #[], .bool false]) w := fun w => by kernel_rfl
  refine callsD_of_wpS Try.func41 rfl fun c₀ cs hu => ?_
  apply wpS_seq
  apply wpS_region
  simp [wpOpsS, go_sem, recoverD, hu, Try.ntmps41, Exit.thenS, hta, Act.put, Array.replicate]
  clear hta
  apply wpS_seq
  apply wpS_region
  simp [wpOpsS, go_sem, Exit.thenS, Act.put]
  refine wpS_cond (t := false) (by simp [Act.eval, Array.replicate]) ?_
  simp only [Bool.false_eq_true, if_false]
  refine wpS_of_wp (wp_skip ?_)
  cases c₀
  simp_all [bodyPostS, results, Try.results41]

end Go.Proofs.Ytnkajghemggaaaa
end

section
namespace Go.Proofs.Ytnkajghemggaaaa
open Go.RowKit Go.Proofs.Ytnkajghemggaaaa.Pr Go.Proofs.YtnkajghemggaaaaW.PrintWords Go.Proofs.YtnkajghemggaaaaW.PrintLast Go.Proofs.YtnkajghemggaaaaW.PrintMore
attribute [local go_sem] max2_int min2_int max_two min_two max_three min_three max_four min_four
set_option linter.unusedVariables false
set_option linter.unusedSimpArgs false

abbrev OptR := S48
/-! ### what is read -/
def rdL (l : List Int) (acc : List OptR) : Option (List OptR) :=
  match l with
  | [] => some acc
  | [_] => none
  | h :: n :: r => if n.toNat ≤ r.length ∧ h ≠ 0 then rdL (r.drop n.toNat) (acc ++ [⟨h, r.take n.toNat⟩]) else none
termination_by l.length
decreasing_by simp only [List.length_cons, List.length_drop]; omega
def rdRes (l : List Int) : List OptR × Bool := match rdL l [] with | some r => (r, decide (0 < r.length)) | none => ([], false)
theorem rdRes_none {l : List Int} (h : rdL l [] = none) : rdRes l = ([], false) := by unfold rdRes; rw [h]
theorem rdRes_some {l : List Int} {r : List OptR} (h : rdL l [] = some r) : rdRes l = (r, decide (0 < r.length)) := by unfold rdRes; rw [h]

/-- The door: no deferred call is left, and the results stand in their cells. -/
theorem read_leaves {tmps : Array Value} {R : Ending → World → Prop} {W : World} {bl bf : Nat} {v : Value} {b : Bool} (h2 : tmps[2]? = some (.pointer (some ⟨bl, 0, none⟩))) (h3 : tmps[3]? = some (.pointer (some ⟨bf, 0, none⟩)))
    (hl : Boxed W bl 26 v) (hf : Boxed W bf 4 (.bool b)) (hv : ∃ A n c, v = .slice A n c) (h : R (.returned (.tuple #[v, .bool b])) W) : Leaves Try.prog Try.f27 tmps R [] .returning W := by
  obtain ⟨A, n, c, rfl⟩ := hv
  refine ⟨_, ?_, h⟩
  have y1 := hl.cell
  have y2 := hf.cell
  simp [results, Try.results27, go_sem, h2, h3, y1, y2]

theorem boxed_far {W : World} {b q : Nat} {t : TypeId} {v : Value} (h : Boxed W b t v) (hne : b ≠ q) (u : Value) : Boxed (W.setCell ⟨q, 0, none⟩ u) b t v := (Below.heap_setCell W ⟨q, 0, none⟩ u b hne).trans h
theorem read_ret {tmps : Array Value} {R : Ending → World → Prop} {W : World} {bl bf : Nat} {A : Option Addr} {n c : Nat} {b : Bool} (h2 : tmps[2]? = some (.pointer (some ⟨bl, 0, none⟩))) (h3 : tmps[3]? = some (.pointer (some ⟨bf, 0, none⟩)))
    (hl : Boxed W bl 26 (.slice A n c)) (hf : Boxed W bf 4 (.bool b)) (h : R (.returned (.tuple #[.slice A n c, .bool b])) (W.alloc (.cells #[] 67))) :
    bodyPostD Try.prog Try.f27 R .ret { tmps := tmps, defers := [{ target := .fn (.func 41) #[.pointer (some ⟨bl, 0, none⟩), .pointer (some ⟨bf, 0, none⟩)], args := #[] }] } W := by
  show Leaves _ _ _ _ _ _ _
  refine leaves_cons (f := 41) (args := #[.pointer (some ⟨bl, 0, none⟩), .pointer (some ⟨bf, 0, none⟩)]) (by simp) (by simp [go_sem]) ?_
  refine (catch_none bl bf _).mono ?_
  rintro e u' w'' ⟨rfl, rfl, rfl⟩
  exact read_leaves h2 h3 (hl.alloc _) (hf.alloc _) ⟨_, _, _, rfl⟩ h
theorem read_panic {tmps : Array Value} {R : Ending → World → Prop} {W : World} {bl bf : Nat} {v : Value} {b : Bool} (h2 : tmps[2]? = some (.pointer (some ⟨bl, 0, none⟩))) (h3 : tmps[3]? = some (.pointer (some ⟨bf, 0, none⟩)))
    (hl : Boxed W bl 26 v) (hf : Boxed W bf 4 (.bool b)) (hne : bf ≠ bl) (h : R (.returned (.tuple #[.slice none 0 0, .bool false])) (((W.alloc (.cells #[] 67)).setCell ⟨bl, 0, none⟩ (.slice none 0 0)).setCell ⟨bf, 0, none⟩ (.bool false))) :
    bodyPostD Try.prog Try.f27 R (.panic [{ v := .iface 67 (.agg #[]), recovered := false }]) { tmps := tmps, defers := [{ target := .fn (.func 41) #[.pointer (some ⟨bl, 0, none⟩), .pointer (some ⟨bf, 0, none⟩)], args := #[] }] } W := by
  show Leaves _ _ _ _ _ _ _
  refine leaves_cons (f := 41) (args := #[.pointer (some ⟨bl, 0, none⟩), .pointer (some ⟨bf, 0, none⟩)]) (by simp) (by simp [go_sem]) ?_
  refine (catch_cut bl bf v b [] _ hl hf hne).mono ?_
  rintro e u' w'' ⟨rfl, rfl, rfl⟩
  show Leaves _ _ _ _ [] .returning _
  exact read_leaves h2 h3 (boxed_far ((hl.alloc _).set _) (Ne.symm hne) _) ((boxed_far (hf.alloc _) hne _).set _) ⟨_, _, _, rfl⟩ h
/-- What is behind a cut of the front. -/
theorem rd_step {h n : Int} {r : List Int} {acc : List OptR} (h1 : n.toNat ≤ r.length) (h2 : h ≠ 0) : rdL (h :: n :: r) acc = rdL (r.drop n.toNat) (acc ++ [⟨h, r.take n.toNat⟩]) := by
  rw [rdL, if_pos ⟨h1, h2⟩]
theorem rd_stop {h n : Int} {r : List Int} {acc : List OptR} (h1 : ¬ (n.toNat ≤ r.length ∧ h ≠ 0)) : rdL (h :: n :: r) acc = none := by
  rw [rdL, if_neg h1]
theorem rd_lone {h : Int} {acc : List OptR} : rdL [h] acc = none := by rw [rdL]

theorem leaves_congr {P : Program} {fn : Func} {t1 t2 : Array Value} {R : Ending → World → Prop} (h : results fn t1 = results fn t2) : ∀ ds u w, Leaves P fn t1 R ds u w → Leaves P fn t2 R ds u w
  | [], .returning, w, hh => by
    obtain ⟨v, h1, h2⟩ := hh
    exact ⟨v, h ▸ h1, h2⟩
  | [], .panicking _, _, hh => hh
  | [], .run, _, hh => hh
  | d :: ds, u, w, hh => by
    obtain ⟨h1, fv, cap, f, args, h2, h3, h4⟩ := hh
    refine ⟨h1, fv, cap, f, args, h2, h3, h4.mono fun e u' w' h5 => ?_⟩
    cases e with
    | returned _ => exact leaves_congr h ds _ _ h5
    | panicked _ => exact leaves_congr h ds _ _ h5
    | outgrown => exact h5
theorem put_quiet {R : Ending → World → Prop} {v : Value} (N : Nat) (h2 : N ≠ 2) (h3 : N ≠ 3) : ∀ c a w, bodyPostD Try.prog Try.f27 R (.panic c) (a.put (some N) v) w → bodyPostD Try.prog Try.f27 R (.panic c) a w := by
  intro c a w h
  refine leaves_congr ?_ _ _ _ h
  simp [results, Try.results27, Act.put, h2, h3]
theorem rinfo : (Try.prog.info? 48).map (fun i => (i.zero, i.size, i.bytes)) = some (some (.agg #[.int .i64 0, .slice none 0 0]), 2, 32) := by kernel_rfl
def lenOfV : Value → Nat | .slice _ n _ => n | _ => 0
set_option maxHeartbeats 4000000 in
set_option maxRecDepth 100000 in
theorem read_calls (A : Option Addr) (c : Nat) (l : List Int) (w : World) (hC : (Kd.int .u8).C w A l.length l) (hc : l.length ≤ c) (hbytes : ∀ x ∈ l, 0 ≤ x ∧ x ≤ 255) (hlen : l.length < 1099511627776) :
    Calls Try.prog 27 #[.slice A l.length c] w fun e w' => ∃ v, e = .returned (.tuple #[v, .bool (rdRes l).2]) ∧ Kd.S k48 48 w' w.heap.size (fun _ => True) v (rdRes l).1 ∧ Below w.heap.size w w' := by
  have hmf : ∀ (fn : Fn) (first cap : Array Value) (w : World), (Instr.makeFunc fn first cap).run Try.prog w = .ok (.func fn first cap) w := fun _ _ _ _ => rfl
  have HC := Lib.hid hC
  have HBY := Lib.hid hbytes
  clear hC hbytes
  go_enter_defers Try.func27, Try.ntmps27
  go_upto_region 1 with fail
  obtain ⟨bl, hbl⟩ : ∃ b, w.heap.size = b := ⟨_, rfl⟩
  obtain ⟨bf, hbf⟩ : ∃ b, bl + 1 = b := ⟨_, rfl⟩
  obtain ⟨w1, hw1⟩ : ∃ W, (w.alloc (.cells #[.slice none 0 0] 26)).alloc (.cells #[.bool false] 4) = W := ⟨_, rfl⟩
  have HL1 : Hid (Boxed w1 bl 26 (.slice none 0 0)) := by show Boxed _ _ _ _; rw [← hw1, ← hbl]; exact (Boxed.new _ _ _).alloc _
  have HF1 : Hid (Boxed w1 bf 4 (.bool false)) := by
    show Boxed _ _ _ _
    have := Boxed.new (w.alloc (.cells #[.slice none 0 0] 26)) 4 (.bool false)
    rw [← hw1, ← hbf, ← hbl]
    simpa using this
  have HB1 : Hid (Below w.heap.size w w1) := by show Below _ _ _; rw [← hw1]; exact below_alloc (below_alloc (Below.refl _ _) _) _
  have HBL : Hid (w.heap.size ≤ bl) := Nat.le_of_eq hbl
  have HBF : Hid (bl < bf) := by show _ < _; omega
  have HS1 : Hid (bf < w1.heap.size) := by show _ < _; rw [← hw1, ← hbf, ← hbl]; simp
  rw [hbl, hbf, hw1]
  clear hbl hbf hw1
  go_wp2_with fail
  have CK := Lib.hid catch_cut
  have CN := Lib.hid catch_none
  go_loopw [0] (fun at_ wr => ∃ (l' : List Int) (acc : List OptR) (v : Value) (A' : Option Addr) (c' : Nat), at_ = .slice A' l'.length c' ∧ l'.length ≤ c' ∧ l'.length ≤ l.length ∧ acc.length + l'.length ≤ l.length ∧ Hid (∀ x ∈ l', 0 ≤ x ∧ x ≤ 255) ∧ Hid (rdL l' acc = rdL l []) ∧ Hid ((Kd.int .u8).C w A' l'.length l') ∧
      Hid (Kd.S k48 48 wr (bf + 1) (fun _ => True) v acc) ∧ Hid (Boxed wr bl 26 v) ∧ Hid (Boxed wr bf 4 (.bool false)) ∧ Hid (Below w.heap.size w wr)) (fun at_ _ => lenOfV at_)
  case atStart => exact ⟨l, [], _, A, c, rfl, hc, Nat.le_refl _, by simp, HBY, by rfl, HC, Lib.hid (Kd.S_nil _ _ _ _ _), HL1, HF1, HB1⟩
  case round =>
    obtain ⟨l', acc, v, A', c', rfl, hc', hl1, hl2, HBY', HP, HC', HV, HL, HF, HB⟩ := hrel
    clear HC HL1 HF1 HB1
    obtain ⟨Av, cv, rfl⟩ := Kd.S_slice HV.out
    have y1 := HL.out.cell
    have z1 := HL.out.frozen
    have y2 := HF.out.cell
    have z2 := HF.out.frozen
    have hne : bf ≠ bl := by have := HBF.out; omega
    have y3 : ∀ u, (wr.setCell ⟨bl, 0, none⟩ u).cell? ⟨bf, 0, none⟩ = some (.bool false) := fun u => (World.cell?_setCell_other _ _ _ _ (by intro e; injection e with e; exact hne e.symm)).trans y2
    have HNE := Lib.hid hne
    clear hne
    by_cases h0 : l' = []
    · subst h0
      have hp : rdL [] acc = some acc := by unfold rdL; rfl
      have HRS := Lib.hid (rdRes_some (HP.out.symm.trans hp))
      clear hp
      go_wp2_with fail
      refine read_ret rfl rfl (boxed_far (HL.out.set _) (Ne.symm HNE.out) _) ((boxed_far HF.out HNE.out _).set _) ⟨_, by rw [HRS.out], ?_, ?_⟩
      · rw [HRS.out]
        have h1 : Kd.S k48 48 wr (bf + 1) (fun k => bf < k) (.slice Av acc.length cv) acc := Kd.S_mono (Kd.S_bound HV.out) (fun k hk => by have := hk.2.1; omega)
        have h2 := Kd.S_far (Kd.S_far h1 (p := ⟨bl, 0, none⟩) (fun k hk => by have := HBF.out; show k ≠ bl; omega) (.slice Av acc.length cv)) (p := ⟨bf, 0, none⟩) (fun k hk => by show k ≠ bf; omega) (.bool (decide (0 < acc.length)))
        exact Kd.S_mono (Kd.S_lower (Kd.S_alloc h2 _) (by have := HBL.out; have := HBF.out; omega)) (fun _ _ => trivial)
      · exact below_alloc (below_set (below_set HB.out HBL.out) (by have := HBL.out; have := HBF.out; omega)) _
    · obtain ⟨h, l2, rfl⟩ : ∃ h l2, l' = h :: l2 := by
        cases l' with
        | nil => exact absurd rfl h0
        | cons h l2 => exact ⟨h, l2, rfl⟩
      clear h0
      have p0 : (((h :: l2).length : Int) > 0) = True := eq_true (by simp only [List.length_cons]; omega)
      have p00 : ((0 : Int) < ((h :: l2).length : Int)) = True := eq_true (by simp only [List.length_cons]; omega)
      cases l2 with
      | nil =>
        have HRS := Lib.hid (rdRes_none (HP.out.symm.trans rd_lone))
        go_wp2_with fail
        refine (take_none A' c' _ 2 _ (by simp)).mono ?_
        rintro e w' ⟨rfl, rfl⟩
        go_wp2_with fail
        refine read_panic rfl rfl HL.out HF.out HNE.out ⟨_, by rw [HRS.out], by rw [HRS.out]; exact Kd.S_nil _ _ _ _ _, ?_⟩
        exact below_set (below_set (below_alloc HB.out _) HBL.out) (by have := HBL.out; have := HBF.out; omega)
      | cons n r =>
        obtain ⟨m, rfl⟩ : ∃ m : Nat, n = m := Int.eq_ofNat_of_zero_le (HBY'.out n (by simp)).1
        have hm255 : (m : Int) ≤ 255 := (HBY'.out m (by simp)).2
        have hh := HBY'.out h (by simp)
        obtain ⟨ad, rfl, x0⟩ := Kd.at_int HC'.out 0 (by omega) (by simp only [List.length_cons]; omega)
        obtain ⟨ad2, e2, x1⟩ := Kd.at_int HC'.out 1 (by omega) (by simp only [List.length_cons]; omega)
        cases e2
        have x0w : w.cell? ad = some (.int .u8 h) := x0
        replace x0 := (HB.out.cell (World.block_lt_of_cell? w _ x0)).trans x0
        replace x1 := (HB.out.cell (World.block_lt_of_cell? w _ x1)).trans x1
        have HC2 := Kd.C_drop (c := c') (m := 2) HC'.out (by simp) hc'
        rw [show (Kd.int .u8).sz = 1 from rfl, Nat.mul_one] at HC2
        change (Kd.int .u8).C w _ r.length r at HC2
        obtain ⟨nn, hnn⟩ : ∃ nn, nn = (h :: (m : Int) :: r).length := ⟨_, rfl⟩
        have hnr : nn = r.length + 2 := hnn
        obtain ⟨B2, hB2⟩ : ∃ B, B = (if c' = 2 then some ad else (some ad).map (·.add 2)) := ⟨_, rfl⟩
        obtain ⟨c2, hc2⟩ : ∃ c2, c2 = c' - 2 := ⟨_, rfl⟩
        rw [← hB2] at HC2
        rw [← hnn] at hc' hl1 hl2 p0 p00 ⊢
        have T1 := take_some (some ad) c' nn 2 wr (by omega) hc' (by omega)
        rw [← hB2, ← hc2, show nn - 2 = r.length from by omega] at T1
        have HT1 := Lib.hid T1
        have x0'' : wr.cell? ad = some (.int .u8 h) := x0
        have x1' : wr.cell? ⟨ad.block, ad.off + 1, none⟩ = some (.int .u8 (m : Int)) := x1
        have HX := Lib.hid x0w
        have e5 : IntKind.i64.wrap (m : Int) = (m : Int) := IntWalk.i64_in _ (by omega)
        have e6 : IntKind.i64.wrap h = h := IntWalk.i64_in _ (by omega)
        have HCR := Lib.hid HC2
        have hrc : r.length ≤ c2 := by omega
        have HNR := Lib.hid hnr
        have hrl : r.length < 1099511627776 := by omega
        have p1 : (0 < nn) = True := eq_true (by omega)
        clear x0w x0 x1 HC' T1 HC2 hB2 hc2 hnn hnr
        by_cases hmr : m ≤ r.length
        · have T2 := take_some B2 c2 r.length m wr.drew (by omega) hrc (by omega)
          obtain ⟨B3, hB3⟩ : ∃ B, B = (if c2 = m then B2 else B2.map (·.add m)) := ⟨_, rfl⟩
          obtain ⟨c3, hc3⟩ : ∃ c3, c3 = c2 - m := ⟨_, rfl⟩
          obtain ⟨r3, hr3⟩ : ∃ r3, r3 = r.drop m := ⟨_, rfl⟩
          obtain ⟨d3, hd3⟩ : ∃ d3, d3 = r.take m := ⟨_, rfl⟩
          have hr3l : r3.length = r.length - m := by rw [hr3, List.length_drop]
          have hd3l : d3.length = m := by rw [hd3, List.length_take]; omega
          rw [← hB3, ← hc3, ← hr3l] at T2
          have C3 := Kd.C_drop (c := c2) (m := m) HCR.out hmr hrc
          rw [show (Kd.int .u8).sz = 1 from rfl, Nat.mul_one, ← hB3, ← hr3] at C3
          have C4 := Kd.C_take (m := m) HCR.out hmr
          rw [← hd3] at C4
          have HC3 := Lib.hid C3
          have HC4 := Lib.hid C4
          have HR3 := Lib.hid hr3
          have HD3 := Lib.hid hd3
          have HR3L := Lib.hid hr3l
          have HD3L := Lib.hid hd3l
          have HT2 := Lib.hid T2
          have hc3' : r3.length ≤ c3 := by omega
          clear T2 hB3 hc3 hr3 hd3 hr3l hd3l C3 C4
          by_cases hz : h = 0
          · subst hz
            have q1 : ((0 : Int) == 0) = true := rfl
            have HRS := Lib.hid (rdRes_none (HP.out.symm.trans (rd_stop (by simp))))
            go_wp2_with fail
            refine HT1.out.mono ?_
            rintro e w' ⟨rfl, rfl⟩
            go_wp2_with fail
            refine HT2.out.mono ?_
            rintro e w' ⟨rfl, rfl⟩
            go_wp2_with fail
            refine read_ret (A := none) (n := 0) (c := 0) (b := false) rfl rfl (blk_drew (blk_drew (boxed_far (HL.out.set _) (Ne.symm HNE.out) _))) (blk_drew (blk_drew ((boxed_far HF.out HNE.out _).set _))) ⟨_, by rw [HRS.out], by rw [HRS.out]; exact Kd.S_nil _ _ _ _ _, ?_⟩
            exact below_alloc (below_drew1 (below_drew1 (below_set (below_set HB.out HBL.out) (by have := HBL.out; have := HBF.out; omega)))) _
          · have q1 : (h == 0) = false := beq_eq_false_iff_ne.2 hz
            have HP2 : Hid (rdL r3 (acc ++ [⟨h, d3⟩]) = rdL l []) := by
              show _ = _
              rw [← HP.out, rd_step (by simpa using hmr) hz, HR3.out, HD3.out, Int.toNat_natCast]
            have HCL : Hid (∀ W, Below w.heap.size w W → Calls Try.prog 31 #[.slice B2 m c2] W fun e w' => ∃ v0_ : Value, e = .returned v0_ ∧ Kd.R (Kd.int .u8) 5 w' W.heap.size (fun _ => True) v0_ d3 ∧ Below W.heap.size W w') := by
              intro W hb
              have := clone_calls B2 c2 d3 W (Kd.C_below HC4.out hb) (by have := HD3L.out; omega) (by have := HD3L.out; omega)
              rwa [HD3L.out] at this
            clear hz
            go_wp2_with fail
            refine HT1.out.mono ?_
            rintro e w' ⟨rfl, rfl⟩
            go_wp2_with fail
            refine HT2.out.mono ?_
            rintro e w' ⟨rfl, rfl⟩
            go_wp2_with fail
            obtain ⟨w3, hw3⟩ : ∃ W, wr.drew.drew = W := ⟨_, rfl⟩
            have hb3 : Below wr.heap.size wr w3 := by rw [← hw3]; exact below_drew (below_drew (Below.refl _ _))
            have HV3 := Lib.hid (Kd.S_below HV.out hb3)
            have HL3 : Hid (Boxed w3 bl 26 (.slice Av acc.length cv)) := (hb3.block bl HL.out.lt).trans HL.out
            have HF3 : Hid (Boxed w3 bf 4 (.bool false)) := (hb3.block bf HF.out.lt).trans HF.out
            have HB3 := Lib.hid (HB.out.trans (hb3.mono HB.out.size))
            rw [hw3]
            clear hw3 hb3 y1 z1 y2 z2 y3 x0'' x1' HV HL HF HB HT1 HT2
            have y1 := HL3.out.cell
            have y2 := pw_cell_below HB3.out HX.out
            refine start_ (n := 11) (S := fun w' => w'.cell? ⟨bl, 0, none⟩ = some (.slice Av acc.length cv) ∧ w'.cell? ad = some (.int .u8 h)) (ds := [10]) #[false, false, false, false, false, false, false, false, false, false, false] (by kernel_rfl) rfl rfl ⟨y1, y2⟩ (fun hHeld => ?_)
            obtain ⟨W2, hW2⟩ : ∃ W2, w3.drew = W2 := ⟨_, rfl⟩
            have hbw : Below w3.heap.size w3 W2 := by rw [← hW2]; exact below_drew (Below.refl _ _)
            rw [hW2] at hHeld ⊢
            clear hW2 y1 y2
            have HVW := Lib.hid (Kd.S_below HV3.out hbw)
            have HLW : Hid (Boxed W2 bl 26 (.slice Av acc.length cv)) := (hbw.block bl HL3.out.lt).trans HL3.out
            have HFW : Hid (Boxed W2 bf 4 (.bool false)) := (hbw.block bf HF3.out.lt).trans HF3.out
            have HBW := Lib.hid (HB3.out.trans (hbw.mono HB3.out.size))
            clear hbw HV3 HL3 HF3 HB3
            refine pure_ (i := 1) (N := some 29) (v := ?_) (a' := ?_) #[false, true, false, false, false, false, false, false, false, false, false] rfl rfl (by kernel_rfl) (put_quiet 29 (by decide) (by decide)) (Or.inl ⟨by rfl, ?_⟩) ?_ ?_
            rotate_left
            · intro w'
              go_simp
              with_reducible rfl
            rotate_left
            · simp only [Act.put, List.setIfInBounds_toArray, List.set_cons_zero, List.set_cons_succ, i64_w, i32_w]
              rfl
            refine pure_ (i := 2) (N := some 30) (v := ?_) (a' := ?_) #[false, true, true, false, false, false, false, false, false, false, false] rfl rfl (by kernel_rfl) (put_quiet 30 (by decide) (by decide)) (Or.inl ⟨by rfl, ?_⟩) ?_ ?_
            rotate_left
            · intro w'
              go_simp
              with_reducible rfl
            rotate_left
            · simp only [Act.put, List.setIfInBounds_toArray, List.set_cons_zero, List.set_cons_succ, i64_w, i32_w]
              rfl
            refine pure_ (i := 5) (N := some 33) (v := ?_) (a' := ?_) #[false, true, true, false, false, true, false, false, false, false, false] rfl rfl (by kernel_rfl) (put_quiet 33 (by decide) (by decide)) (Or.inl ⟨by rfl, ?_⟩) ?_ ?_
            rotate_left
            · intro w'
              go_simp
              with_reducible rfl
            rotate_left
            · simp only [Act.put, List.setIfInBounds_toArray, List.set_cons_zero, List.set_cons_succ, i64_w, i32_w]
              rfl
            refine take_ (i := 0) (N := some 28) (v := .slice Av acc.length cv) (a' := ?_) #[true, true, true, false, false, true, false, false, false, false, false] rfl rfl (by kernel_rfl) (put_quiet 28 (by decide) (by decide)) (Or.inl ⟨by rfl, ?_⟩) hHeld ?_ ?_
            · rintro w' ⟨s0, s1⟩
              go_simp
              try (with_reducible rfl)
            rotate_left
            · simp only [Act.put, List.setIfInBounds_toArray, List.set_cons_zero, List.set_cons_succ, i64_w, i32_w]
              rfl
            refine take_ (i := 3) (N := some 31) (v := .int .u8 h) (a' := ?_) #[true, true, true, true, false, true, false, false, false, false, false] rfl rfl (by kernel_rfl) (put_quiet 31 (by decide) (by decide)) (Or.inl ⟨by rfl, ?_⟩) hHeld ?_ ?_
            · rintro w' ⟨s0, s1⟩
              go_simp
              try (with_reducible rfl)
            rotate_left
            · simp only [Act.put, List.setIfInBounds_toArray, List.set_cons_zero, List.set_cons_succ, i64_w, i32_w]
              rfl
            refine pure_ (i := 4) (N := some 32) (v := .int .i64 h) (a' := ?_) #[true, true, true, true, true, true, false, false, false, false, false] rfl rfl (by kernel_rfl) (put_quiet 32 (by decide) (by decide)) (Or.inl ⟨by rfl, ?_⟩) ?_ ?_
            · intro w'
              go_simp
              try (with_reducible rfl)
            rotate_left
            · simp only [Act.put, List.setIfInBounds_toArray, List.set_cons_zero, List.set_cons_succ, i64_w, i32_w]
              rfl
            refine one_ (i := 6) (N := some 34) #[true, true, true, true, true, true, true, false, false, false, false] rfl rfl (by kernel_rfl) (by decide) (fun K hK => ?_)
            refine goes_ Try.func31 (by kernel_rfl) rfl #[.slice B2 m c2] (by rfl) rfl rfl (by (try simp only [List.map_toArray, List.map_cons, List.map_nil]); rfl) ?_
            refine (HCL.out _ HBW.out).mono ?_
            rintro e w6 ⟨v6, rfl, hv6, hb6⟩
            obtain ⟨A6, c6, rfl⟩ := Kd.R_slice hv6
            have HV6 := Lib.hid (Kd.S_old HVW.out hb6)
            have HR6 := Lib.hid hv6
            have HW6 := Lib.hid hb6
            clear hv6 hb6 hHeld
            refine ⟨_, rfl, ?_⟩
            refine hK.out _ _ ⟨pw_cell_below HW6.out HLW.out.cell, pw_cell_below (HBW.out.trans (HW6.out.mono HBW.out.size)) HX.out⟩ (fun hHeld => ?_)
            clear hK K
            try (refine norm_ (a' := ?_) ?_ ?_; rotate_left; focus (simp only [Act.put, List.setIfInBounds_toArray, List.set_cons_zero, List.set_cons_succ, i64_w, i32_w]; rfl))
            refine pure_ (i := 7) (N := some 35) (v := ?_) (a' := ?_) #[true, true, true, true, true, true, true, true, false, false, false] rfl rfl (by kernel_rfl) (put_quiet 35 (by decide) (by decide)) (Or.inl ⟨by rfl, ?_⟩) ?_ ?_
            rotate_left
            · intro w'
              go_simp
              with_reducible rfl
            rotate_left
            · simp only [Act.put, List.setIfInBounds_toArray, List.set_cons_zero, List.set_cons_succ, i64_w, i32_w]
              rfl
            refine one_ (i := 8) (N := some 36) #[true, true, true, true, true, true, true, true, true, false, false] rfl rfl (by kernel_rfl) (by decide) (fun K hK => ?_)
            go_simp
            clear hHeld
            refine hK.out _ _ ⟨pw_cell_below (HW6.out.trans ((below_alloc (Below.refl _ _) _).mono HW6.out.size)) HLW.out.cell, pw_cell_below (below_alloc (HBW.out.trans (HW6.out.mono HBW.out.size)) _) HX.out⟩ (fun hHeld => ?_)
            clear hK K
            try (refine norm_ (a' := ?_) ?_ ?_; rotate_left; focus (simp only [Act.put, List.setIfInBounds_toArray, List.set_cons_zero, List.set_cons_succ, i64_w, i32_w]; rfl))
            refine one_ (i := 9) (N := some 37) #[true, true, true, true, true, true, true, true, true, true, false] rfl rfl (by kernel_rfl) (by decide) (fun K hK => ?_)
            have hsz : bf + 1 ≤ W2.heap.size := HFW.out.lt
            refine Kd.S_append_step k48 (w0 := W2) (bf + 1) (by rfl) (.tmp 28) (.tmp 36) 26 48 (.agg #[.int .i64 0, .slice none 0 0]) 32 rfl Try.underlying26 rinfo rfl (by decide) (by omega) (.slice Av acc.length cv) acc (⟨h, d3⟩ : OptR) [.int .i64 h, .slice A6 d3.length c6] (fun _ => True) (fun k_ => some k_ = (.slice A6 d3.length c6 : Value).ownBlock) rfl rfl ?aP ?aQ (fun _ _ => trivial) ?aO (HW6.out.mono hsz) (Nat.le_trans hsz HW6.out.size) ?aL ?_
            case aP => exact k48_mkM _ _ _ (⟨h, d3⟩ : OptR) (Kd.R_tight rfl (Kd.R_lower HR6.out hsz))
            case aQ => exact fun k hk => ⟨trivial, fun e => by have h1 := Kd.R_base HR6.out k hk.symm; have h2 := Kd.S_lt HVW.out k e.symm; omega⟩
            case aO => exact Kd.S_mono HV6.out (fun k hk => ⟨trivial, fun e => by have h1 := Kd.R_base HR6.out k e.symm; have h2 := hk.2; omega⟩)
            case aL => omega
            intro v9 w9 ho9 hb9 _ _
            obtain ⟨A9, c9, rfl⟩ := Kd.S_slice ho9
            have HL9 : Hid (Boxed w9 bl 26 (.slice Av acc.length cv)) := (hb9.block bl (by have := HBF.out; omega)).trans HLW.out
            have HF9 : Hid (Boxed w9 bf 4 (.bool false)) := (hb9.block bf (by omega)).trans HFW.out
            have HB9 := Lib.hid (HBW.out.trans (hb9.mono (by have := HBF.out; have := HBL.out; omega)))
            have HV9 := Lib.hid ho9
            clear ho9 hb9 hsz hHeld HV6 HR6 HW6 HVW HLW HFW HBW
            refine hK.out _ _ ⟨HL9.out.cell, pw_cell_below HB9.out HX.out⟩ (fun hHeld => ?_)
            clear hK K
            refine norm_ (a' := ?_) ?_ ?_
            rotate_left
            · show Act.put _ (some 37) _ = _
              simp only [Act.put, List.setIfInBounds_toArray, List.set_cons_zero, List.set_cons_succ, i64_w, i32_w]
              rfl
            have y9 := HL9.out.cell
            have z9 := HL9.out.frozen
            refine last_ (i := 10) (N := none) #[true, true, true, true, true, true, true, true, true, true, true] rfl rfl (by kernel_rfl) (by decide) (fun K hK => ?_)
            go_simp
            refine hK.out _ _ ?_
            clear hK K y9 z9 hHeld
            try (refine norm_ (a' := ?_) ?_ ?_; rotate_left; focus (simp only [Act.put, List.setIfInBounds_toArray, List.set_cons_zero, List.set_cons_succ, i64_w, i32_w]; rfl))
            refine done_ (by kernel_rfl) ?_
            have HV9' := HV9.out
            rw [show (acc ++ [(⟨h, d3⟩ : OptR)]).length = acc.length + 1 from by simp] at HV9'
            obtain ⟨v9, hv9⟩ : ∃ v9, (Value.slice A9 (acc.length + 1) c9) = v9 := ⟨_, rfl⟩
            rw [hv9] at HV9' ⊢
            clear hv9 HV9
            have HV9 := Lib.hid HV9'
            clear HV9'
            have HL10 : Hid (Boxed (w9.setCell ⟨bl, 0, none⟩ v9) bl 26 v9) := HL9.out.set v9
            have HF10 : Hid (Boxed (w9.setCell ⟨bl, 0, none⟩ v9) bf 4 (.bool false)) := boxed_far HF9.out HNE.out v9
            have HB10 := Lib.hid (below_set (v := v9) (j := 0) HB9.out HBL.out)
            have HV10 : Hid (Kd.S k48 48 (w9.setCell ⟨bl, 0, none⟩ v9) (bf + 1) (fun _ => True) v9 (acc ++ [⟨h, d3⟩])) :=
              Kd.S_mono (Kd.S_far (Kd.S_mono (ok' := fun k => bf < k) (Kd.S_bound HV9.out) (fun k hk => by have := hk.2.1; omega)) (p := ⟨bl, 0, none⟩) (fun k hk => by have := HBF.out; show k ≠ bl; omega) v9) (fun _ _ => trivial)
            have HBY3 : Hid (∀ x ∈ r3, 0 ≤ x ∧ x ≤ 255) := fun x hx => HBY'.out x (by rw [HR3.out] at hx; exact List.mem_cons_of_mem _ (List.mem_cons_of_mem _ (List.mem_of_mem_drop hx)))
            go_roundw
            case rel =>
              have h1 := HR3L.out
              have h2 := HNR.out
              first
                | exact ⟨r3, acc ++ [⟨h, d3⟩], v9, B3, c3, rfl, hc3', by omega, by simp only [List.length_append, List.length_singleton]; omega, HBY3, HP2, HC3, HV10, HL10, HF10, HB10⟩
                | ((repeat apply Exists.intro); exact ⟨⟨r3, acc ++ [⟨h, d3⟩], v9, B3, c3, rfl, hc3', by omega, by simp only [List.length_append, List.length_singleton]; omega, HBY3, HP2, HC3, HV10, HL10, HF10, HB10⟩, rfl⟩)
            case measure =>
              have h1 := HR3L.out
              have h2 := HNR.out
              simp [lenOfV]; omega
        · have HRS := Lib.hid (rdRes_none (HP.out.symm.trans (rd_stop (by simp; omega))))
          go_wp2_with fail
          refine HT1.out.mono ?_
          rintro e w' ⟨rfl, rfl⟩
          go_wp2_with fail
          refine (take_none B2 c2 r.length m _ (by omega)).mono ?_
          rintro e w' ⟨rfl, rfl⟩
          go_wp2_with fail
          refine read_panic rfl rfl (W := wr.drew) (blk_drew HL.out) (blk_drew HF.out) HNE.out ⟨_, by rw [HRS.out], by rw [HRS.out]; exact Kd.S_nil _ _ _ _ _, ?_⟩
          exact below_set (below_set (below_alloc (below_drew1 HB.out) _) HBL.out) (by have := HBL.out; have := HBF.out; omega)

end Go.Proofs.Ytnkajghemggaaaa
end

section
namespace Go.Proofs.Ytnkajghemggaaaa
open Go.RowKit Go.Proofs.Ytnkajghemggaaaa.Pr Go.Proofs.YtnkajghemggaaaaW.PrintWords Go.Proofs.YtnkajghemggaaaaW.PrintLast Go.Proofs.YtnkajghemggaaaaW.PrintMore
attribute [local go_sem] max2_int min2_int max_two min_two max_three min_three max_four min_four
set_option linter.unusedVariables false
set_option linter.unusedSimpArgs false

/-- What Decode hands back. -/
def rlDec (l : List Int) : List OptR × Int := if (rdRes l).2 = true ∧ l.length ≤ 255 then ((rdRes l).1, 0) else ([], 2)
def relay_Decode.f (l0 : List Int) : Option (List OptR × Int) := if (∀ x ∈ l0, 0 ≤ x ∧ x ≤ 255) ∧ l0.length < 1099511627776 then some (rlDec l0) else none
set_option maxHeartbeats 2000000 in
set_option maxRecDepth 100000 in
theorem relay_Decode.calls (A0 : Option Addr) (c0 : Nat) (l0 : List Int) (r1 : List OptR) (r2 : Int) (w : World) (hr0 : Kd.C (Kd.int .u8) w A0 l0.length l0) (hc0 : l0.length ≤ c0) (h : relay_Decode.f l0 = some (r1, r2)) :
    Calls Try.prog 15 #[.slice A0 l0.length c0] w fun e w' => ∃ v0_ : Value, e = .returned (.tuple #[v0_, .int .i64 r2]) ∧ Kd.S k48 48 w' w.heap.size (fun _ => True) v0_ r1 ∧ Below w.heap.size w w' := by
  unfold relay_Decode.f at h
  split at h
  case isFalse => cases h
  rename_i hcond
  have HR := read_calls A0 c0 l0 w hr0 hc0 hcond.1 hcond.2
  have HD : Hid (rlDec l0 = (r1, r2)) := Option.some.inj h
  clear h hr0 hcond
  obtain ⟨ls, b, hls⟩ : ∃ ls b, rdRes l0 = (ls, b) := ⟨_, _, rfl⟩
  unfold rlDec at HD
  rw [hls] at HR HD
  have HRR := Lib.hid HR
  clear hls HR
  cases b with
  | false =>
    obtain ⟨rfl, rfl⟩ := Prod.mk.inj (show (([] : List OptR), (2 : Int)) = (r1, r2) by have := HD.out; simpa using this)
    go_enter Try.func15, Try.ntmps15
    go_wp2_with fail
    refine HRR.out.mono ?_
    rintro e w' ⟨v, rfl, hs, hb⟩
    have HB := Lib.hid hb
    clear hs hb
    go_wp2_with fail
    go_ret2
    exact ⟨_, rfl, Kd.S_nil _ _ _ _ _, HB.out⟩
  | true =>
    by_cases hl : l0.length ≤ 255
    · obtain ⟨rfl, rfl⟩ := Prod.mk.inj (show (ls, (0 : Int)) = (r1, r2) by have := HD.out; simpa [hl] using this)
      have p1 : ((l0.length : Int) > 255) = False := eq_false (by omega)
      have p2 : ((255 : Int) < (l0.length : Int)) = False := eq_false (by omega)
      have p3 : (255 < l0.length) = False := eq_false (by omega)
      go_enter Try.func15, Try.ntmps15
      go_wp2_with fail
      refine HRR.out.mono ?_
      rintro e w' ⟨v, rfl, hs, hb⟩
      have HB := Lib.hid hb
      have HS := Lib.hid hs
      clear hs hb
      go_wp2_with fail
      go_ret2
      exact ⟨_, rfl, HS.out, HB.out⟩
    · obtain ⟨rfl, rfl⟩ := Prod.mk.inj (show (([] : List OptR), (2 : Int)) = (r1, r2) by have := HD.out; simpa [hl] using this)
      have p1 : ((l0.length : Int) > 255) = True := eq_true (by omega)
      have p2 : ((255 : Int) < (l0.length : Int)) = True := eq_true (by omega)
      have p3 : (255 < l0.length) = True := eq_true (by omega)
      go_enter Try.func15, Try.ntmps15
      go_wp2_with fail
      refine HRR.out.mono ?_
      rintro e w' ⟨v, rfl, hs, hb⟩
      have HB := Lib.hid hb
      clear hs hb
      go_wp2_with fail
      go_ret2
      exact ⟨_, rfl, Kd.S_nil _ _ _ _ _, HB.out⟩
end Go.Proofs.Ytnkajghemggaaaa
end

section
namespace Go.Proofs.Ytnkajghemggaaaa.PL
open Go.RowKit Go.Proofs.Ytnkajghemggaaaa Go.Proofs.Ytnkajghemggaaaa.Pr Go.Proofs.YtnkajghemggaaaaW.PrintWords Go.Proofs.YtnkajghemggaaaaW.PrintLast Go.Proofs.YtnkajghemggaaaaW.PrintMore
set_option linter.unusedVariables false
set_option linter.unusedSimpArgs false

abbrev Opt := S48
theorem wrapO {x : Int} (h0 : 0 ≤ x) (h1 : x < 9223372036854775808) : wrap64 x = x := by unfold wrap64; omega
theorem rd_at (l : List Opt) {i : Nat} (h : i < l.length) : rd_T48 l (i : Int) = l[i] := by
  unfold rd_T48
  rw [Int.toNat_natCast, List.getD_eq_getElem?_getD, List.getElem?_eq_getElem h]
  rfl

def okOpt (x : Opt) : Prop := 1 ≤ x.f0 ∧ x.f0 ≤ 255 ∧ x.f1.length ≤ 253
instance (x : Opt) : Decidable (okOpt x) := by unfold okOpt; infer_instance
def enc1 (x : Opt) : List Int := [x.f0 % 256, (x.f1.length : Int) % 256] ++ x.f1
def enc (l : List Opt) : List Int := (l.map enc1).flatten
def encR (l : List Opt) : List Int × Int := if l ≠ [] ∧ ∀ x ∈ l, okOpt x then (if 255 < (enc l).length then ([], 3) else (enc l, 0)) else ([], 1)
def fewR (l : List Opt) : Prop := l.length ≤ 1000 ∧ ∀ x ∈ l, x.f1.length ≤ 1000
def few (l : List Opt) : Prop := l.length ≤ 100 ∧ ∀ x ∈ l, x.f1.length ≤ 1000
theorem enc_append (l m : List Opt) : enc (l ++ m) = enc l ++ enc m := by simp [enc]
theorem enc_one (x : Opt) : enc [x] = enc1 x := by simp [enc]
theorem enc1_len (x : Opt) : (enc1 x).length = x.f1.length + 2 := by simp [enc1]
theorem enc_len_le : ∀ (l : List Opt), (∀ x ∈ l, x.f1.length ≤ 1000) → (enc l).length ≤ l.length * 1002 := by
  intro l
  induction l with
  | nil => intro _; simp [enc]
  | cons x l ih =>
    intro h
    have h1 := ih (fun y hy => h y (by simp [hy]))
    have h2 := h x (by simp)
    have e : enc (x :: l) = enc1 x ++ enc l := by simp [enc]
    rw [e, List.length_append, enc1_len, List.length_cons]
    omega
theorem enc_take_le (l : List Opt) (i : Nat) : (enc (l.take i)).length ≤ (enc l).length := by
  have : enc l = enc (l.take i) ++ enc (l.drop i) := by rw [← enc_append, List.take_append_drop]
  rw [this, List.length_append]; omega

/-! ### option.Encode -/
theorem odd_eq (x : Opt) : relay_Encode_1.f x.f0 x.f1 = some (!decide (okOpt x)) := by
  unfold relay_Encode_1.f
  by_cases ok : okOpt x
  · rw [decide_eq_true ok]
    unfold okOpt at ok
    rw [if_neg (by omega), if_neg (by omega), decide_eq_false (by omega)]
    rfl
  · rw [decide_eq_false ok]
    unfold okOpt at ok
    split
    · rfl
    · split
      · rfl
      · rw [decide_eq_true (by omega)]
        rfl
theorem index_spec (l : List Opt) (hl : l.length ≤ 1000000) : ∀ (d i k : Nat), l.length ≤ i + d → i ≤ l.length → d < k →
    ∃ r : Int, slices_IndexFunc.l0 k l (l.length : Int) (i : Int) = some r ∧ ((0 ≤ r ∧ ∃ x ∈ l.drop i, ¬ okOpt x) ∨ (r < 0 ∧ ∀ x ∈ l.drop i, okOpt x)) := by
  intro d
  induction d with
  | zero =>
    intro i k h1 h2 hk
    obtain ⟨k, rfl⟩ : ∃ m, k = m + 1 := ⟨k - 1, by omega⟩
    refine ⟨-1, ?_, .inr ⟨by omega, ?_⟩⟩
    · simp only [slices_IndexFunc.l0]; rw [if_neg (by omega)]
    · rw [List.drop_of_length_le (by omega)]; simp
  | succ d ih =>
    intro i k h1 h2 hk
    obtain ⟨k, rfl⟩ : ∃ m, k = m + 1 := ⟨k - 1, by omega⟩
    by_cases h : i < l.length
    · simp only [slices_IndexFunc.l0]
      rw [if_pos (by omega), if_pos (by omega), if_pos (by omega), rd_at l h, odd_eq]
      simp only [Option.bind_some]
      rw [List.drop_eq_getElem_cons h]
      by_cases ok : okOpt l[i]
      · rw [decide_eq_true ok, wrapO (by omega) (by omega)]
        obtain ⟨r, hr, hs⟩ := ih (i + 1) k (by omega) (by omega) (by omega)
        refine ⟨r, by simpa using (show slices_IndexFunc.l0 k l (l.length : Int) ((i : Int) + 1) = some r from hr), ?_⟩
        rcases hs with ⟨a, x, hx, b⟩ | ⟨a, b⟩
        · exact .inl ⟨a, x, List.mem_cons_of_mem _ hx, b⟩
        · exact .inr ⟨a, fun x hx => by
            rcases List.mem_cons.1 hx with rfl | hx
            · exact ok
            · exact b x hx⟩
      · rw [decide_eq_false ok]
        exact ⟨i, by simp, .inl ⟨by omega, l[i], List.mem_cons_self, ok⟩⟩
    · refine ⟨-1, ?_, .inr ⟨by omega, ?_⟩⟩
      · simp only [slices_IndexFunc.l0]; rw [if_neg (by omega)]
      · rw [List.drop_of_length_le (by omega)]; simp
theorem contains_eq (l : List Opt) (hl : l.length ≤ 1000000) (a : Int) (k : Nat) (hk : l.length < k) : slices_ContainsFunc.f k l a = some (!decide (∀ x ∈ l, okOpt x)) := by
  obtain ⟨r, hr, hs⟩ := index_spec l hl l.length 0 k (by omega) (by omega) hk
  unfold slices_ContainsFunc.f slices_IndexFunc.f
  rw [show ((0 : Nat) : Int) = 0 from rfl] at hr
  rw [hr]
  simp only [Option.bind_some]
  rw [List.drop_zero] at hs
  rcases hs with ⟨h1, x, hx, h2⟩ | ⟨h1, h2⟩
  · rw [decide_eq_true (by omega), decide_eq_false (fun h => h2 (h x hx))]; rfl
  · rw [decide_eq_false (by omega), decide_eq_true h2]; rfl
theorem encode_loop (l : List Opt) (hf : fewR l) : ∀ (d i k : Nat), l.length ≤ i + d → i ≤ l.length → d < k →
    relay_Encode.l0 k (enc (l.take i)) l (l.length : Int) (i : Int) = some (if 255 < (enc l).length then ([], 3) else (enc l, 0)) := by
  obtain ⟨hn, hx⟩ := hf
  have hel := enc_len_le l hx
  have hel' : (enc l).length ≤ 1002000 := by omega
  have fin : ∀ k, relay_Encode.l0 (k + 1) (enc l) l (l.length : Int) (l.length : Int) = some (if 255 < (enc l).length then ([], 3) else (enc l, 0)) := by
    intro k
    simp only [relay_Encode.l0]
    rw [if_neg (by omega)]
    by_cases c : 255 < (enc l).length
    · rw [if_pos (by omega), if_pos c]
    · rw [if_neg (by omega), if_neg c]
  intro d
  induction d with
  | zero =>
    intro i k h1 h2 hk
    obtain ⟨k, rfl⟩ : ∃ m, k = m + 1 := ⟨k - 1, by omega⟩
    obtain rfl : i = l.length := by omega
    rw [List.take_length]
    exact fin k
  | succ d ih =>
    intro i k h1 h2 hk
    obtain ⟨k, rfl⟩ : ∃ m, k = m + 1 := ⟨k - 1, by omega⟩
    by_cases h : i < l.length
    · simp only [relay_Encode.l0]
      have ht := enc_take_le l i
      have ht1 := enc_take_le l (i + 1)
      have hx1 := hx l[i] (List.getElem_mem h)
      rw [if_pos (by omega), if_pos (by omega), if_pos (by omega), rd_at l h]
      simp only [Option.bind_some]
      rw [if_pos (by simp; omega), if_pos (by simp; omega), wrapO (by omega) (by omega)]
      have e : enc (l.take i) ++ [l[i].f0 % 256, (l[i].f1.length : Int) % 256] ++ l[i].f1 = enc (l.take (i + 1)) := by
        rw [List.take_succ_eq_append_getElem h, enc_append, enc_one, enc1, List.append_assoc]
      rw [e]
      exact ih (i + 1) k (by omega) (by omega) (by omega)
    · obtain rfl : i = l.length := by omega
      rw [List.take_length]
      exact fin k
theorem encode_eq (l : List Opt) (hf : fewR l) (k : Nat) (hk : 1002 ≤ k) : relay_Encode.f k l = some (encR l) := by
  have hn := hf.1
  obtain ⟨k, rfl⟩ : ∃ m, k = m + 1 := ⟨k - 1, by omega⟩
  unfold relay_Encode.f encR
  by_cases e : l = []
  · subst e
    simp [relay_Encode.j0]
  · have hl : l.length ≠ 0 := fun h => e (List.eq_nil_of_length_eq_zero h)
    rw [if_neg (by omega), contains_eq l (by omega) _ (k + 1) (by omega)]
    simp only [Option.bind_some, relay_Encode.j0]
    by_cases ok : ∀ x ∈ l, okOpt x
    · rw [decide_eq_true ok, if_neg (by decide), if_pos ⟨e, ok⟩]
      exact encode_loop l hf l.length 0 k (by omega) (by omega) (by omega)
    · rw [decide_eq_false ok, if_pos (by decide), if_neg (fun h => ok h.2)]

/-! ### few -/
theorem few_loop (l : List Opt) (hl : l.length ≤ 100) : ∀ (d i k : Nat), l.length ≤ i + d → i ≤ l.length → d < k →
    lessorref02_Few.l0 k l (i : Int) = some (decide (∀ x ∈ l.drop i, x.f1.length ≤ 1000)) := by
  intro d
  induction d with
  | zero =>
    intro i k h1 h2 hk
    obtain ⟨k, rfl⟩ : ∃ m, k = m + 1 := ⟨k - 1, by omega⟩
    simp only [lessorref02_Few.l0]
    rw [if_neg (by omega), List.drop_of_length_le (by omega)]
    simp
  | succ d ih =>
    intro i k h1 h2 hk
    obtain ⟨k, rfl⟩ : ∃ m, k = m + 1 := ⟨k - 1, by omega⟩
    by_cases h : i < l.length
    · simp only [lessorref02_Few.l0]
      rw [if_pos (by omega), if_pos (by omega), rd_at l h, List.drop_eq_getElem_cons h]
      by_cases c : (l[i].f1.length : Int) > 1000
      · rw [if_pos c, decide_eq_false (fun hh => by have := hh l[i] List.mem_cons_self; omega)]
      · rw [if_neg c, wrapO (by omega) (by omega)]
        have := ih (i + 1) k (by omega) (by omega) (by omega)
        rw [show ((i : Int) + 1) = ((i + 1 : Nat) : Int) from rfl, this]
        congr 1
        rw [decide_eq_decide]
        constructor
        · intro hh x hx
          rcases List.mem_cons.1 hx with rfl | hx
          · omega
          · exact hh x hx
        · intro hh x hx; exact hh x (List.mem_cons_of_mem _ hx)
    · simp only [lessorref02_Few.l0]
      rw [if_neg (by omega), List.drop_of_length_le (by omega)]
      simp
theorem few_eq (l : List Opt) (k : Nat) (hk : 101 ≤ k) : ∃ b : Bool, lessorref02_Few.f k l = some b ∧ (b = true ↔ few l) := by
  unfold lessorref02_Few.f few
  by_cases c : (l.length : Int) > 100
  · rw [if_pos c]; exact ⟨false, rfl, by simp; omega⟩
  · rw [if_neg c]
    have := few_loop l (by omega) l.length 0 k (by omega) (by omega) (by omega)
    rw [show ((0 : Nat) : Int) = 0 from rfl, List.drop_zero] at this
    refine ⟨_, this, ?_⟩
    rw [decide_eq_true_iff]
    exact ⟨fun h => ⟨by omega, h⟩, fun h => h.2⟩

/-! ### the same lists -/
theorem same_loop (l : List Opt) (hl : l.length ≤ 1000000) : ∀ (d i k : Nat), l.length ≤ i + d → i ≤ l.length → d < k → lessorref02_Same.l0 k l l (i : Int) = some true := by
  intro d
  induction d with
  | zero =>
    intro i k h1 h2 hk
    obtain ⟨k, rfl⟩ : ∃ m, k = m + 1 := ⟨k - 1, by omega⟩
    simp only [lessorref02_Same.l0]
    rw [if_neg (by omega)]
  | succ d ih =>
    intro i k h1 h2 hk
    obtain ⟨k, rfl⟩ : ∃ m, k = m + 1 := ⟨k - 1, by omega⟩
    by_cases h : i < l.length
    · simp only [lessorref02_Same.l0]
      rw [if_pos (by omega), if_pos (by omega), if_pos (by omega)]
      simp only [if_true]
      rw [show wrap64 ((i : Int) + 1) = ((i + 1 : Nat) : Int) from by unfold wrap64; omega]
      exact ih (i + 1) k (by omega) (by omega) (by omega)
    · obtain rfl : i = l.length := by omega
      simp only [lessorref02_Same.l0]
      rw [if_neg (by omega)]
theorem same_refl (l : List Opt) (hl : l.length ≤ 1000000) (k : Nat) (hk : l.length < k) : lessorref02_Same.f k l l = some true := by
  unfold lessorref02_Same.f
  rw [if_pos rfl]
  exact same_loop l hl l.length 0 k (by omega) (by omega) hk
/-! ### Decode -/
theorem rd_of {l : List Int} {i : Nat} (h : i < l.length) : rd l (i : Int) = l[i] := by
  unfold rd
  rw [Int.toNat_natCast, List.getD_eq_getElem?_getD, List.getElem?_eq_getElem h]
  rfl
theorem rdL_ne {l : List Int} : ∀ (n : Nat) (acc r : List Opt), l.length ≤ n → rdL l acc = some r → acc.length ≤ r.length ∧ (l ≠ [] → acc.length < r.length) := by
  intro n
  induction n generalizing l with
  | zero =>
    intro acc r hl h
    obtain rfl : l = [] := List.eq_nil_of_length_eq_zero (by omega)
    unfold rdL at h
    obtain rfl := Option.some.inj h
    exact ⟨Nat.le_refl _, fun h => absurd rfl h⟩
  | succ n ih =>
    intro acc r hl h
    match l, hl, h with
    | [], _, h =>
      unfold rdL at h
      obtain rfl := Option.some.inj h
      exact ⟨Nat.le_refl _, fun h => absurd rfl h⟩
    | [x], _, h => rw [rd_lone] at h; cases h
    | x :: m :: s, hl, h =>
      by_cases c : m.toNat ≤ s.length ∧ x ≠ 0
      · rw [rd_step c.1 c.2] at h
        have := (ih _ _ (by simp only [List.length_drop, List.length_cons] at hl ⊢; omega) h).1
        simp only [List.length_append, List.length_singleton] at this
        exact ⟨by omega, fun _ => by omega⟩
      · rw [rd_stop c] at h; cases h
def decR (l : List Int) : List Opt × Int := match rdL l [] with | some r => if l ≠ [] ∧ l.length ≤ 255 then (r, 0) else ([], 2) | none => ([], 2)
theorem rlDec_eq (l : List Int) : rlDec l = decR l := by
  unfold rlDec decR
  cases h : rdL l [] with
  | none => rw [rdRes_none h]; simp
  | some r =>
    rw [rdRes_some h]
    have h1 := rdL_ne _ _ _ (Nat.le_refl _) h
    by_cases e : l = []
    · subst e
      unfold rdL at h
      obtain rfl := Option.some.inj h
      simp
    · have h2 := h1.2 e
      simp only [List.length_nil] at h2
      simp [h2, e]
theorem decode_eq (l : List Int) (hb : ∀ x ∈ l, 0 ≤ x ∧ x ≤ 255) (hl : l.length < 1099511627776) : relay_Decode.f l = some (decR l) := by
  unfold relay_Decode.f
  rw [if_pos ⟨hb, hl⟩, rlDec_eq]
/-! ### back -/
theorem rdL_enc (l : List Opt) (ok : ∀ x ∈ l, okOpt x) : ∀ (acc : List Opt), rdL (enc l) acc = some (acc ++ l) := by
  induction l with
  | nil => intro acc; show rdL [] acc = _; rw [rdL, List.append_nil]
  | cons x l ih =>
    intro acc
    obtain ⟨h1, h2, h3⟩ := ok x (by simp)
    have e : enc (x :: l) = x.f0 :: (x.f1.length : Int) :: (x.f1 ++ enc l) := by
      show enc1 x ++ enc l = _
      unfold enc1
      rw [Int.emod_eq_of_lt (by omega) (by omega), Int.emod_eq_of_lt (by omega) (by omega)]
      rfl
    rw [e, rd_step (by simp) (by omega), Int.toNat_natCast, List.drop_left, List.take_left, ih (fun y hy => ok y (by simp [hy]))]
    simp
theorem enc_rdL : ∀ (n : Nat) (l : List Int) (acc r : List Opt), l.length ≤ n → (∀ x ∈ l, 0 ≤ x ∧ x ≤ 255) → l.length ≤ 255 → rdL l acc = some r → ∃ m, r = acc ++ m ∧ enc m = l ∧ (∀ x ∈ m, okOpt x) := by
  intro n
  induction n with
  | zero =>
    intro l acc r hl hb h5 h
    obtain rfl : l = [] := List.eq_nil_of_length_eq_zero (by omega)
    rw [rdL] at h
    obtain rfl := Option.some.inj h
    exact ⟨[], by simp, rfl, by simp⟩
  | succ n ih =>
    intro l acc r hl hb h5 h
    match l, hl, hb, h5, h with
    | [], _, _, _, h =>
      rw [rdL] at h
      obtain rfl := Option.some.inj h
      exact ⟨[], by simp, rfl, by simp⟩
    | [x], _, _, _, h => rw [rd_lone] at h; cases h
    | x :: q :: s, hl, hb, h5, h =>
      by_cases c : q.toNat ≤ s.length ∧ x ≠ 0
      · rw [rd_step c.1 c.2] at h
        simp only [List.length_cons] at hl h5
        have hx := hb x (by simp)
        have hq := hb q (by simp)
        obtain ⟨m, e1, e2, e3⟩ := ih (s.drop q.toNat) _ _ (by rw [List.length_drop]; omega) (fun y hy => hb y (List.mem_cons_of_mem _ (List.mem_cons_of_mem _ (List.mem_of_mem_drop hy)))) (by rw [List.length_drop]; omega) h
        have hlen : (s.take q.toNat).length = q.toNat := by rw [List.length_take]; omega
        refine ⟨⟨x, s.take q.toNat⟩ :: m, by rw [e1]; simp, ?_, ?_⟩
        · show enc1 _ ++ enc m = _
          rw [e2]
          unfold enc1
          show [x % 256, ((s.take q.toNat).length : Int) % 256] ++ s.take q.toNat ++ s.drop q.toNat = _
          rw [hlen, List.append_assoc, List.take_append_drop, Int.emod_eq_of_lt (by omega) (by omega), Int.emod_eq_of_lt (by omega) (by omega), Int.toNat_of_nonneg hq.1]
          rfl
        · intro y hy
          rcases List.mem_cons.1 hy with rfl | hy
          · refine ⟨?_, hx.2, ?_⟩
            · show 1 ≤ x; have := c.2; omega
            · show (s.take q.toNat).length ≤ 253; omega
          · exact e3 y hy
      · rw [rd_stop c] at h; cases h
theorem enc_bytes (l : List Opt) (hb : ∀ x ∈ l, ∀ y ∈ x.f1, 0 ≤ y ∧ y ≤ 255) : ∀ y ∈ enc l, 0 ≤ y ∧ y ≤ 255 := by
  intro y hy
  unfold enc at hy
  obtain ⟨z, hz, hyz⟩ := List.mem_flatten.1 hy
  obtain ⟨x, hx, rfl⟩ := List.mem_map.1 hz
  unfold enc1 at hyz
  simp only [List.mem_append, List.mem_cons, List.not_mem_nil, or_false] at hyz
  rcases hyz with (rfl | rfl) | h
  · omega
  · omega
  · exact hb x hx y h

theorem enc_ne {l : List Opt} (h : l ≠ []) : enc l ≠ [] := by
  cases l with
  | nil => exact absurd rfl h
  | cons x l => intro e; have : (enc (x :: l)).length = 0 := by rw [e]; rfl
                have e2 : enc (x :: l) = enc1 x ++ enc l := by simp [enc]
                rw [e2, List.length_append, enc1_len] at this; omega
theorem enc_len_ge (l : List Opt) : l.length * 2 ≤ (enc l).length ∧ ∀ x ∈ l, x.f1.length ≤ (enc l).length := by
  induction l with
  | nil => exact ⟨by simp, by simp⟩
  | cons x l ih =>
    have e2 : enc (x :: l) = enc1 x ++ enc l := by simp [enc]
    rw [e2, List.length_append, enc1_len, List.length_cons]
    refine ⟨by omega, fun y hy => ?_⟩
    rcases List.mem_cons.1 hy with rfl | hy
    · omega
    · have := ih.2 y hy; omega
theorem decR_cases (b : List Int) (hb : ∀ x ∈ b, 0 ≤ x ∧ x ≤ 255) : (∃ m, decR b = (m, 0) ∧ enc m = b ∧ (∀ x ∈ m, okOpt x) ∧ m ≠ [] ∧ b.length ≤ 255) ∨ decR b = ([], 2) := by
  unfold decR
  cases h : rdL b [] with
  | none => exact .inr rfl
  | some r =>
    by_cases c : b ≠ [] ∧ b.length ≤ 255
    · obtain ⟨m, e1, e2, e3⟩ := enc_rdL _ b [] r (Nat.le_refl _) hb c.2 h
      rw [List.nil_append] at e1
      subst e1
      refine .inl ⟨r, by simp [c], e2, e3, ?_, c.2⟩
      rintro rfl
      exact c.1 e2.symm
    · exact .inr (by simp only; rw [if_neg c])
theorem dec_few {m : List Opt} {b : List Int} (e : enc m = b) (_ : ∀ x ∈ m, okOpt x) (h : b.length ≤ 255) : fewR m := by
  have h1 := enc_len_ge m
  rw [e] at h1
  exact ⟨by omega, fun x hx => by have := h1.2 x hx; omega⟩
theorem rdL_len {l : List Int} : ∀ (n : Nat) (acc r : List Opt), l.length ≤ n → rdL l acc = some r → r.length ≤ acc.length + l.length := by
  intro n
  induction n generalizing l with
  | zero =>
    intro acc r hl h
    obtain rfl : l = [] := List.eq_nil_of_length_eq_zero (by omega)
    unfold rdL at h
    obtain rfl := Option.some.inj h
    simp
  | succ n ih =>
    intro acc r hl h
    match l, hl, h with
    | [], _, h =>
      unfold rdL at h
      obtain rfl := Option.some.inj h
      simp
    | [x], _, h => rw [rd_lone] at h; cases h
    | x :: m :: s, hl, h =>
      by_cases c : m.toNat ≤ s.length ∧ x ≠ 0
      · rw [rd_step c.1 c.2] at h
        have := ih _ _ (by simp only [List.length_drop, List.length_cons] at hl ⊢; omega) h
        simp only [List.length_append, List.length_singleton, List.length_drop, List.length_cons, List.length_nil] at this ⊢
        omega
      · rw [rd_stop c] at h; cases h
theorem decR_len (b : List Int) : (decR b).1.length ≤ 255 := by
  unfold decR
  cases h : rdL b [] with
  | none => simp
  | some r =>
    have := rdL_len _ _ _ (Nat.le_refl _) h
    simp only
    split
    · simp at this ⊢; omega
    · simp
theorem wf_byte {x : Int} (h : (Lit.int .u8 x).wf = true) : 0 ≤ x ∧ x ≤ 255 := by
  simp only [Lit.wf, IntKind.min, IntKind.max, IntKind.signed, IntKind.bits, Bool.and_eq_true, decide_eq_true_eq] at h
  have h1 : (IntKind.u8.min : Int) = 0 := rfl
  have h2 : (IntKind.u8.max : Int) = 255 := rfl
  first | exact h | (simp_all; done) | (simp_all; omega)
theorem opt_bytes {x : Opt} (h : (Lit.int .i64 x.f0).wf = true ∧ (x.f1.length ≤ maxLen ∧ ∀ y ∈ x.f1, (Lit.int .u8 y).wf = true)) : ∀ y ∈ x.f1, 0 ≤ y ∧ y ≤ 255 := fun y hy => wf_byte (h.2.2 y hy)

end Go.Proofs.Ytnkajghemggaaaa.PL
end

section
namespace Go.Proofs.Ytnkajghemggaaaa
open Go.RowKit Go.Proofs.Ytnkajghemggaaaa.Pr Go.Proofs.YtnkajghemggaaaaW.PrintWords Go.Proofs.YtnkajghemggaaaaW.PrintLast Go.Proofs.YtnkajghemggaaaaW.PrintMore
set_option linter.unusedVariables false
set_option linter.unusedSimpArgs false

/-! ### what a put makes -/
theorem opPut_nil (code : Int) (data : List Int) : opPut [] code data = [⟨code, data⟩] := by simp [opPut, ixOf]
theorem opPut_cons (y : OptF) (l : List OptF) (code : Int) (data : List Int) : opPut (y :: l) code data = if y.f0 = code then ⟨code, data⟩ :: l.filter (fun x => !(x.f0 == code)) else y :: opPut l code data := by
  by_cases h : y.f0 = code
  · have e : ixOf (fun x : OptF => x.f0 == code) (y :: l) = 0 := by
      unfold ixOf
      rw [List.findIdx_cons]
      simp [h]
    rw [if_pos h]
    unfold opPut
    rw [e, if_pos (by decide)]
    simp
  · rw [if_neg h]
    have hb : (y.f0 == code) = false := beq_eq_false_iff_ne.2 h
    unfold opPut ixOf
    rw [List.findIdx_cons]
    simp only [hb, cond_false, List.length_cons]
    by_cases hlt : l.findIdx (fun x => x.f0 == code) < l.length
    · rw [if_pos (by omega), if_pos hlt, if_pos (by omega), if_pos (by omega)]
      rw [show ((l.findIdx (fun x => x.f0 == code) + 1 : Nat) : Int).toNat = l.findIdx (fun x => x.f0 == code) + 1 from by omega, Int.toNat_natCast]
      simp
    · rw [if_neg (by omega), if_neg hlt, if_neg (by decide)]
      simp
def notA (a : Int) (l : List OptF) : List OptF := l.filter (fun x => !(x.f0 == a))
def howA (a : Int) (l : List OptF) : Nat := (l.filter (fun x => x.f0 == a)).length
theorem put_others (a : Int) (data : List Int) : ∀ l : List OptF, notA a (opPut l a data) = notA a l
  | [] => by simp [notA, opPut_nil]
  | y :: l => by
    rw [opPut_cons]
    have ih := put_others a data l
    unfold notA at ih ⊢
    by_cases h : y.f0 = a
    · rw [if_pos h]; simp [h]
    · rw [if_neg h]; simp [h, ih]
theorem put_once (a : Int) (data : List Int) : ∀ l : List OptF, howA a (opPut l a data) = 1
  | [] => by simp [howA, opPut_nil]
  | y :: l => by
    rw [opPut_cons]
    have ih := put_once a data l
    unfold howA at ih ⊢
    by_cases h : y.f0 = a
    · rw [if_pos h]
      simp [List.filter_filter]
    · rw [if_neg h]; simp [h, ih]
theorem put_found (a : Int) (data : List Int) : ∀ l : List OptF, opFind (opPut l a data) a = (data, true)
  | [] => by simp [opFind, opPut_nil]
  | y :: l => by
    rw [opPut_cons]
    have ih := put_found a data l
    unfold opFind at ih ⊢
    by_cases h : y.f0 = a
    · rw [if_pos h]; simp
    · rw [if_neg h, List.find?_cons, show (y.f0 == a) = false from beq_eq_false_iff_ne.2 h]; exact ih
theorem find_filter (a b : Int) (h : b ≠ a) : ∀ l : List OptF, (l.filter (fun x => !(x.f0 == a))).find? (fun x => x.f0 == b) = l.find? (fun x => x.f0 == b)
  | [] => rfl
  | y :: l => by
    have ih := find_filter a b h l
    by_cases h1 : y.f0 = a
    · have e1 : (y.f0 == a) = true := beq_iff_eq.2 h1
      have e2 : (y.f0 == b) = false := beq_eq_false_iff_ne.2 (by rw [h1]; exact Ne.symm h)
      simp [e1, e2, ih]
    · have e1 : (y.f0 == a) = false := beq_eq_false_iff_ne.2 h1
      rw [List.filter_cons_of_pos (by simp [h1]), List.find?_cons, List.find?_cons, ih]
theorem put_other (a b : Int) (h : b ≠ a) (data : List Int) : ∀ l : List OptF, opFind (opPut l a data) b = opFind l b := by
  have key : ∀ l : List OptF, (opPut l a data).find? (fun x => x.f0 == b) = l.find? (fun x => x.f0 == b) := by
    intro l
    have hb : (a == b) = false := beq_eq_false_iff_ne.2 (Ne.symm h)
    induction l with
    | nil => rw [opPut_nil, List.find?_cons]; simp [hb]
    | cons y l ih =>
      rw [opPut_cons]
      by_cases h1 : y.f0 = a
      · rw [if_pos h1, List.find?_cons, List.find?_cons, find_filter a b h]
        simp [h1, hb]
      · rw [if_neg h1, List.find?_cons, List.find?_cons, ih]
  intro l
  unfold opFind
  rw [key]
theorem put_bytes {l : List OptF} {code : Int} {data : List Int} (hl : ∀ x ∈ l, x.f1.length ≤ 1000) (hd : data.length ≤ 1000) : ∀ x ∈ opPut l code data, x.f1.length ≤ 1000 := by
  intro x hx
  unfold opPut at hx
  split at hx
  · rcases List.mem_append.1 hx with hx | hx
    · rcases List.mem_append.1 hx with hx | hx
      · exact hl x (List.mem_of_mem_take hx)
      · rw [List.mem_singleton.1 hx]; exact hd
    · exact hl x (List.mem_of_mem_drop (List.mem_filter.1 hx).1)
  · rcases List.mem_append.1 hx with hx | hx
    · exact hl x hx
    · rw [List.mem_singleton.1 hx]; exact hd

end Go.Proofs.Ytnkajghemggaaaa
end

section
namespace Go.Proofs.Ytnkajghemggaaaa
open Go.RowKit Go.Proofs.Ytnkajghemggaaaa.Pr Go.Proofs.YtnkajghemggaaaaW.PrintWords Go.Proofs.YtnkajghemggaaaaW.PrintLast Go.Proofs.YtnkajghemggaaaaW.PrintMore
set_option linter.unusedVariables false
set_option linter.unusedSimpArgs false

/-- A packet, as it is told. -/
abbrev PkT := Int × Int × Int × Int × Int × Int × Int × Int × List Int × List OptF × Int
abbrev pkNo (e : Int) : PkT := (0, 0, 0, 0, 0, 0, 0, 0, [], [], e)
def fewP (l8 : List Int) (l9 : List OptF) : Prop := l8.length < 1000 ∧ l9.length ≤ 199 ∧ ∀ x ∈ l9, x.f1.length ≤ 1000
instance (l8 : List Int) (l9 : List OptF) : Decidable (fewP l8 l9) := by unfold fewP; infer_instance
instance (l : List OptF) : Decidable (PL.few l) := by unfold PL.few; infer_instance
theorem fewP_po {l8 : List Int} {l9 : List OptF} (h : fewP l8 l9) : PO.few l9 := ⟨by have := h.2.1; omega, h.2.2⟩
theorem encT_len (l : List OptF) : (PL.encR l).1.length ≤ 255 := by
  unfold PL.encR
  split
  · split
    · simp
    · simp only; omega
  · simp
theorem opPut_len (l : List OptF) (code : Int) (d : List Int) : (opPut l code d).length ≤ l.length + 1 := by
  induction l with
  | nil => rw [opPut_nil]; simp
  | cons y l ih =>
    rw [opPut_cons]
    split
    · have := List.length_filter_le (fun x : OptF => !(x.f0 == code)) l
      simp only [List.length_cons]; omega
    · simp only [List.length_cons]; omega
def addR (a0 a1 a2 a3 a4 a5 a6 a7 : Int) (l8 : List Int) (l9 : List OptF) (by_ : Int) (l : List OptF) : PkT :=
  if PP.okPk a0 a2 a3 l8 l9 ∧ a0 = 1 ∧ by_ ≠ 0 then
    if (opFind l9 82).2 = true then pkNo 5 else
    if (PL.encR l).2 = 0 then
      if PP.okPk a0 a2 a3 l8 (opPut l9 82 (PL.encR l).1) then (a0, a1, a2, a3, a4, a5, a6, if a7 = 0 then by_ else a7, l8, opPut l9 82 (PL.encR l).1, 0) else pkNo 3
    else pkNo (PL.encR l).2
  else pkNo 1
def relay_Add.f (a0 a1 a2 a3 a4 a5 a6 a7 : Int) (l8 : List Int) (l9 : List OptF) (by_ : Int) (l : List OptF) : Option PkT := if fewP l8 l9 ∧ PL.few l then some (addR a0 a1 a2 a3 a4 a5 a6 a7 l8 l9 by_ l) else none
/-- packet.Right, as Add asks it. -/
theorem rightC (a0 a1 a2 a3 a4 a5 a6 a7 : Int) (A8 : Option Addr) (c8 : Nat) (l8 : List Int) (A9 : Option Addr) (c9 : Nat) (l9 : List OptF) (w : World) (h8 : (Kd.int .u8).C w A8 l8.length l8) (hc8 : l8.length ≤ c8) (h9 : Kd.C k48 w A9 l9.length l9) (hc9 : l9.length ≤ c9) (hf : PO.few l9) (rt : Bool) (hrt : rt = decide (PP.okPk a0 a2 a3 l8 l9)) :
    Calls Try.prog 28 #[pkV a0 a1 a2 a3 a4 a5 a6 a7 (.slice A8 l8.length c8) (.slice A9 l9.length c9)] w fun e w' => e = .returned (.bool rt) ∧ Below w.heap.size w w' :=
  packet_Right.calls 210 a0 a1 a2 a3 a4 a5 a6 a7 A8 c8 l8 A9 c9 l9 rt w h8 hc8 h9 hc9 (by rw [PP.right_eq _ _ _ _ _ _ _ _ _ _ hf 210 (Nat.le_refl _), hrt])
theorem relay_Add.calls (a0_0 a0_1 a0_2 a0_3 a0_4 a0_5 a0_6 a0_7 : Int) (A0_8 : Option Addr) (c0_8 : Nat) (l0_8 : List Int) (P0_9_ : Nat → Prop) (A0_9 : Option Addr) (c0_9 : Nat) (l0_9 : List OptF) (a1 : Int) (A2 : Option Addr) (cc2 : Nat) (l2 : List OptF) (r1 r2 r3 r4 r5 r6 r7 r8 : Int) (r9 : List Int) (r10 : List OptF) (r11 : Int) (w : World)
    (hr0_8 : (Kd.int .u8).C w A0_8 l0_8.length l0_8) (hc0_8 : l0_8.length ≤ c0_8) (hs0_9 : Kd.V k48 48 w w.heap.size (fun k_ => P0_9_ k_) (.slice A0_9 l0_9.length c0_9) l0_9) (hr2 : Kd.C k48 w A2 l2.length l2) (hc2 : l2.length ≤ cc2)
    (h : relay_Add.f a0_0 a0_1 a0_2 a0_3 a0_4 a0_5 a0_6 a0_7 l0_8 l0_9 a1 l2 = some (r1, r2, r3, r4, r5, r6, r7, r8, r9, r10, r11)) :
    Calls Try.prog 18 #[.agg #[.int .i64 a0_0, .int .u32 a0_1, .int .i64 a0_2, .int .i64 a0_3, .int .u32 a0_4, .int .u32 a0_5, .int .u32 a0_6, .int .u32 a0_7, .slice A0_8 l0_8.length c0_8, .slice A0_9 l0_9.length c0_9], .int .u32 a1, .slice A2 l2.length cc2] w fun e w' =>
      ∃ v8_ v9_ : Value, e = .returned (.tuple #[.agg #[.int .i64 r1, .int .u32 r2, .int .i64 r3, .int .i64 r4, .int .u32 r5, .int .u32 r6, .int .u32 r7, .int .u32 r8, v8_, v9_], .int .i64 r11]) ∧ Kd.R (Kd.int .u8) 5 w' w.heap.size (fun _ => True) v8_ r9 ∧
        Kd.N k48 48 w' w.heap.size (fun k_ => (P0_9_ k_ ∨ w.heap.size ≤ k_) ∧ some k_ ≠ v8_.ownBlock) v9_ r10 ∧ Below w.heap.size w w' := by
  unfold relay_Add.f at h
  split at h
  case isFalse => cases h
  rename_i hcond
  obtain ⟨hfp, hfl⟩ := hcond
  have h := Option.some.inj h
  obtain ⟨_, hc9, hC9⟩ := Kd.V_reads' hs0_9
  have hl9 : ∀ x ∈ l0_9, x.f1.length < 140737488355328 := fun x hx => by have := hfp.2.2 x hx; omega
  have bad : ∀ (z : Int) {e : Ending} {w' : World}, e = .returned (.tuple #[.agg pkNil, .int .i64 z]) ∧ Below w.heap.size w w' → pkNo z = (r1, r2, r3, r4, r5, r6, r7, r8, r9, r10, r11) →
      ∃ v8_ v9_ : Value, e = .returned (.tuple #[.agg #[.int .i64 r1, .int .u32 r2, .int .i64 r3, .int .i64 r4, .int .u32 r5, .int .u32 r6, .int .u32 r7, .int .u32 r8, v8_, v9_], .int .i64 r11]) ∧ Kd.R (Kd.int .u8) 5 w' w.heap.size (fun _ => True) v8_ r9 ∧
        Kd.N k48 48 w' w.heap.size (fun k_ => (P0_9_ k_ ∨ w.heap.size ≤ k_) ∧ some k_ ≠ v8_.ownBlock) v9_ r10 ∧ Below w.heap.size w w' := by
    rintro z e w' ⟨he, hb⟩ hz
    simp only [pkNo, Prod.mk.injEq] at hz
    obtain ⟨rfl, rfl, rfl, rfl, rfl, rfl, rfl, rfl, rfl, rfl, rfl⟩ := hz
    exact ⟨_, _, he, Kd.R_nil _ _ _ _ _, Kd.N_nil _ _ _ _ _, hb⟩
  have hR : ∀ (rt : Bool), rt = decide (PP.okPk a0_0 a0_2 a0_3 l0_8 l0_9) → ∀ W, Below w.heap.size w W → Calls Try.prog 28 #[pkV a0_0 a0_1 a0_2 a0_3 a0_4 a0_5 a0_6 a0_7 (.slice A0_8 l0_8.length c0_8) (.slice A0_9 l0_9.length c0_9)] W fun e w' => e = .returned (.bool rt) ∧ Below W.heap.size W w' :=
    fun rt hrt W hW => rightC _ _ _ _ _ _ _ _ _ _ _ _ _ _ W (Kd.C_below hr0_8 hW) hc0_8 (Kd.C_below hC9 hW) hc9 (fewP_po hfp) rt hrt
  unfold addR at h
  by_cases c1 : PP.okPk a0_0 a0_2 a0_3 l0_8 l0_9 ∧ a0_0 = 1 ∧ a1 ≠ 0
  case neg =>
    rw [if_neg c1] at h
    refine (add_arg a0_0 a0_1 a0_2 a0_3 a0_4 a0_5 a0_6 a0_7 A0_8 _ c0_8 A0_9 _ c0_9 a1 A2 _ cc2 _ w (hR _ rfl) (fun hn => c1 ⟨of_decide_eq_true hn.1, hn.2⟩)).mono ?_
    exact fun e w' he => bad 1 he h
  rw [if_pos c1] at h
  have hRt := hR true (decide_eq_true c1.1).symm
  by_cases c2 : (opFind l0_9 82).2 = true
  · rw [if_pos c2] at h
    refine (add_there a0_0 a0_1 a0_2 a0_3 a0_4 a0_5 a0_6 a0_7 A0_8 _ c0_8 A0_9 c0_9 l0_9 a1 A2 _ cc2 w hRt c1.2.1 c1.2.2 hC9 hc9 hl9 c2).mono ?_
    exact fun e w' he => bad 5 he h
  rw [if_neg c2] at h
  have c2' : (opFind l0_9 82).2 = false := by simpa using c2
  have hE : ∀ (z : Int), (PL.encR l2).2 = z → ∀ W, Below w.heap.size w W → Calls Try.prog 13 #[.slice A2 l2.length cc2] W fun e w' => ∃ v, e = .returned (.tuple #[v, .int .i64 z]) ∧ (Kd.int .u8).R 5 w' W.heap.size (fun _ => True) v (PL.encR l2).1 ∧ Below W.heap.size W w' :=
    fun z hz W hW => relay_Encode.calls 1002 A2 _ l2 (PL.encR l2).1 z W (Kd.C_below hr2 hW) hc2 (by rw [PL.encode_eq l2 ⟨by have := hfl.1; omega, hfl.2⟩ 1002 (Nat.le_refl _), ← hz])
  by_cases c3 : (PL.encR l2).2 = 0
  case neg =>
    rw [if_neg c3] at h
    refine (add_bad a0_0 a0_1 a0_2 a0_3 a0_4 a0_5 a0_6 a0_7 A0_8 _ c0_8 A0_9 c0_9 l0_9 a1 A2 _ _ (PL.encR l2).1 (PL.encR l2).2 w hRt c1.2.1 c1.2.2 hC9 hc9 hl9 c2' (hE _ rfl) c3).mono ?_
    exact fun e w' he => bad _ he h
  rw [if_pos c3] at h
  have hlen := opPut_len l0_9 82 (PL.encR l2).1
  have hel := encT_len l2
  have hpo : PO.few (opPut l0_9 82 (PL.encR l2).1) := ⟨by have := hfp.2.1; omega, put_bytes hfp.2.2 (by omega)⟩
  refine (add_main P0_9_ a0_0 a0_1 a0_2 a0_3 a0_4 a0_5 a0_6 a0_7 A0_8 c0_8 l0_8 A0_9 c0_9 l0_9 a1 A2 _ _ (PL.encR l2).1 (decide (PP.okPk a0_0 a0_2 a0_3 l0_8 (opPut l0_9 82 (PL.encR l2).1))) w hRt c1.2.1 c1.2.2 (Kd.V_F hs0_9) hc9 hl9 c2' (hE 0 c3) hr0_8 hc0_8 (by have := hfp.1; omega) (by have := hfp.2.1; omega) (by omega) ?_).mono ?_
  · exact fun W A8' c8' A9' c9' hW h8 hc8 h9 hc9' => rightC _ _ _ _ _ _ _ _ _ _ _ _ _ _ W h8 hc8 h9 hc9' hpo _ rfl
  intro e w' he
  by_cases c4 : PP.okPk a0_0 a0_2 a0_3 l0_8 (opPut l0_9 82 (PL.encR l2).1)
  · rw [if_pos c4] at h
    rw [if_pos (decide_eq_true c4)] at he
    simp only [Prod.mk.injEq] at h
    obtain ⟨rfl, rfl, rfl, rfl, rfl, rfl, rfl, rfl, rfl, rfl, rfl⟩ := h
    obtain ⟨A8', c8', A9', c9', rfl, h1, h2, h3⟩ := he
    exact ⟨_, _, rfl, h1, h2, h3⟩
  · rw [if_neg c4] at h
    rw [if_neg (by simpa using c4)] at he
    exact bad 3 he h
end Go.Proofs.Ytnkajghemggaaaa
end
