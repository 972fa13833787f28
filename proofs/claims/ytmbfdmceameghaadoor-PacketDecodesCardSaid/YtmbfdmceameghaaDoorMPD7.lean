/-
  Printed: PrF30.
  Printed: PrF31.
-/
import Derived.Test.YtmbfdmceameghaaDoorMPD2
import Derived.Test.YtmbfdmceameghaaDoorMPD6

section
-- written by a program of this session (wip/tools/gen.py) over the kit's print
namespace Go.Proofs.YtmbfdmceameghaaDoor.Pr
open Go.RowKit Go.Proofs.YtmbfdmceameghaaDoorW.PrintWords Go.Proofs.YtmbfdmceameghaaDoorW.PrintLast Go.Proofs.YtmbfdmceameghaaDoorW.PrintMore
attribute [local go_sem] max2_int min2_int max_two min_two max_three min_three max_four min_four   -- for this text's walks alone
set_option linter.unusedVariables false
set_option linter.unusedSimpArgs false

/-! ### lessorref03_Right: function 30 -/
def lessorref03_Right.f (k : Nat) (a0_0 : Int) (a0_1 : Int) (a0_2 : Int) (a0_3 : Int) (a0_4 : Int) (a0_5 : Int) (a0_6 : Int) (a0_7 : Int) (l0_8 : List Int) (l0_9 : List (S39)) : Option (Bool) := if a0_0 = 1 then (if a0_2 < 0 then (some false) else (if a0_2 > 65535 then (some false) else (if a0_3 < 0 then (some false) else (if a0_3 > 65535 then (some false) else (if (l0_8.length : Int) < 1 then (some false) else (if (l0_8.length : Int) > 16 then (some false) else ((lessorref02_Encode.f k l0_9).bind fun bt157 => (some (bt157.2 == 0))))))))) else (if a0_0 = 2 then (if a0_2 < 0 then (some false) else (if a0_2 > 65535 then (some false) else (if a0_3 < 0 then (some false) else (if a0_3 > 65535 then (some false) else (if (l0_8.length : Int) < 1 then (some false) else (if (l0_8.length : Int) > 16 then (some false) else ((lessorref02_Encode.f k l0_9).bind fun bt161 => (some (bt161.2 == 0))))))))) else (some false))
theorem lessorref03_Right.mono : ∀ a0 a1 a2 a3 a4 a5 a6 a7 a8 a9 k, LeO (lessorref03_Right.f k a0 a1 a2 a3 a4 a5 a6 a7 a8 a9) (lessorref03_Right.f (k + 1) a0 a1 a2 a3 a4 a5 a6 a7 a8 a9) := by
 intro a0 a1 a2 a3 a4 a5 a6 a7 a8 a9 k
 unfold lessorref03_Right.f
 repeat' first
   | (with_reducible exact lessorref02_Encode.mono _ _)
   | (with_reducible exact LeO.refl _)
   | (with_reducible exact LeO.none _)
   | (with_reducible refine LeO.ite ?_ ?_)
   | (with_reducible refine LeO.bind ?_ (fun _ => ?_))
   | exact lessorref02_Encode.mono _ _
   | exact LeO.none _
   | refine LeO.ite ?_ ?_
   | refine LeO.bind ?_ (fun _ => ?_)
set_option maxHeartbeats 8000000 in
set_option maxRecDepth 100000 in
theorem lessorref03_Right.calls (k : Nat) (a0_0 : Int) (a0_1 : Int) (a0_2 : Int) (a0_3 : Int) (a0_4 : Int) (a0_5 : Int) (a0_6 : Int) (a0_7 : Int) (A0_8 : Option Addr) (c0_8 : Nat) (l0_8 : List Int) (A0_9 : Option Addr) (c0_9 : Nat) (l0_9 : List (S39)) (r : Bool) (w : World) (hr0_8 : Kd.C (Kd.int .u8) w A0_8 l0_8.length l0_8) (hc0_8 : l0_8.length ≤ c0_8) (hr0_9 : Kd.C k39 w A0_9 l0_9.length l0_9) (hc0_9 : l0_9.length ≤ c0_9) (h : lessorref03_Right.f k a0_0 a0_1 a0_2 a0_3 a0_4 a0_5 a0_6 a0_7 l0_8 l0_9 = some r) :
  Calls Tryd.prog 30 #[.agg #[.int .i64 a0_0, .int .u32 a0_1, .int .i64 a0_2, .int .i64 a0_3, .int .u32 a0_4, .int .u32 a0_5, .int .u32 a0_6, .int .u32 a0_7, .slice A0_8 l0_8.length c0_8, .slice A0_9 l0_9.length c0_9]] w fun e w' => e = .returned (.bool r) ∧ Below w.heap.size w w' := by
 have hu28 := Tryd.underlying28
 have HR0_8 := Aside0.mk hr0_8
 have HC0_8 := Aside0.mk hc0_8
 clear hr0_8 hc0_8
 have HR0_9 := Aside0.mk hr0_9
 have HC0_9 := Aside0.mk hc0_9
 clear hr0_9 hc0_9
 have HB := Aside0.mk (Below.refl w.heap.size w)
 have H : (if a0_0 = 1 then (if a0_2 < 0 then (some false) else (if a0_2 > 65535 then (some false) else (if a0_3 < 0 then (some false) else (if a0_3 > 65535 then (some false) else (if (l0_8.length : Int) < 1 then (some false) else (if (l0_8.length : Int) > 16 then (some false) else ((lessorref02_Encode.f k l0_9).bind fun bt157 => (some (bt157.2 == 0))))))))) else (if a0_0 = 2 then (if a0_2 < 0 then (some false) else (if a0_2 > 65535 then (some false) else (if a0_3 < 0 then (some false) else (if a0_3 > 65535 then (some false) else (if (l0_8.length : Int) < 1 then (some false) else (if (l0_8.length : Int) > 16 then (some false) else ((lessorref02_Encode.f k l0_9).bind fun bt161 => (some (bt161.2 == 0))))))))) else (some false))) = some r := h
 clear h
 by_cases c2 : a0_0 = 1
 ·rw [if_pos c2] at H
  have c2b0 : (a0_0 == 1) = true := beq_iff_eq.mpr c2
  have c2b1 : (a0_0 != 1) = false := bne_eq_false_iff_eq.mpr c2
  clear c2
  by_cases c3 : a0_2 < 0
  ·rw [if_pos c3] at H
   have c3b0 : decide (a0_2 < 0) = true := decide_eq_true c3
   clear c3
   obtain rfl := Option.some.inj H
   go_enter Tryd.func30, Tryd.ntmps30
   go_wp2_with (first | ((with_reducible refine gate_dst (N := 1) rfl ?_); (try (refine gate_guard (by rfl) ?_; dsimp only)); refine box_event ?hg_1 (N := 1) ?hd_1 (cs := #[.int .i64 a0_0, .int .u32 a0_1, .int .i64 a0_2, .int .i64 a0_3, .int .u32 a0_4, .int .u32 a0_5, .int .u32 a0_6, .int .u32 a0_7, .slice A0_8 l0_8.length c0_8, .slice A0_9 l0_9.length c0_9]) (t := 28) ?hr_1 ?_; (case hd_1 => rfl); (case hg_1 => rfl); (case hr_1 => first | (go_simp; done) | (go_simp; rfl)); intro gb156 hg w4 hbox hb; have n0_ := Aside0.mk (below_step (by repeat (first | (with_reducible first | exact HB.out | apply below_alloc | apply pw_below_drewN | apply below_drew1) | exact HB.out)) hb); have n1_ := Aside0.mk (hbox); have n2_ := Aside0.mk ((by rw [hg]; exact (below_size (by repeat (first | (with_reducible first | exact HB.out | apply below_alloc | apply pw_below_drewN | apply below_drew1) | exact HB.out))) : w.heap.size ≤ gb156)); have n3_ := Aside0.mk ((by rw [hg]; exact (below_size (by repeat (first | (with_reducible first | exact HB.out | apply below_alloc | apply pw_below_drewN | apply below_drew1) | exact HB.out))) : w.heap.size ≤ gb156)); clear HB; have HB := n0_; have BK156 := n1_; have GW156 := n2_; have GE156 := n3_; clear n0_ n1_ n2_ n3_; clear hb hbox hg; have hcz5_0 : w4.cell? ⟨gb156, 0, none⟩ = some (.int .i64 a0_0) := (blk_cell BK156.out 0).trans rfl; have hcz5_1 : w4.cell? ⟨gb156, 1, none⟩ = some (.int .u32 a0_1) := (blk_cell BK156.out 1).trans rfl; have hcz5_2 : w4.cell? ⟨gb156, 2, none⟩ = some (.int .i64 a0_2) := (blk_cell BK156.out 2).trans rfl; have hcz5_3 : w4.cell? ⟨gb156, 3, none⟩ = some (.int .i64 a0_3) := (blk_cell BK156.out 3).trans rfl; have hcz5_4 : w4.cell? ⟨gb156, 4, none⟩ = some (.int .u32 a0_4) := (blk_cell BK156.out 4).trans rfl; have hcz5_5 : w4.cell? ⟨gb156, 5, none⟩ = some (.int .u32 a0_5) := (blk_cell BK156.out 5).trans rfl; have hcz5_6 : w4.cell? ⟨gb156, 6, none⟩ = some (.int .u32 a0_6) := (blk_cell BK156.out 6).trans rfl; have hcz5_7 : w4.cell? ⟨gb156, 7, none⟩ = some (.int .u32 a0_7) := (blk_cell BK156.out 7).trans rfl; have hcz5_8 : w4.cell? ⟨gb156, 8, none⟩ = some (.slice A0_8 l0_8.length c0_8) := (blk_cell BK156.out 8).trans rfl; have hcz5_9 : w4.cell? ⟨gb156, 9, none⟩ = some (.slice A0_9 l0_9.length c0_9) := (blk_cell BK156.out 9).trans rfl; have hfz5_0 := blk_frozen BK156.out 0; have hfz5_1 := blk_frozen BK156.out 1; have hfz5_2 := blk_frozen BK156.out 2; have hfz5_3 := blk_frozen BK156.out 3; have hfz5_4 := blk_frozen BK156.out 4; have hfz5_5 := blk_frozen BK156.out 5; have hfz5_6 := blk_frozen BK156.out 6; have hfz5_7 := blk_frozen BK156.out 7; have hfz5_8 := blk_frozen BK156.out 8; have hfz5_9 := blk_frozen BK156.out 9))
   go_ret
   exact ⟨by first | rfl | (simp [errW_none, errW_some] <;> rfl) | (simp [*, errW_none, errW_some] <;> rfl), by repeat (first | (with_reducible first | exact HB.out | apply below_alloc | apply pw_below_drewN | apply below_drew1 | refine below_set ?_ GE156.out) | exact HB.out)⟩
  ·rw [if_neg c3] at H
   have c3b0 : decide (a0_2 < 0) = false := decide_eq_false c3
   clear c3
   by_cases c6 : a0_2 > 65535
   ·rw [if_pos c6] at H
    have c6b0 : decide (65535 < a0_2) = true := decide_eq_true c6
    clear c6
    obtain rfl := Option.some.inj H
    go_enter Tryd.func30, Tryd.ntmps30
    go_wp2_with (first | ((with_reducible refine gate_dst (N := 1) rfl ?_); (try (refine gate_guard (by rfl) ?_; dsimp only)); refine box_event ?hg_2 (N := 1) ?hd_2 (cs := #[.int .i64 a0_0, .int .u32 a0_1, .int .i64 a0_2, .int .i64 a0_3, .int .u32 a0_4, .int .u32 a0_5, .int .u32 a0_6, .int .u32 a0_7, .slice A0_8 l0_8.length c0_8, .slice A0_9 l0_9.length c0_9]) (t := 28) ?hr_2 ?_; (case hd_2 => rfl); (case hg_2 => rfl); (case hr_2 => first | (go_simp; done) | (go_simp; rfl)); intro gb156 hg w7 hbox hb; have n0_ := Aside0.mk (below_step (by repeat (first | (with_reducible first | exact HB.out | apply below_alloc | apply pw_below_drewN | apply below_drew1) | exact HB.out)) hb); have n1_ := Aside0.mk (hbox); have n2_ := Aside0.mk ((by rw [hg]; exact (below_size (by repeat (first | (with_reducible first | exact HB.out | apply below_alloc | apply pw_below_drewN | apply below_drew1) | exact HB.out))) : w.heap.size ≤ gb156)); have n3_ := Aside0.mk ((by rw [hg]; exact (below_size (by repeat (first | (with_reducible first | exact HB.out | apply below_alloc | apply pw_below_drewN | apply below_drew1) | exact HB.out))) : w.heap.size ≤ gb156)); clear HB; have HB := n0_; have BK156 := n1_; have GW156 := n2_; have GE156 := n3_; clear n0_ n1_ n2_ n3_; clear hb hbox hg; have hcz8_0 : w7.cell? ⟨gb156, 0, none⟩ = some (.int .i64 a0_0) := (blk_cell BK156.out 0).trans rfl; have hcz8_1 : w7.cell? ⟨gb156, 1, none⟩ = some (.int .u32 a0_1) := (blk_cell BK156.out 1).trans rfl; have hcz8_2 : w7.cell? ⟨gb156, 2, none⟩ = some (.int .i64 a0_2) := (blk_cell BK156.out 2).trans rfl; have hcz8_3 : w7.cell? ⟨gb156, 3, none⟩ = some (.int .i64 a0_3) := (blk_cell BK156.out 3).trans rfl; have hcz8_4 : w7.cell? ⟨gb156, 4, none⟩ = some (.int .u32 a0_4) := (blk_cell BK156.out 4).trans rfl; have hcz8_5 : w7.cell? ⟨gb156, 5, none⟩ = some (.int .u32 a0_5) := (blk_cell BK156.out 5).trans rfl; have hcz8_6 : w7.cell? ⟨gb156, 6, none⟩ = some (.int .u32 a0_6) := (blk_cell BK156.out 6).trans rfl; have hcz8_7 : w7.cell? ⟨gb156, 7, none⟩ = some (.int .u32 a0_7) := (blk_cell BK156.out 7).trans rfl; have hcz8_8 : w7.cell? ⟨gb156, 8, none⟩ = some (.slice A0_8 l0_8.length c0_8) := (blk_cell BK156.out 8).trans rfl; have hcz8_9 : w7.cell? ⟨gb156, 9, none⟩ = some (.slice A0_9 l0_9.length c0_9) := (blk_cell BK156.out 9).trans rfl; have hfz8_0 := blk_frozen BK156.out 0; have hfz8_1 := blk_frozen BK156.out 1; have hfz8_2 := blk_frozen BK156.out 2; have hfz8_3 := blk_frozen BK156.out 3; have hfz8_4 := blk_frozen BK156.out 4; have hfz8_5 := blk_frozen BK156.out 5; have hfz8_6 := blk_frozen BK156.out 6; have hfz8_7 := blk_frozen BK156.out 7; have hfz8_8 := blk_frozen BK156.out 8; have hfz8_9 := blk_frozen BK156.out 9))
    go_ret
    exact ⟨by first | rfl | (simp [errW_none, errW_some] <;> rfl) | (simp [*, errW_none, errW_some] <;> rfl), by repeat (first | (with_reducible first | exact HB.out | apply below_alloc | apply pw_below_drewN | apply below_drew1 | refine below_set ?_ GE156.out) | exact HB.out)⟩
   ·rw [if_neg c6] at H
    have c6b0 : decide (65535 < a0_2) = false := decide_eq_false c6
    clear c6
    by_cases c9 : a0_3 < 0
    ·rw [if_pos c9] at H
     have c9b0 : decide (a0_3 < 0) = true := decide_eq_true c9
     clear c9
     obtain rfl := Option.some.inj H
     go_enter Tryd.func30, Tryd.ntmps30
     go_wp2_with (first | ((with_reducible refine gate_dst (N := 1) rfl ?_); (try (refine gate_guard (by rfl) ?_; dsimp only)); refine box_event ?hg_3 (N := 1) ?hd_3 (cs := #[.int .i64 a0_0, .int .u32 a0_1, .int .i64 a0_2, .int .i64 a0_3, .int .u32 a0_4, .int .u32 a0_5, .int .u32 a0_6, .int .u32 a0_7, .slice A0_8 l0_8.length c0_8, .slice A0_9 l0_9.length c0_9]) (t := 28) ?hr_3 ?_; (case hd_3 => rfl); (case hg_3 => rfl); (case hr_3 => first | (go_simp; done) | (go_simp; rfl)); intro gb156 hg w10 hbox hb; have n0_ := Aside0.mk (below_step (by repeat (first | (with_reducible first | exact HB.out | apply below_alloc | apply pw_below_drewN | apply below_drew1) | exact HB.out)) hb); have n1_ := Aside0.mk (hbox); have n2_ := Aside0.mk ((by rw [hg]; exact (below_size (by repeat (first | (with_reducible first | exact HB.out | apply below_alloc | apply pw_below_drewN | apply below_drew1) | exact HB.out))) : w.heap.size ≤ gb156)); have n3_ := Aside0.mk ((by rw [hg]; exact (below_size (by repeat (first | (with_reducible first | exact HB.out | apply below_alloc | apply pw_below_drewN | apply below_drew1) | exact HB.out))) : w.heap.size ≤ gb156)); clear HB; have HB := n0_; have BK156 := n1_; have GW156 := n2_; have GE156 := n3_; clear n0_ n1_ n2_ n3_; clear hb hbox hg; have hcz11_0 : w10.cell? ⟨gb156, 0, none⟩ = some (.int .i64 a0_0) := (blk_cell BK156.out 0).trans rfl; have hcz11_1 : w10.cell? ⟨gb156, 1, none⟩ = some (.int .u32 a0_1) := (blk_cell BK156.out 1).trans rfl; have hcz11_2 : w10.cell? ⟨gb156, 2, none⟩ = some (.int .i64 a0_2) := (blk_cell BK156.out 2).trans rfl; have hcz11_3 : w10.cell? ⟨gb156, 3, none⟩ = some (.int .i64 a0_3) := (blk_cell BK156.out 3).trans rfl; have hcz11_4 : w10.cell? ⟨gb156, 4, none⟩ = some (.int .u32 a0_4) := (blk_cell BK156.out 4).trans rfl; have hcz11_5 : w10.cell? ⟨gb156, 5, none⟩ = some (.int .u32 a0_5) := (blk_cell BK156.out 5).trans rfl; have hcz11_6 : w10.cell? ⟨gb156, 6, none⟩ = some (.int .u32 a0_6) := (blk_cell BK156.out 6).trans rfl; have hcz11_7 : w10.cell? ⟨gb156, 7, none⟩ = some (.int .u32 a0_7) := (blk_cell BK156.out 7).trans rfl; have hcz11_8 : w10.cell? ⟨gb156, 8, none⟩ = some (.slice A0_8 l0_8.length c0_8) := (blk_cell BK156.out 8).trans rfl; have hcz11_9 : w10.cell? ⟨gb156, 9, none⟩ = some (.slice A0_9 l0_9.length c0_9) := (blk_cell BK156.out 9).trans rfl; have hfz11_0 := blk_frozen BK156.out 0; have hfz11_1 := blk_frozen BK156.out 1; have hfz11_2 := blk_frozen BK156.out 2; have hfz11_3 := blk_frozen BK156.out 3; have hfz11_4 := blk_frozen BK156.out 4; have hfz11_5 := blk_frozen BK156.out 5; have hfz11_6 := blk_frozen BK156.out 6; have hfz11_7 := blk_frozen BK156.out 7; have hfz11_8 := blk_frozen BK156.out 8; have hfz11_9 := blk_frozen BK156.out 9))
     go_ret
     exact ⟨by first | rfl | (simp [errW_none, errW_some] <;> rfl) | (simp [*, errW_none, errW_some] <;> rfl), by repeat (first | (with_reducible first | exact HB.out | apply below_alloc | apply pw_below_drewN | apply below_drew1 | refine below_set ?_ GE156.out) | exact HB.out)⟩
    ·rw [if_neg c9] at H
     have c9b0 : decide (a0_3 < 0) = false := decide_eq_false c9
     clear c9
     by_cases c12 : a0_3 > 65535
     ·rw [if_pos c12] at H
      have c12b0 : decide (65535 < a0_3) = true := decide_eq_true c12
      clear c12
      obtain rfl := Option.some.inj H
      go_enter Tryd.func30, Tryd.ntmps30
      go_wp2_with (first | ((with_reducible refine gate_dst (N := 1) rfl ?_); (try (refine gate_guard (by rfl) ?_; dsimp only)); refine box_event ?hg_4 (N := 1) ?hd_4 (cs := #[.int .i64 a0_0, .int .u32 a0_1, .int .i64 a0_2, .int .i64 a0_3, .int .u32 a0_4, .int .u32 a0_5, .int .u32 a0_6, .int .u32 a0_7, .slice A0_8 l0_8.length c0_8, .slice A0_9 l0_9.length c0_9]) (t := 28) ?hr_4 ?_; (case hd_4 => rfl); (case hg_4 => rfl); (case hr_4 => first | (go_simp; done) | (go_simp; rfl)); intro gb156 hg w13 hbox hb; have n0_ := Aside0.mk (below_step (by repeat (first | (with_reducible first | exact HB.out | apply below_alloc | apply pw_below_drewN | apply below_drew1) | exact HB.out)) hb); have n1_ := Aside0.mk (hbox); have n2_ := Aside0.mk ((by rw [hg]; exact (below_size (by repeat (first | (with_reducible first | exact HB.out | apply below_alloc | apply pw_below_drewN | apply below_drew1) | exact HB.out))) : w.heap.size ≤ gb156)); have n3_ := Aside0.mk ((by rw [hg]; exact (below_size (by repeat (first | (with_reducible first | exact HB.out | apply below_alloc | apply pw_below_drewN | apply below_drew1) | exact HB.out))) : w.heap.size ≤ gb156)); clear HB; have HB := n0_; have BK156 := n1_; have GW156 := n2_; have GE156 := n3_; clear n0_ n1_ n2_ n3_; clear hb hbox hg; have hcz14_0 : w13.cell? ⟨gb156, 0, none⟩ = some (.int .i64 a0_0) := (blk_cell BK156.out 0).trans rfl; have hcz14_1 : w13.cell? ⟨gb156, 1, none⟩ = some (.int .u32 a0_1) := (blk_cell BK156.out 1).trans rfl; have hcz14_2 : w13.cell? ⟨gb156, 2, none⟩ = some (.int .i64 a0_2) := (blk_cell BK156.out 2).trans rfl; have hcz14_3 : w13.cell? ⟨gb156, 3, none⟩ = some (.int .i64 a0_3) := (blk_cell BK156.out 3).trans rfl; have hcz14_4 : w13.cell? ⟨gb156, 4, none⟩ = some (.int .u32 a0_4) := (blk_cell BK156.out 4).trans rfl; have hcz14_5 : w13.cell? ⟨gb156, 5, none⟩ = some (.int .u32 a0_5) := (blk_cell BK156.out 5).trans rfl; have hcz14_6 : w13.cell? ⟨gb156, 6, none⟩ = some (.int .u32 a0_6) := (blk_cell BK156.out 6).trans rfl; have hcz14_7 : w13.cell? ⟨gb156, 7, none⟩ = some (.int .u32 a0_7) := (blk_cell BK156.out 7).trans rfl; have hcz14_8 : w13.cell? ⟨gb156, 8, none⟩ = some (.slice A0_8 l0_8.length c0_8) := (blk_cell BK156.out 8).trans rfl; have hcz14_9 : w13.cell? ⟨gb156, 9, none⟩ = some (.slice A0_9 l0_9.length c0_9) := (blk_cell BK156.out 9).trans rfl; have hfz14_0 := blk_frozen BK156.out 0; have hfz14_1 := blk_frozen BK156.out 1; have hfz14_2 := blk_frozen BK156.out 2; have hfz14_3 := blk_frozen BK156.out 3; have hfz14_4 := blk_frozen BK156.out 4; have hfz14_5 := blk_frozen BK156.out 5; have hfz14_6 := blk_frozen BK156.out 6; have hfz14_7 := blk_frozen BK156.out 7; have hfz14_8 := blk_frozen BK156.out 8; have hfz14_9 := blk_frozen BK156.out 9))
      go_ret
      exact ⟨by first | rfl | (simp [errW_none, errW_some] <;> rfl) | (simp [*, errW_none, errW_some] <;> rfl), by repeat (first | (with_reducible first | exact HB.out | apply below_alloc | apply pw_below_drewN | apply below_drew1 | refine below_set ?_ GE156.out) | exact HB.out)⟩
     ·rw [if_neg c12] at H
      have c12b0 : decide (65535 < a0_3) = false := decide_eq_false c12
      clear c12
      by_cases c15 : (l0_8.length : Int) < 1
      ·rw [if_pos c15] at H
       have c15b0 : decide ((l0_8.length : Int) < 1) = true := decide_eq_true c15
       have c15b1 : decide (l0_8.length < 1) = true := decide_eq_true (by omega)
       clear c15
       obtain rfl := Option.some.inj H
       go_enter Tryd.func30, Tryd.ntmps30
       go_wp2_with (first | ((with_reducible refine gate_dst (N := 1) rfl ?_); (try (refine gate_guard (by rfl) ?_; dsimp only)); refine box_event ?hg_5 (N := 1) ?hd_5 (cs := #[.int .i64 a0_0, .int .u32 a0_1, .int .i64 a0_2, .int .i64 a0_3, .int .u32 a0_4, .int .u32 a0_5, .int .u32 a0_6, .int .u32 a0_7, .slice A0_8 l0_8.length c0_8, .slice A0_9 l0_9.length c0_9]) (t := 28) ?hr_5 ?_; (case hd_5 => rfl); (case hg_5 => rfl); (case hr_5 => first | (go_simp; done) | (go_simp; rfl)); intro gb156 hg w16 hbox hb; have n0_ := Aside0.mk (below_step (by repeat (first | (with_reducible first | exact HB.out | apply below_alloc | apply pw_below_drewN | apply below_drew1) | exact HB.out)) hb); have n1_ := Aside0.mk (hbox); have n2_ := Aside0.mk ((by rw [hg]; exact (below_size (by repeat (first | (with_reducible first | exact HB.out | apply below_alloc | apply pw_below_drewN | apply below_drew1) | exact HB.out))) : w.heap.size ≤ gb156)); have n3_ := Aside0.mk ((by rw [hg]; exact (below_size (by repeat (first | (with_reducible first | exact HB.out | apply below_alloc | apply pw_below_drewN | apply below_drew1) | exact HB.out))) : w.heap.size ≤ gb156)); clear HB; have HB := n0_; have BK156 := n1_; have GW156 := n2_; have GE156 := n3_; clear n0_ n1_ n2_ n3_; clear hb hbox hg; have hcz17_0 : w16.cell? ⟨gb156, 0, none⟩ = some (.int .i64 a0_0) := (blk_cell BK156.out 0).trans rfl; have hcz17_1 : w16.cell? ⟨gb156, 1, none⟩ = some (.int .u32 a0_1) := (blk_cell BK156.out 1).trans rfl; have hcz17_2 : w16.cell? ⟨gb156, 2, none⟩ = some (.int .i64 a0_2) := (blk_cell BK156.out 2).trans rfl; have hcz17_3 : w16.cell? ⟨gb156, 3, none⟩ = some (.int .i64 a0_3) := (blk_cell BK156.out 3).trans rfl; have hcz17_4 : w16.cell? ⟨gb156, 4, none⟩ = some (.int .u32 a0_4) := (blk_cell BK156.out 4).trans rfl; have hcz17_5 : w16.cell? ⟨gb156, 5, none⟩ = some (.int .u32 a0_5) := (blk_cell BK156.out 5).trans rfl; have hcz17_6 : w16.cell? ⟨gb156, 6, none⟩ = some (.int .u32 a0_6) := (blk_cell BK156.out 6).trans rfl; have hcz17_7 : w16.cell? ⟨gb156, 7, none⟩ = some (.int .u32 a0_7) := (blk_cell BK156.out 7).trans rfl; have hcz17_8 : w16.cell? ⟨gb156, 8, none⟩ = some (.slice A0_8 l0_8.length c0_8) := (blk_cell BK156.out 8).trans rfl; have hcz17_9 : w16.cell? ⟨gb156, 9, none⟩ = some (.slice A0_9 l0_9.length c0_9) := (blk_cell BK156.out 9).trans rfl; have hfz17_0 := blk_frozen BK156.out 0; have hfz17_1 := blk_frozen BK156.out 1; have hfz17_2 := blk_frozen BK156.out 2; have hfz17_3 := blk_frozen BK156.out 3; have hfz17_4 := blk_frozen BK156.out 4; have hfz17_5 := blk_frozen BK156.out 5; have hfz17_6 := blk_frozen BK156.out 6; have hfz17_7 := blk_frozen BK156.out 7; have hfz17_8 := blk_frozen BK156.out 8; have hfz17_9 := blk_frozen BK156.out 9))
       go_ret
       exact ⟨by first | rfl | (simp [errW_none, errW_some] <;> rfl) | (simp [*, errW_none, errW_some] <;> rfl), by repeat (first | (with_reducible first | exact HB.out | apply below_alloc | apply pw_below_drewN | apply below_drew1 | refine below_set ?_ GE156.out) | exact HB.out)⟩
      ·rw [if_neg c15] at H
       have c15b0 : decide ((l0_8.length : Int) < 1) = false := decide_eq_false c15
       have c15b1 : decide (l0_8.length < 1) = false := decide_eq_false (by omega)
       clear c15
       by_cases c18 : (l0_8.length : Int) > 16
       ·rw [if_pos c18] at H
        have c18b0 : decide (16 < (l0_8.length : Int)) = true := decide_eq_true c18
        have c18b1 : decide (16 < l0_8.length) = true := decide_eq_true (by omega)
        clear c18
        obtain rfl := Option.some.inj H
        go_enter Tryd.func30, Tryd.ntmps30
        go_wp2_with (first | ((with_reducible refine gate_dst (N := 1) rfl ?_); (try (refine gate_guard (by rfl) ?_; dsimp only)); refine box_event ?hg_6 (N := 1) ?hd_6 (cs := #[.int .i64 a0_0, .int .u32 a0_1, .int .i64 a0_2, .int .i64 a0_3, .int .u32 a0_4, .int .u32 a0_5, .int .u32 a0_6, .int .u32 a0_7, .slice A0_8 l0_8.length c0_8, .slice A0_9 l0_9.length c0_9]) (t := 28) ?hr_6 ?_; (case hd_6 => rfl); (case hg_6 => rfl); (case hr_6 => first | (go_simp; done) | (go_simp; rfl)); intro gb156 hg w19 hbox hb; have n0_ := Aside0.mk (below_step (by repeat (first | (with_reducible first | exact HB.out | apply below_alloc | apply pw_below_drewN | apply below_drew1) | exact HB.out)) hb); have n1_ := Aside0.mk (hbox); have n2_ := Aside0.mk ((by rw [hg]; exact (below_size (by repeat (first | (with_reducible first | exact HB.out | apply below_alloc | apply pw_below_drewN | apply below_drew1) | exact HB.out))) : w.heap.size ≤ gb156)); have n3_ := Aside0.mk ((by rw [hg]; exact (below_size (by repeat (first | (with_reducible first | exact HB.out | apply below_alloc | apply pw_below_drewN | apply below_drew1) | exact HB.out))) : w.heap.size ≤ gb156)); clear HB; have HB := n0_; have BK156 := n1_; have GW156 := n2_; have GE156 := n3_; clear n0_ n1_ n2_ n3_; clear hb hbox hg; have hcz20_0 : w19.cell? ⟨gb156, 0, none⟩ = some (.int .i64 a0_0) := (blk_cell BK156.out 0).trans rfl; have hcz20_1 : w19.cell? ⟨gb156, 1, none⟩ = some (.int .u32 a0_1) := (blk_cell BK156.out 1).trans rfl; have hcz20_2 : w19.cell? ⟨gb156, 2, none⟩ = some (.int .i64 a0_2) := (blk_cell BK156.out 2).trans rfl; have hcz20_3 : w19.cell? ⟨gb156, 3, none⟩ = some (.int .i64 a0_3) := (blk_cell BK156.out 3).trans rfl; have hcz20_4 : w19.cell? ⟨gb156, 4, none⟩ = some (.int .u32 a0_4) := (blk_cell BK156.out 4).trans rfl; have hcz20_5 : w19.cell? ⟨gb156, 5, none⟩ = some (.int .u32 a0_5) := (blk_cell BK156.out 5).trans rfl; have hcz20_6 : w19.cell? ⟨gb156, 6, none⟩ = some (.int .u32 a0_6) := (blk_cell BK156.out 6).trans rfl; have hcz20_7 : w19.cell? ⟨gb156, 7, none⟩ = some (.int .u32 a0_7) := (blk_cell BK156.out 7).trans rfl; have hcz20_8 : w19.cell? ⟨gb156, 8, none⟩ = some (.slice A0_8 l0_8.length c0_8) := (blk_cell BK156.out 8).trans rfl; have hcz20_9 : w19.cell? ⟨gb156, 9, none⟩ = some (.slice A0_9 l0_9.length c0_9) := (blk_cell BK156.out 9).trans rfl; have hfz20_0 := blk_frozen BK156.out 0; have hfz20_1 := blk_frozen BK156.out 1; have hfz20_2 := blk_frozen BK156.out 2; have hfz20_3 := blk_frozen BK156.out 3; have hfz20_4 := blk_frozen BK156.out 4; have hfz20_5 := blk_frozen BK156.out 5; have hfz20_6 := blk_frozen BK156.out 6; have hfz20_7 := blk_frozen BK156.out 7; have hfz20_8 := blk_frozen BK156.out 8; have hfz20_9 := blk_frozen BK156.out 9))
        go_ret
        exact ⟨by first | rfl | (simp [errW_none, errW_some] <;> rfl) | (simp [*, errW_none, errW_some] <;> rfl), by repeat (first | (with_reducible first | exact HB.out | apply below_alloc | apply pw_below_drewN | apply below_drew1 | refine below_set ?_ GE156.out) | exact HB.out)⟩
       ·rw [if_neg c18] at H
        have c18b0 : decide (16 < (l0_8.length : Int)) = false := decide_eq_false c18
        have c18b1 : decide (16 < l0_8.length) = false := decide_eq_false (by omega)
        clear c18
        replace H := Option.bind_eq_some_iff.mp H
        obtain ⟨⟨t157, t158⟩, A210, H⟩ := H
        replace H : (some (t158 == 0)) = some r := H
        have A21 := Aside0.mk A210
        clear A210
        obtain rfl := Option.some.inj H
        go_enter Tryd.func30, Tryd.ntmps30
        go_wp2_with (first | ((with_reducible refine gate_dst (N := 1) rfl ?_); (try (refine gate_guard (by rfl) ?_; dsimp only)); refine box_event ?hg_7 (N := 1) ?hd_7 (cs := #[.int .i64 a0_0, .int .u32 a0_1, .int .i64 a0_2, .int .i64 a0_3, .int .u32 a0_4, .int .u32 a0_5, .int .u32 a0_6, .int .u32 a0_7, .slice A0_8 l0_8.length c0_8, .slice A0_9 l0_9.length c0_9]) (t := 28) ?hr_7 ?_; (case hd_7 => rfl); (case hg_7 => rfl); (case hr_7 => first | (go_simp; done) | (go_simp; rfl)); intro gb156 hg w22 hbox hb; have n0_ := Aside0.mk (below_step (by repeat (first | (with_reducible first | exact HB.out | apply below_alloc | apply pw_below_drewN | apply below_drew1) | exact HB.out)) hb); have n1_ := Aside0.mk (hbox); have n2_ := Aside0.mk ((by rw [hg]; exact (below_size (by repeat (first | (with_reducible first | exact HB.out | apply below_alloc | apply pw_below_drewN | apply below_drew1) | exact HB.out))) : w.heap.size ≤ gb156)); have n3_ := Aside0.mk ((by rw [hg]; exact (below_size (by repeat (first | (with_reducible first | exact HB.out | apply below_alloc | apply pw_below_drewN | apply below_drew1) | exact HB.out))) : w.heap.size ≤ gb156)); clear HB; have HB := n0_; have BK156 := n1_; have GW156 := n2_; have GE156 := n3_; clear n0_ n1_ n2_ n3_; clear hb hbox hg; have hcz23_0 : w22.cell? ⟨gb156, 0, none⟩ = some (.int .i64 a0_0) := (blk_cell BK156.out 0).trans rfl; have hcz23_1 : w22.cell? ⟨gb156, 1, none⟩ = some (.int .u32 a0_1) := (blk_cell BK156.out 1).trans rfl; have hcz23_2 : w22.cell? ⟨gb156, 2, none⟩ = some (.int .i64 a0_2) := (blk_cell BK156.out 2).trans rfl; have hcz23_3 : w22.cell? ⟨gb156, 3, none⟩ = some (.int .i64 a0_3) := (blk_cell BK156.out 3).trans rfl; have hcz23_4 : w22.cell? ⟨gb156, 4, none⟩ = some (.int .u32 a0_4) := (blk_cell BK156.out 4).trans rfl; have hcz23_5 : w22.cell? ⟨gb156, 5, none⟩ = some (.int .u32 a0_5) := (blk_cell BK156.out 5).trans rfl; have hcz23_6 : w22.cell? ⟨gb156, 6, none⟩ = some (.int .u32 a0_6) := (blk_cell BK156.out 6).trans rfl; have hcz23_7 : w22.cell? ⟨gb156, 7, none⟩ = some (.int .u32 a0_7) := (blk_cell BK156.out 7).trans rfl; have hcz23_8 : w22.cell? ⟨gb156, 8, none⟩ = some (.slice A0_8 l0_8.length c0_8) := (blk_cell BK156.out 8).trans rfl; have hcz23_9 : w22.cell? ⟨gb156, 9, none⟩ = some (.slice A0_9 l0_9.length c0_9) := (blk_cell BK156.out 9).trans rfl; have hfz23_0 := blk_frozen BK156.out 0; have hfz23_1 := blk_frozen BK156.out 1; have hfz23_2 := blk_frozen BK156.out 2; have hfz23_3 := blk_frozen BK156.out 3; have hfz23_4 := blk_frozen BK156.out 4; have hfz23_5 := blk_frozen BK156.out 5; have hfz23_6 := blk_frozen BK156.out 6; have hfz23_7 := blk_frozen BK156.out 7; have hfz23_8 := blk_frozen BK156.out 8; have hfz23_9 := blk_frozen BK156.out 9) | ((with_reducible refine gate_callee (f := 32) rfl ?_); refine goesL_ (some 48) rfl rfl Tryd.func32 (by kernel_rfl) rfl #[.slice A0_9 l0_9.length c0_9] rfl (by (try simp only [List.map_toArray, List.map_cons, List.map_nil]); first | done | rfl | (simp only [List.length_drop, List.length_take]; rfl)) ?_; (with_reducible refine (lessorref02_Encode.calls k _ _ l0_9 t157 t158 _ ?side1_8 ?side2_8 A21.out).mono ?_); (case side1_8 => repeat (first | exact (Kd.C_below HR0_9.out HB.out) | exact (Kd.C_below (Aside0.out (by assumption)) HB.out) | (with_reducible refine Kd.C_alloc ?_ _) | (with_reducible refine Kd.C_drewN ?_ _) | (with_reducible refine Kd.C_drew ?_))); (case side2_8 => exact HC0_9.out); rintro e w24 ⟨v159, rfl, ho0, hb⟩; refine ⟨_, rfl, ?_⟩; have n0_ := Aside0.mk (Kd.R_lower ho0 (below_size (by repeat (first | (with_reducible first | exact HB.out | apply below_alloc | apply pw_below_drewN | apply below_drew1 | refine below_set ?_ GE156.out) | exact HB.out)))); have n1_ := Aside0.mk (blk_below (g := gb156) (o := .cells #[.int .i64 a0_0, .int .u32 a0_1, .int .i64 a0_2, .int .i64 a0_3, .int .u32 a0_4, .int .u32 a0_5, .int .u32 a0_6, .int .u32 a0_7, .slice A0_8 l0_8.length c0_8, .slice A0_9 l0_9.length c0_9] 28 (0, 0)) (by (with_reducible repeat (first | refine blk_drewN ?_ _ | refine blk_drew ?_ | refine blk_alloc ?_ _)); exact BK156.out) hb); have n2_ := Aside0.mk (below_step (by repeat (first | (with_reducible first | exact HB.out | apply below_alloc | apply pw_below_drewN | apply below_drew1 | refine below_set ?_ GE156.out) | exact HB.out)) hb); clear BK156; clear HB; have HO160 := n0_; have BK156 := n1_; have HB := n2_; clear n0_ n1_ n2_; (try clear hb); (try clear hb2); (try clear hk); (try clear hi); (try clear ho0)))
        go_ret
        exact ⟨by first | rfl | (simp [errW_none, errW_some] <;> rfl) | (simp [*, errW_none, errW_some] <;> rfl), by repeat (first | (with_reducible first | exact HB.out | apply below_alloc | apply pw_below_drewN | apply below_drew1 | refine below_set ?_ GE156.out) | exact HB.out)⟩
 ·rw [if_neg c2] at H
  have c2b0 : (a0_0 == 1) = false := beq_eq_false_iff_ne.mpr c2
  have c2b1 : (a0_0 != 1) = true := bne_iff_ne.mpr c2
  by_cases c25 : a0_0 = 2
  ·rw [if_pos c25] at H
   have c25b0 : (a0_0 == 2) = true := beq_iff_eq.mpr c25
   have c25b1 : (a0_0 != 2) = false := bne_eq_false_iff_eq.mpr c25
   clear c25
   by_cases c26 : a0_2 < 0
   ·rw [if_pos c26] at H
    have c26b0 : decide (a0_2 < 0) = true := decide_eq_true c26
    clear c26
    obtain rfl := Option.some.inj H
    go_enter Tryd.func30, Tryd.ntmps30
    go_wp2_with (first | ((with_reducible refine gate_dst (N := 1) rfl ?_); (try (refine gate_guard (by rfl) ?_; dsimp only)); refine box_event ?hg_9 (N := 1) ?hd_9 (cs := #[.int .i64 a0_0, .int .u32 a0_1, .int .i64 a0_2, .int .i64 a0_3, .int .u32 a0_4, .int .u32 a0_5, .int .u32 a0_6, .int .u32 a0_7, .slice A0_8 l0_8.length c0_8, .slice A0_9 l0_9.length c0_9]) (t := 28) ?hr_9 ?_; (case hd_9 => rfl); (case hg_9 => rfl); (case hr_9 => first | (go_simp; done) | (go_simp; rfl)); intro gb156 hg w27 hbox hb; have n0_ := Aside0.mk (below_step (by repeat (first | (with_reducible first | exact HB.out | apply below_alloc | apply pw_below_drewN | apply below_drew1) | exact HB.out)) hb); have n1_ := Aside0.mk (hbox); have n2_ := Aside0.mk ((by rw [hg]; exact (below_size (by repeat (first | (with_reducible first | exact HB.out | apply below_alloc | apply pw_below_drewN | apply below_drew1) | exact HB.out))) : w.heap.size ≤ gb156)); have n3_ := Aside0.mk ((by rw [hg]; exact (below_size (by repeat (first | (with_reducible first | exact HB.out | apply below_alloc | apply pw_below_drewN | apply below_drew1) | exact HB.out))) : w.heap.size ≤ gb156)); clear HB; have HB := n0_; have BK156 := n1_; have GW156 := n2_; have GE156 := n3_; clear n0_ n1_ n2_ n3_; clear hb hbox hg; have hcz28_0 : w27.cell? ⟨gb156, 0, none⟩ = some (.int .i64 a0_0) := (blk_cell BK156.out 0).trans rfl; have hcz28_1 : w27.cell? ⟨gb156, 1, none⟩ = some (.int .u32 a0_1) := (blk_cell BK156.out 1).trans rfl; have hcz28_2 : w27.cell? ⟨gb156, 2, none⟩ = some (.int .i64 a0_2) := (blk_cell BK156.out 2).trans rfl; have hcz28_3 : w27.cell? ⟨gb156, 3, none⟩ = some (.int .i64 a0_3) := (blk_cell BK156.out 3).trans rfl; have hcz28_4 : w27.cell? ⟨gb156, 4, none⟩ = some (.int .u32 a0_4) := (blk_cell BK156.out 4).trans rfl; have hcz28_5 : w27.cell? ⟨gb156, 5, none⟩ = some (.int .u32 a0_5) := (blk_cell BK156.out 5).trans rfl; have hcz28_6 : w27.cell? ⟨gb156, 6, none⟩ = some (.int .u32 a0_6) := (blk_cell BK156.out 6).trans rfl; have hcz28_7 : w27.cell? ⟨gb156, 7, none⟩ = some (.int .u32 a0_7) := (blk_cell BK156.out 7).trans rfl; have hcz28_8 : w27.cell? ⟨gb156, 8, none⟩ = some (.slice A0_8 l0_8.length c0_8) := (blk_cell BK156.out 8).trans rfl; have hcz28_9 : w27.cell? ⟨gb156, 9, none⟩ = some (.slice A0_9 l0_9.length c0_9) := (blk_cell BK156.out 9).trans rfl; have hfz28_0 := blk_frozen BK156.out 0; have hfz28_1 := blk_frozen BK156.out 1; have hfz28_2 := blk_frozen BK156.out 2; have hfz28_3 := blk_frozen BK156.out 3; have hfz28_4 := blk_frozen BK156.out 4; have hfz28_5 := blk_frozen BK156.out 5; have hfz28_6 := blk_frozen BK156.out 6; have hfz28_7 := blk_frozen BK156.out 7; have hfz28_8 := blk_frozen BK156.out 8; have hfz28_9 := blk_frozen BK156.out 9))
    go_ret
    exact ⟨by first | rfl | (simp [errW_none, errW_some] <;> rfl) | (simp [*, errW_none, errW_some] <;> rfl), by repeat (first | (with_reducible first | exact HB.out | apply below_alloc | apply pw_below_drewN | apply below_drew1 | refine below_set ?_ GE156.out) | exact HB.out)⟩
   ·rw [if_neg c26] at H
    have c26b0 : decide (a0_2 < 0) = false := decide_eq_false c26
    clear c26
    by_cases c29 : a0_2 > 65535
    ·rw [if_pos c29] at H
     have c29b0 : decide (65535 < a0_2) = true := decide_eq_true c29
     clear c29
     obtain rfl := Option.some.inj H
     go_enter Tryd.func30, Tryd.ntmps30
     go_wp2_with (first | ((with_reducible refine gate_dst (N := 1) rfl ?_); (try (refine gate_guard (by rfl) ?_; dsimp only)); refine box_event ?hg_10 (N := 1) ?hd_10 (cs := #[.int .i64 a0_0, .int .u32 a0_1, .int .i64 a0_2, .int .i64 a0_3, .int .u32 a0_4, .int .u32 a0_5, .int .u32 a0_6, .int .u32 a0_7, .slice A0_8 l0_8.length c0_8, .slice A0_9 l0_9.length c0_9]) (t := 28) ?hr_10 ?_; (case hd_10 => rfl); (case hg_10 => rfl); (case hr_10 => first | (go_simp; done) | (go_simp; rfl)); intro gb156 hg w30 hbox hb; have n0_ := Aside0.mk (below_step (by repeat (first | (with_reducible first | exact HB.out | apply below_alloc | apply pw_below_drewN | apply below_drew1) | exact HB.out)) hb); have n1_ := Aside0.mk (hbox); have n2_ := Aside0.mk ((by rw [hg]; exact (below_size (by repeat (first | (with_reducible first | exact HB.out | apply below_alloc | apply pw_below_drewN | apply below_drew1) | exact HB.out))) : w.heap.size ≤ gb156)); have n3_ := Aside0.mk ((by rw [hg]; exact (below_size (by repeat (first | (with_reducible first | exact HB.out | apply below_alloc | apply pw_below_drewN | apply below_drew1) | exact HB.out))) : w.heap.size ≤ gb156)); clear HB; have HB := n0_; have BK156 := n1_; have GW156 := n2_; have GE156 := n3_; clear n0_ n1_ n2_ n3_; clear hb hbox hg; have hcz31_0 : w30.cell? ⟨gb156, 0, none⟩ = some (.int .i64 a0_0) := (blk_cell BK156.out 0).trans rfl; have hcz31_1 : w30.cell? ⟨gb156, 1, none⟩ = some (.int .u32 a0_1) := (blk_cell BK156.out 1).trans rfl; have hcz31_2 : w30.cell? ⟨gb156, 2, none⟩ = some (.int .i64 a0_2) := (blk_cell BK156.out 2).trans rfl; have hcz31_3 : w30.cell? ⟨gb156, 3, none⟩ = some (.int .i64 a0_3) := (blk_cell BK156.out 3).trans rfl; have hcz31_4 : w30.cell? ⟨gb156, 4, none⟩ = some (.int .u32 a0_4) := (blk_cell BK156.out 4).trans rfl; have hcz31_5 : w30.cell? ⟨gb156, 5, none⟩ = some (.int .u32 a0_5) := (blk_cell BK156.out 5).trans rfl; have hcz31_6 : w30.cell? ⟨gb156, 6, none⟩ = some (.int .u32 a0_6) := (blk_cell BK156.out 6).trans rfl; have hcz31_7 : w30.cell? ⟨gb156, 7, none⟩ = some (.int .u32 a0_7) := (blk_cell BK156.out 7).trans rfl; have hcz31_8 : w30.cell? ⟨gb156, 8, none⟩ = some (.slice A0_8 l0_8.length c0_8) := (blk_cell BK156.out 8).trans rfl; have hcz31_9 : w30.cell? ⟨gb156, 9, none⟩ = some (.slice A0_9 l0_9.length c0_9) := (blk_cell BK156.out 9).trans rfl; have hfz31_0 := blk_frozen BK156.out 0; have hfz31_1 := blk_frozen BK156.out 1; have hfz31_2 := blk_frozen BK156.out 2; have hfz31_3 := blk_frozen BK156.out 3; have hfz31_4 := blk_frozen BK156.out 4; have hfz31_5 := blk_frozen BK156.out 5; have hfz31_6 := blk_frozen BK156.out 6; have hfz31_7 := blk_frozen BK156.out 7; have hfz31_8 := blk_frozen BK156.out 8; have hfz31_9 := blk_frozen BK156.out 9))
     go_ret
     exact ⟨by first | rfl | (simp [errW_none, errW_some] <;> rfl) | (simp [*, errW_none, errW_some] <;> rfl), by repeat (first | (with_reducible first | exact HB.out | apply below_alloc | apply pw_below_drewN | apply below_drew1 | refine below_set ?_ GE156.out) | exact HB.out)⟩
    ·rw [if_neg c29] at H
     have c29b0 : decide (65535 < a0_2) = false := decide_eq_false c29
     clear c29
     by_cases c32 : a0_3 < 0
     ·rw [if_pos c32] at H
      have c32b0 : decide (a0_3 < 0) = true := decide_eq_true c32
      clear c32
      obtain rfl := Option.some.inj H
      go_enter Tryd.func30, Tryd.ntmps30
      go_wp2_with (first | ((with_reducible refine gate_dst (N := 1) rfl ?_); (try (refine gate_guard (by rfl) ?_; dsimp only)); refine box_event ?hg_11 (N := 1) ?hd_11 (cs := #[.int .i64 a0_0, .int .u32 a0_1, .int .i64 a0_2, .int .i64 a0_3, .int .u32 a0_4, .int .u32 a0_5, .int .u32 a0_6, .int .u32 a0_7, .slice A0_8 l0_8.length c0_8, .slice A0_9 l0_9.length c0_9]) (t := 28) ?hr_11 ?_; (case hd_11 => rfl); (case hg_11 => rfl); (case hr_11 => first | (go_simp; done) | (go_simp; rfl)); intro gb156 hg w33 hbox hb; have n0_ := Aside0.mk (below_step (by repeat (first | (with_reducible first | exact HB.out | apply below_alloc | apply pw_below_drewN | apply below_drew1) | exact HB.out)) hb); have n1_ := Aside0.mk (hbox); have n2_ := Aside0.mk ((by rw [hg]; exact (below_size (by repeat (first | (with_reducible first | exact HB.out | apply below_alloc | apply pw_below_drewN | apply below_drew1) | exact HB.out))) : w.heap.size ≤ gb156)); have n3_ := Aside0.mk ((by rw [hg]; exact (below_size (by repeat (first | (with_reducible first | exact HB.out | apply below_alloc | apply pw_below_drewN | apply below_drew1) | exact HB.out))) : w.heap.size ≤ gb156)); clear HB; have HB := n0_; have BK156 := n1_; have GW156 := n2_; have GE156 := n3_; clear n0_ n1_ n2_ n3_; clear hb hbox hg; have hcz34_0 : w33.cell? ⟨gb156, 0, none⟩ = some (.int .i64 a0_0) := (blk_cell BK156.out 0).trans rfl; have hcz34_1 : w33.cell? ⟨gb156, 1, none⟩ = some (.int .u32 a0_1) := (blk_cell BK156.out 1).trans rfl; have hcz34_2 : w33.cell? ⟨gb156, 2, none⟩ = some (.int .i64 a0_2) := (blk_cell BK156.out 2).trans rfl; have hcz34_3 : w33.cell? ⟨gb156, 3, none⟩ = some (.int .i64 a0_3) := (blk_cell BK156.out 3).trans rfl; have hcz34_4 : w33.cell? ⟨gb156, 4, none⟩ = some (.int .u32 a0_4) := (blk_cell BK156.out 4).trans rfl; have hcz34_5 : w33.cell? ⟨gb156, 5, none⟩ = some (.int .u32 a0_5) := (blk_cell BK156.out 5).trans rfl; have hcz34_6 : w33.cell? ⟨gb156, 6, none⟩ = some (.int .u32 a0_6) := (blk_cell BK156.out 6).trans rfl; have hcz34_7 : w33.cell? ⟨gb156, 7, none⟩ = some (.int .u32 a0_7) := (blk_cell BK156.out 7).trans rfl; have hcz34_8 : w33.cell? ⟨gb156, 8, none⟩ = some (.slice A0_8 l0_8.length c0_8) := (blk_cell BK156.out 8).trans rfl; have hcz34_9 : w33.cell? ⟨gb156, 9, none⟩ = some (.slice A0_9 l0_9.length c0_9) := (blk_cell BK156.out 9).trans rfl; have hfz34_0 := blk_frozen BK156.out 0; have hfz34_1 := blk_frozen BK156.out 1; have hfz34_2 := blk_frozen BK156.out 2; have hfz34_3 := blk_frozen BK156.out 3; have hfz34_4 := blk_frozen BK156.out 4; have hfz34_5 := blk_frozen BK156.out 5; have hfz34_6 := blk_frozen BK156.out 6; have hfz34_7 := blk_frozen BK156.out 7; have hfz34_8 := blk_frozen BK156.out 8; have hfz34_9 := blk_frozen BK156.out 9))
      go_ret
      exact ⟨by first | rfl | (simp [errW_none, errW_some] <;> rfl) | (simp [*, errW_none, errW_some] <;> rfl), by repeat (first | (with_reducible first | exact HB.out | apply below_alloc | apply pw_below_drewN | apply below_drew1 | refine below_set ?_ GE156.out) | exact HB.out)⟩
     ·rw [if_neg c32] at H
      have c32b0 : decide (a0_3 < 0) = false := decide_eq_false c32
      clear c32
      by_cases c35 : a0_3 > 65535
      ·rw [if_pos c35] at H
       have c35b0 : decide (65535 < a0_3) = true := decide_eq_true c35
       clear c35
       obtain rfl := Option.some.inj H
       go_enter Tryd.func30, Tryd.ntmps30
       go_wp2_with (first | ((with_reducible refine gate_dst (N := 1) rfl ?_); (try (refine gate_guard (by rfl) ?_; dsimp only)); refine box_event ?hg_12 (N := 1) ?hd_12 (cs := #[.int .i64 a0_0, .int .u32 a0_1, .int .i64 a0_2, .int .i64 a0_3, .int .u32 a0_4, .int .u32 a0_5, .int .u32 a0_6, .int .u32 a0_7, .slice A0_8 l0_8.length c0_8, .slice A0_9 l0_9.length c0_9]) (t := 28) ?hr_12 ?_; (case hd_12 => rfl); (case hg_12 => rfl); (case hr_12 => first | (go_simp; done) | (go_simp; rfl)); intro gb156 hg w36 hbox hb; have n0_ := Aside0.mk (below_step (by repeat (first | (with_reducible first | exact HB.out | apply below_alloc | apply pw_below_drewN | apply below_drew1) | exact HB.out)) hb); have n1_ := Aside0.mk (hbox); have n2_ := Aside0.mk ((by rw [hg]; exact (below_size (by repeat (first | (with_reducible first | exact HB.out | apply below_alloc | apply pw_below_drewN | apply below_drew1) | exact HB.out))) : w.heap.size ≤ gb156)); have n3_ := Aside0.mk ((by rw [hg]; exact (below_size (by repeat (first | (with_reducible first | exact HB.out | apply below_alloc | apply pw_below_drewN | apply below_drew1) | exact HB.out))) : w.heap.size ≤ gb156)); clear HB; have HB := n0_; have BK156 := n1_; have GW156 := n2_; have GE156 := n3_; clear n0_ n1_ n2_ n3_; clear hb hbox hg; have hcz37_0 : w36.cell? ⟨gb156, 0, none⟩ = some (.int .i64 a0_0) := (blk_cell BK156.out 0).trans rfl; have hcz37_1 : w36.cell? ⟨gb156, 1, none⟩ = some (.int .u32 a0_1) := (blk_cell BK156.out 1).trans rfl; have hcz37_2 : w36.cell? ⟨gb156, 2, none⟩ = some (.int .i64 a0_2) := (blk_cell BK156.out 2).trans rfl; have hcz37_3 : w36.cell? ⟨gb156, 3, none⟩ = some (.int .i64 a0_3) := (blk_cell BK156.out 3).trans rfl; have hcz37_4 : w36.cell? ⟨gb156, 4, none⟩ = some (.int .u32 a0_4) := (blk_cell BK156.out 4).trans rfl; have hcz37_5 : w36.cell? ⟨gb156, 5, none⟩ = some (.int .u32 a0_5) := (blk_cell BK156.out 5).trans rfl; have hcz37_6 : w36.cell? ⟨gb156, 6, none⟩ = some (.int .u32 a0_6) := (blk_cell BK156.out 6).trans rfl; have hcz37_7 : w36.cell? ⟨gb156, 7, none⟩ = some (.int .u32 a0_7) := (blk_cell BK156.out 7).trans rfl; have hcz37_8 : w36.cell? ⟨gb156, 8, none⟩ = some (.slice A0_8 l0_8.length c0_8) := (blk_cell BK156.out 8).trans rfl; have hcz37_9 : w36.cell? ⟨gb156, 9, none⟩ = some (.slice A0_9 l0_9.length c0_9) := (blk_cell BK156.out 9).trans rfl; have hfz37_0 := blk_frozen BK156.out 0; have hfz37_1 := blk_frozen BK156.out 1; have hfz37_2 := blk_frozen BK156.out 2; have hfz37_3 := blk_frozen BK156.out 3; have hfz37_4 := blk_frozen BK156.out 4; have hfz37_5 := blk_frozen BK156.out 5; have hfz37_6 := blk_frozen BK156.out 6; have hfz37_7 := blk_frozen BK156.out 7; have hfz37_8 := blk_frozen BK156.out 8; have hfz37_9 := blk_frozen BK156.out 9))
       go_ret
       exact ⟨by first | rfl | (simp [errW_none, errW_some] <;> rfl) | (simp [*, errW_none, errW_some] <;> rfl), by repeat (first | (with_reducible first | exact HB.out | apply below_alloc | apply pw_below_drewN | apply below_drew1 | refine below_set ?_ GE156.out) | exact HB.out)⟩
      ·rw [if_neg c35] at H
       have c35b0 : decide (65535 < a0_3) = false := decide_eq_false c35
       clear c35
       by_cases c38 : (l0_8.length : Int) < 1
       ·rw [if_pos c38] at H
        have c38b0 : decide ((l0_8.length : Int) < 1) = true := decide_eq_true c38
        have c38b1 : decide (l0_8.length < 1) = true := decide_eq_true (by omega)
        clear c38
        obtain rfl := Option.some.inj H
        go_enter Tryd.func30, Tryd.ntmps30
        go_wp2_with (first | ((with_reducible refine gate_dst (N := 1) rfl ?_); (try (refine gate_guard (by rfl) ?_; dsimp only)); refine box_event ?hg_13 (N := 1) ?hd_13 (cs := #[.int .i64 a0_0, .int .u32 a0_1, .int .i64 a0_2, .int .i64 a0_3, .int .u32 a0_4, .int .u32 a0_5, .int .u32 a0_6, .int .u32 a0_7, .slice A0_8 l0_8.length c0_8, .slice A0_9 l0_9.length c0_9]) (t := 28) ?hr_13 ?_; (case hd_13 => rfl); (case hg_13 => rfl); (case hr_13 => first | (go_simp; done) | (go_simp; rfl)); intro gb156 hg w39 hbox hb; have n0_ := Aside0.mk (below_step (by repeat (first | (with_reducible first | exact HB.out | apply below_alloc | apply pw_below_drewN | apply below_drew1) | exact HB.out)) hb); have n1_ := Aside0.mk (hbox); have n2_ := Aside0.mk ((by rw [hg]; exact (below_size (by repeat (first | (with_reducible first | exact HB.out | apply below_alloc | apply pw_below_drewN | apply below_drew1) | exact HB.out))) : w.heap.size ≤ gb156)); have n3_ := Aside0.mk ((by rw [hg]; exact (below_size (by repeat (first | (with_reducible first | exact HB.out | apply below_alloc | apply pw_below_drewN | apply below_drew1) | exact HB.out))) : w.heap.size ≤ gb156)); clear HB; have HB := n0_; have BK156 := n1_; have GW156 := n2_; have GE156 := n3_; clear n0_ n1_ n2_ n3_; clear hb hbox hg; have hcz40_0 : w39.cell? ⟨gb156, 0, none⟩ = some (.int .i64 a0_0) := (blk_cell BK156.out 0).trans rfl; have hcz40_1 : w39.cell? ⟨gb156, 1, none⟩ = some (.int .u32 a0_1) := (blk_cell BK156.out 1).trans rfl; have hcz40_2 : w39.cell? ⟨gb156, 2, none⟩ = some (.int .i64 a0_2) := (blk_cell BK156.out 2).trans rfl; have hcz40_3 : w39.cell? ⟨gb156, 3, none⟩ = some (.int .i64 a0_3) := (blk_cell BK156.out 3).trans rfl; have hcz40_4 : w39.cell? ⟨gb156, 4, none⟩ = some (.int .u32 a0_4) := (blk_cell BK156.out 4).trans rfl; have hcz40_5 : w39.cell? ⟨gb156, 5, none⟩ = some (.int .u32 a0_5) := (blk_cell BK156.out 5).trans rfl; have hcz40_6 : w39.cell? ⟨gb156, 6, none⟩ = some (.int .u32 a0_6) := (blk_cell BK156.out 6).trans rfl; have hcz40_7 : w39.cell? ⟨gb156, 7, none⟩ = some (.int .u32 a0_7) := (blk_cell BK156.out 7).trans rfl; have hcz40_8 : w39.cell? ⟨gb156, 8, none⟩ = some (.slice A0_8 l0_8.length c0_8) := (blk_cell BK156.out 8).trans rfl; have hcz40_9 : w39.cell? ⟨gb156, 9, none⟩ = some (.slice A0_9 l0_9.length c0_9) := (blk_cell BK156.out 9).trans rfl; have hfz40_0 := blk_frozen BK156.out 0; have hfz40_1 := blk_frozen BK156.out 1; have hfz40_2 := blk_frozen BK156.out 2; have hfz40_3 := blk_frozen BK156.out 3; have hfz40_4 := blk_frozen BK156.out 4; have hfz40_5 := blk_frozen BK156.out 5; have hfz40_6 := blk_frozen BK156.out 6; have hfz40_7 := blk_frozen BK156.out 7; have hfz40_8 := blk_frozen BK156.out 8; have hfz40_9 := blk_frozen BK156.out 9))
        go_ret
        exact ⟨by first | rfl | (simp [errW_none, errW_some] <;> rfl) | (simp [*, errW_none, errW_some] <;> rfl), by repeat (first | (with_reducible first | exact HB.out | apply below_alloc | apply pw_below_drewN | apply below_drew1 | refine below_set ?_ GE156.out) | exact HB.out)⟩
       ·rw [if_neg c38] at H
        have c38b0 : decide ((l0_8.length : Int) < 1) = false := decide_eq_false c38
        have c38b1 : decide (l0_8.length < 1) = false := decide_eq_false (by omega)
        clear c38
        by_cases c41 : (l0_8.length : Int) > 16
        ·rw [if_pos c41] at H
         have c41b0 : decide (16 < (l0_8.length : Int)) = true := decide_eq_true c41
         have c41b1 : decide (16 < l0_8.length) = true := decide_eq_true (by omega)
         clear c41
         obtain rfl := Option.some.inj H
         go_enter Tryd.func30, Tryd.ntmps30
         go_wp2_with (first | ((with_reducible refine gate_dst (N := 1) rfl ?_); (try (refine gate_guard (by rfl) ?_; dsimp only)); refine box_event ?hg_14 (N := 1) ?hd_14 (cs := #[.int .i64 a0_0, .int .u32 a0_1, .int .i64 a0_2, .int .i64 a0_3, .int .u32 a0_4, .int .u32 a0_5, .int .u32 a0_6, .int .u32 a0_7, .slice A0_8 l0_8.length c0_8, .slice A0_9 l0_9.length c0_9]) (t := 28) ?hr_14 ?_; (case hd_14 => rfl); (case hg_14 => rfl); (case hr_14 => first | (go_simp; done) | (go_simp; rfl)); intro gb156 hg w42 hbox hb; have n0_ := Aside0.mk (below_step (by repeat (first | (with_reducible first | exact HB.out | apply below_alloc | apply pw_below_drewN | apply below_drew1) | exact HB.out)) hb); have n1_ := Aside0.mk (hbox); have n2_ := Aside0.mk ((by rw [hg]; exact (below_size (by repeat (first | (with_reducible first | exact HB.out | apply below_alloc | apply pw_below_drewN | apply below_drew1) | exact HB.out))) : w.heap.size ≤ gb156)); have n3_ := Aside0.mk ((by rw [hg]; exact (below_size (by repeat (first | (with_reducible first | exact HB.out | apply below_alloc | apply pw_below_drewN | apply below_drew1) | exact HB.out))) : w.heap.size ≤ gb156)); clear HB; have HB := n0_; have BK156 := n1_; have GW156 := n2_; have GE156 := n3_; clear n0_ n1_ n2_ n3_; clear hb hbox hg; have hcz43_0 : w42.cell? ⟨gb156, 0, none⟩ = some (.int .i64 a0_0) := (blk_cell BK156.out 0).trans rfl; have hcz43_1 : w42.cell? ⟨gb156, 1, none⟩ = some (.int .u32 a0_1) := (blk_cell BK156.out 1).trans rfl; have hcz43_2 : w42.cell? ⟨gb156, 2, none⟩ = some (.int .i64 a0_2) := (blk_cell BK156.out 2).trans rfl; have hcz43_3 : w42.cell? ⟨gb156, 3, none⟩ = some (.int .i64 a0_3) := (blk_cell BK156.out 3).trans rfl; have hcz43_4 : w42.cell? ⟨gb156, 4, none⟩ = some (.int .u32 a0_4) := (blk_cell BK156.out 4).trans rfl; have hcz43_5 : w42.cell? ⟨gb156, 5, none⟩ = some (.int .u32 a0_5) := (blk_cell BK156.out 5).trans rfl; have hcz43_6 : w42.cell? ⟨gb156, 6, none⟩ = some (.int .u32 a0_6) := (blk_cell BK156.out 6).trans rfl; have hcz43_7 : w42.cell? ⟨gb156, 7, none⟩ = some (.int .u32 a0_7) := (blk_cell BK156.out 7).trans rfl; have hcz43_8 : w42.cell? ⟨gb156, 8, none⟩ = some (.slice A0_8 l0_8.length c0_8) := (blk_cell BK156.out 8).trans rfl; have hcz43_9 : w42.cell? ⟨gb156, 9, none⟩ = some (.slice A0_9 l0_9.length c0_9) := (blk_cell BK156.out 9).trans rfl; have hfz43_0 := blk_frozen BK156.out 0; have hfz43_1 := blk_frozen BK156.out 1; have hfz43_2 := blk_frozen BK156.out 2; have hfz43_3 := blk_frozen BK156.out 3; have hfz43_4 := blk_frozen BK156.out 4; have hfz43_5 := blk_frozen BK156.out 5; have hfz43_6 := blk_frozen BK156.out 6; have hfz43_7 := blk_frozen BK156.out 7; have hfz43_8 := blk_frozen BK156.out 8; have hfz43_9 := blk_frozen BK156.out 9))
         go_ret
         exact ⟨by first | rfl | (simp [errW_none, errW_some] <;> rfl) | (simp [*, errW_none, errW_some] <;> rfl), by repeat (first | (with_reducible first | exact HB.out | apply below_alloc | apply pw_below_drewN | apply below_drew1 | refine below_set ?_ GE156.out) | exact HB.out)⟩
        ·rw [if_neg c41] at H
         have c41b0 : decide (16 < (l0_8.length : Int)) = false := decide_eq_false c41
         have c41b1 : decide (16 < l0_8.length) = false := decide_eq_false (by omega)
         clear c41
         replace H := Option.bind_eq_some_iff.mp H
         obtain ⟨⟨t161, t162⟩, A440, H⟩ := H
         replace H : (some (t162 == 0)) = some r := H
         have A44 := Aside0.mk A440
         clear A440
         obtain rfl := Option.some.inj H
         go_enter Tryd.func30, Tryd.ntmps30
         go_wp2_with (first | ((with_reducible refine gate_dst (N := 1) rfl ?_); (try (refine gate_guard (by rfl) ?_; dsimp only)); refine box_event ?hg_15 (N := 1) ?hd_15 (cs := #[.int .i64 a0_0, .int .u32 a0_1, .int .i64 a0_2, .int .i64 a0_3, .int .u32 a0_4, .int .u32 a0_5, .int .u32 a0_6, .int .u32 a0_7, .slice A0_8 l0_8.length c0_8, .slice A0_9 l0_9.length c0_9]) (t := 28) ?hr_15 ?_; (case hd_15 => rfl); (case hg_15 => rfl); (case hr_15 => first | (go_simp; done) | (go_simp; rfl)); intro gb156 hg w45 hbox hb; have n0_ := Aside0.mk (below_step (by repeat (first | (with_reducible first | exact HB.out | apply below_alloc | apply pw_below_drewN | apply below_drew1) | exact HB.out)) hb); have n1_ := Aside0.mk (hbox); have n2_ := Aside0.mk ((by rw [hg]; exact (below_size (by repeat (first | (with_reducible first | exact HB.out | apply below_alloc | apply pw_below_drewN | apply below_drew1) | exact HB.out))) : w.heap.size ≤ gb156)); have n3_ := Aside0.mk ((by rw [hg]; exact (below_size (by repeat (first | (with_reducible first | exact HB.out | apply below_alloc | apply pw_below_drewN | apply below_drew1) | exact HB.out))) : w.heap.size ≤ gb156)); clear HB; have HB := n0_; have BK156 := n1_; have GW156 := n2_; have GE156 := n3_; clear n0_ n1_ n2_ n3_; clear hb hbox hg; have hcz46_0 : w45.cell? ⟨gb156, 0, none⟩ = some (.int .i64 a0_0) := (blk_cell BK156.out 0).trans rfl; have hcz46_1 : w45.cell? ⟨gb156, 1, none⟩ = some (.int .u32 a0_1) := (blk_cell BK156.out 1).trans rfl; have hcz46_2 : w45.cell? ⟨gb156, 2, none⟩ = some (.int .i64 a0_2) := (blk_cell BK156.out 2).trans rfl; have hcz46_3 : w45.cell? ⟨gb156, 3, none⟩ = some (.int .i64 a0_3) := (blk_cell BK156.out 3).trans rfl; have hcz46_4 : w45.cell? ⟨gb156, 4, none⟩ = some (.int .u32 a0_4) := (blk_cell BK156.out 4).trans rfl; have hcz46_5 : w45.cell? ⟨gb156, 5, none⟩ = some (.int .u32 a0_5) := (blk_cell BK156.out 5).trans rfl; have hcz46_6 : w45.cell? ⟨gb156, 6, none⟩ = some (.int .u32 a0_6) := (blk_cell BK156.out 6).trans rfl; have hcz46_7 : w45.cell? ⟨gb156, 7, none⟩ = some (.int .u32 a0_7) := (blk_cell BK156.out 7).trans rfl; have hcz46_8 : w45.cell? ⟨gb156, 8, none⟩ = some (.slice A0_8 l0_8.length c0_8) := (blk_cell BK156.out 8).trans rfl; have hcz46_9 : w45.cell? ⟨gb156, 9, none⟩ = some (.slice A0_9 l0_9.length c0_9) := (blk_cell BK156.out 9).trans rfl; have hfz46_0 := blk_frozen BK156.out 0; have hfz46_1 := blk_frozen BK156.out 1; have hfz46_2 := blk_frozen BK156.out 2; have hfz46_3 := blk_frozen BK156.out 3; have hfz46_4 := blk_frozen BK156.out 4; have hfz46_5 := blk_frozen BK156.out 5; have hfz46_6 := blk_frozen BK156.out 6; have hfz46_7 := blk_frozen BK156.out 7; have hfz46_8 := blk_frozen BK156.out 8; have hfz46_9 := blk_frozen BK156.out 9) | ((with_reducible refine gate_callee (f := 32) rfl ?_); refine goesL_ (some 48) rfl rfl Tryd.func32 (by kernel_rfl) rfl #[.slice A0_9 l0_9.length c0_9] rfl (by (try simp only [List.map_toArray, List.map_cons, List.map_nil]); first | done | rfl | (simp only [List.length_drop, List.length_take]; rfl)) ?_; (with_reducible refine (lessorref02_Encode.calls k _ _ l0_9 t161 t162 _ ?side1_16 ?side2_16 A44.out).mono ?_); (case side1_16 => repeat (first | exact (Kd.C_below HR0_9.out HB.out) | exact (Kd.C_below (Aside0.out (by assumption)) HB.out) | (with_reducible refine Kd.C_alloc ?_ _) | (with_reducible refine Kd.C_drewN ?_ _) | (with_reducible refine Kd.C_drew ?_))); (case side2_16 => exact HC0_9.out); rintro e w47 ⟨v163, rfl, ho0, hb⟩; refine ⟨_, rfl, ?_⟩; have n0_ := Aside0.mk (Kd.R_lower ho0 (below_size (by repeat (first | (with_reducible first | exact HB.out | apply below_alloc | apply pw_below_drewN | apply below_drew1 | refine below_set ?_ GE156.out) | exact HB.out)))); have n1_ := Aside0.mk (blk_below (g := gb156) (o := .cells #[.int .i64 a0_0, .int .u32 a0_1, .int .i64 a0_2, .int .i64 a0_3, .int .u32 a0_4, .int .u32 a0_5, .int .u32 a0_6, .int .u32 a0_7, .slice A0_8 l0_8.length c0_8, .slice A0_9 l0_9.length c0_9] 28 (0, 0)) (by (with_reducible repeat (first | refine blk_drewN ?_ _ | refine blk_drew ?_ | refine blk_alloc ?_ _)); exact BK156.out) hb); have n2_ := Aside0.mk (below_step (by repeat (first | (with_reducible first | exact HB.out | apply below_alloc | apply pw_below_drewN | apply below_drew1 | refine below_set ?_ GE156.out) | exact HB.out)) hb); clear BK156; clear HB; have HO164 := n0_; have BK156 := n1_; have HB := n2_; clear n0_ n1_ n2_; (try clear hb); (try clear hb2); (try clear hk); (try clear hi); (try clear ho0)))
         go_ret
         exact ⟨by first | rfl | (simp [errW_none, errW_some] <;> rfl) | (simp [*, errW_none, errW_some] <;> rfl), by repeat (first | (with_reducible first | exact HB.out | apply below_alloc | apply pw_below_drewN | apply below_drew1 | refine below_set ?_ GE156.out) | exact HB.out)⟩
  ·rw [if_neg c25] at H
   have c25b0 : (a0_0 == 2) = false := beq_eq_false_iff_ne.mpr c25
   have c25b1 : (a0_0 != 2) = true := bne_iff_ne.mpr c25
   obtain rfl := Option.some.inj H
   go_enter Tryd.func30, Tryd.ntmps30
   go_wp2_with (first | ((with_reducible refine gate_dst (N := 1) rfl ?_); (try (refine gate_guard (by rfl) ?_; dsimp only)); refine box_event ?hg_17 (N := 1) ?hd_17 (cs := #[.int .i64 a0_0, .int .u32 a0_1, .int .i64 a0_2, .int .i64 a0_3, .int .u32 a0_4, .int .u32 a0_5, .int .u32 a0_6, .int .u32 a0_7, .slice A0_8 l0_8.length c0_8, .slice A0_9 l0_9.length c0_9]) (t := 28) ?hr_17 ?_; (case hd_17 => rfl); (case hg_17 => rfl); (case hr_17 => first | (go_simp; done) | (go_simp; rfl)); intro gb156 hg w48 hbox hb; have n0_ := Aside0.mk (below_step (by repeat (first | (with_reducible first | exact HB.out | apply below_alloc | apply pw_below_drewN | apply below_drew1) | exact HB.out)) hb); have n1_ := Aside0.mk (hbox); have n2_ := Aside0.mk ((by rw [hg]; exact (below_size (by repeat (first | (with_reducible first | exact HB.out | apply below_alloc | apply pw_below_drewN | apply below_drew1) | exact HB.out))) : w.heap.size ≤ gb156)); have n3_ := Aside0.mk ((by rw [hg]; exact (below_size (by repeat (first | (with_reducible first | exact HB.out | apply below_alloc | apply pw_below_drewN | apply below_drew1) | exact HB.out))) : w.heap.size ≤ gb156)); clear HB; have HB := n0_; have BK156 := n1_; have GW156 := n2_; have GE156 := n3_; clear n0_ n1_ n2_ n3_; clear hb hbox hg; have hcz49_0 : w48.cell? ⟨gb156, 0, none⟩ = some (.int .i64 a0_0) := (blk_cell BK156.out 0).trans rfl; have hcz49_1 : w48.cell? ⟨gb156, 1, none⟩ = some (.int .u32 a0_1) := (blk_cell BK156.out 1).trans rfl; have hcz49_2 : w48.cell? ⟨gb156, 2, none⟩ = some (.int .i64 a0_2) := (blk_cell BK156.out 2).trans rfl; have hcz49_3 : w48.cell? ⟨gb156, 3, none⟩ = some (.int .i64 a0_3) := (blk_cell BK156.out 3).trans rfl; have hcz49_4 : w48.cell? ⟨gb156, 4, none⟩ = some (.int .u32 a0_4) := (blk_cell BK156.out 4).trans rfl; have hcz49_5 : w48.cell? ⟨gb156, 5, none⟩ = some (.int .u32 a0_5) := (blk_cell BK156.out 5).trans rfl; have hcz49_6 : w48.cell? ⟨gb156, 6, none⟩ = some (.int .u32 a0_6) := (blk_cell BK156.out 6).trans rfl; have hcz49_7 : w48.cell? ⟨gb156, 7, none⟩ = some (.int .u32 a0_7) := (blk_cell BK156.out 7).trans rfl; have hcz49_8 : w48.cell? ⟨gb156, 8, none⟩ = some (.slice A0_8 l0_8.length c0_8) := (blk_cell BK156.out 8).trans rfl; have hcz49_9 : w48.cell? ⟨gb156, 9, none⟩ = some (.slice A0_9 l0_9.length c0_9) := (blk_cell BK156.out 9).trans rfl; have hfz49_0 := blk_frozen BK156.out 0; have hfz49_1 := blk_frozen BK156.out 1; have hfz49_2 := blk_frozen BK156.out 2; have hfz49_3 := blk_frozen BK156.out 3; have hfz49_4 := blk_frozen BK156.out 4; have hfz49_5 := blk_frozen BK156.out 5; have hfz49_6 := blk_frozen BK156.out 6; have hfz49_7 := blk_frozen BK156.out 7; have hfz49_8 := blk_frozen BK156.out 8; have hfz49_9 := blk_frozen BK156.out 9))
   go_ret
   exact ⟨by first | rfl | (simp [errW_none, errW_some] <;> rfl) | (simp [*, errW_none, errW_some] <;> rfl), by repeat (first | (with_reducible first | exact HB.out | apply below_alloc | apply pw_below_drewN | apply below_drew1 | refine below_set ?_ GE156.out) | exact HB.out)⟩

end Go.Proofs.YtmbfdmceameghaaDoor.Pr
end

section
-- written by a program of this session (wip/tools/gen.py) over the kit's print
namespace Go.Proofs.YtmbfdmceameghaaDoor.Pr
open Go.RowKit Go.Proofs.YtmbfdmceameghaaDoorW.PrintWords Go.Proofs.YtmbfdmceameghaaDoorW.PrintLast Go.Proofs.YtmbfdmceameghaaDoorW.PrintMore
attribute [local go_sem] max2_int min2_int max_two min_two max_three min_three max_four min_four   -- for this text's walks alone
set_option linter.unusedVariables false
set_option linter.unusedSimpArgs false

/-! ### lessorref03_number: function 31 -/
def lessorref03_number.l0 : Nat → Int → List Int → Int → Option (List Int)
 | 0, _, _, _ => none
 | k + 1, x0, x5, x6 => if x6 ≥ 0 then (if 0 ≤ x6 then (if x6 < (x5.length : Int) then (lessorref03_number.l0 k (wrap64 (Int.tdiv x0 256)) (x5.set (x6 : Int).toNat ((Int.tmod x0 256) % 256)) (wrap64 (x6 - 1))) else (none)) else (none)) else (some x5)
def lessorref03_number.f (k : Nat) (a0 : Int) (a1 : Int) : Option (List Int) := if 0 ≤ a1 then (if (a1 : Int).toNat ≤ 281474976710656 then (lessorref03_number.l0 k a0 (List.replicate (a1 : Int).toNat 0) (wrap64 (a1 - 1))) else (none)) else (none)
theorem lessorref03_number.mono_l : ∀ k, (∀ y0 y1 y2, LeO (lessorref03_number.l0 k y0 y1 y2) (lessorref03_number.l0 (k + 1) y0 y1 y2))
 | 0 => fun _ _ _ r h => by simp [lessorref03_number.l0] at h
 | k + 1 => by
  have ih0 := lessorref03_number.mono_l k
  ·intro y0 y1 y2
   unfold lessorref03_number.l0
   repeat' first
   | (with_reducible exact ih0 _ _ _)
   | (with_reducible exact LeO.refl _)
   | (with_reducible exact LeO.none _)
   | (with_reducible refine LeO.ite ?_ ?_)
   | (with_reducible refine LeO.bind ?_ (fun _ => ?_))
   | exact ih0 _ _ _
   | exact LeO.none _
   | refine LeO.ite ?_ ?_
   | refine LeO.bind ?_ (fun _ => ?_)
theorem lessorref03_number.mono : ∀ a0 a1 k, LeO (lessorref03_number.f k a0 a1) (lessorref03_number.f (k + 1) a0 a1) := by
 intro a0 a1 k
 have ih0 := lessorref03_number.mono_l k
 unfold lessorref03_number.f
 repeat' first
   | (with_reducible exact ih0 _ _ _)
   | (with_reducible exact LeO.refl _)
   | (with_reducible exact LeO.none _)
   | (with_reducible refine LeO.ite ?_ ?_)
   | (with_reducible refine LeO.bind ?_ (fun _ => ?_))
   | exact ih0 _ _ _
   | exact LeO.none _
   | refine LeO.ite ?_ ?_
   | refine LeO.bind ?_ (fun _ => ?_)
set_option maxHeartbeats 8000000 in
set_option maxRecDepth 100000 in
theorem lessorref03_number.calls (k : Nat) (a0 : Int) (a1 : Int) (r : List Int) (w : World) (h : lessorref03_number.f k a0 a1 = some r) :
  Calls Tryd.prog 31 #[.int .i64 a0, .int .i64 a1] w fun e w' => ∃ v0_ : Value, e = .returned (v0_) ∧ Kd.R (Kd.int .u8) 5 w' w.heap.size (fun _ => True) v0_ r ∧ Below w.heap.size w w' := by
 have HB := Aside0.mk (Below.refl w.heap.size w)
 have H : (if 0 ≤ a1 then (if (a1 : Int).toNat ≤ 281474976710656 then (lessorref03_number.l0 k a0 (List.replicate (a1 : Int).toNat 0) (wrap64 (a1 - 1))) else (none)) else (none)) = some r := h
 clear h
 by_cases c3 : 0 ≤ a1
 ·rw [if_pos c3] at H
  have c3b0 := eq_true c3
  have c3b1 : decide (0 ≤ a1) = true := decide_eq_true c3
  clear c3
  by_cases c4 : (a1 : Int).toNat ≤ 281474976710656
  ·rw [if_pos c4] at H
   have c4b0 := eq_true c4
   have c4b1 : decide ((a1 : Int).toNat ≤ 281474976710656) = true := decide_eq_true c4
   clear c4
   obtain ⟨y165, hy165⟩ : ∃ y_ : List Int, y_ = (List.replicate (a1 : Int).toNat 0) := ⟨_, rfl⟩
   replace H : (lessorref03_number.l0 k a0 y165 (wrap64 (a1 - 1))) = some r := by first | (rw [hy165]; with_reducible exact H) | (have H2_ := (Option.bind_some _ _).symm.trans H; rw [hy165]; with_reducible exact H2_) | (have H2_ := (Option.bind_some _ _).symm.trans H; with_reducible exact H2_) | with_reducible exact H | (rw [hy165]; exact H) | exact H
   have Ny165 := Aside0.mk hy165
   clear hy165
   have H' := Aside0.mk H
   clear H
   go_enter Tryd.func31, Tryd.ntmps31
   go_wp2_with (first | ((with_reducible refine gate_dst (N := 8) rfl ?_); refine Kd.R_make (Kd.int .u8) _ 5 rfl (N := 8) rfl 22 _ _ rfl a1 rfl rfl Tryd.underlying22 (.int .u8 0) 1 info5 rfl (by decide) (by omega) 0 (ok := fun _ => True) (okp := fun _ => True) rfl (fun _ hk => hk) trivial (of_decide_eq_true (by first | (with_reducible assumption) | assumption)) (Nat.le_trans (Nat.mul_le_mul_right _ (of_decide_eq_true (by first | (with_reducible assumption) | assumption) : a1.toNat ≤ 281474976710656)) (by omega)) (Below.refl _ _) (Nat.le_refl _) ?_; intro v166 w5 ho6 hb hg_ hnew_; clear hg_ hnew_; (first | rw [← Ny165.out] at ho6 | (simp only [Int.reduceToNat] at ho6; rw [← Ny165.out] at ho6)); have n0_ := Aside0.mk (Kd.R_lower ho6 (below_size (by repeat (first | (with_reducible first | exact HB.out | apply below_alloc | apply pw_below_drewN | apply below_drew1) | exact HB.out)))); have n1_ := Aside0.mk (below_step (by repeat (first | (with_reducible first | exact HB.out | apply below_alloc | apply pw_below_drewN | apply below_drew1) | exact HB.out)) hb); clear HB; have HO167 := n0_; have HB := n1_; clear n0_ n1_; clear hb ho6))
   go_loopg [0, 6] k (fun kq v0 v6 w' => ∃ (x0_1 : Int) (x5_1 : List Int) (x6_1 : Int), v0 = .int .i64 x0_1 ∧ v6 = .int .i64 x6_1 ∧ Aside0 (lessorref03_number.l0 kq x0_1 x5_1 x6_1 = some r) ∧ Aside0 (kq ≤ k) ∧ Aside0 (Kd.R (Kd.int .u8) 5 w' w.heap.size (fun _ => True) v166 x5_1) ∧ Aside0 (Below w.heap.size w w'))
   case atStart => exact ⟨(a0), (y165), (wrap64 (a1 - 1)), (by first | rfl | (simp; done) | (simp [*]; done)), (by first | rfl | (simp; done) | (simp [*]; done)), H', ⟨Nat.le_refl _⟩, ⟨by (with_reducible repeat (first | apply Kd.R_alloc | apply Kd.R_drewN | apply Kd.R_drew)); exact HO167.out⟩, ⟨by repeat (first | (with_reducible first | exact HB.out | apply below_alloc | apply pw_below_drewN | apply below_drew1) | exact HB.out)⟩⟩
   case round =>
    clear H'
    try clear p2
    try clear c3
    try clear c3b0
    try clear c3b1
    try clear c4
    try clear c4b0
    try clear c4b1
    try clear p6
    obtain ⟨x0_1, x5_1, x6_1, rfl, rfl, HA, HK1, HO_5, HB⟩ := hrel
    cases gk with
    | zero => exact absurd HA.out (by simp [lessorref03_number.l0])
    | succ k1 =>
     have H := HA.out
     clear HA
     simp only [lessorref03_number.l0] at H
     by_cases c7 : x6_1 ≥ 0
     ·rw [if_pos c7] at H
      have c7b0 : decide (0 ≤ x6_1) = true := decide_eq_true c7
      clear c7
      by_cases c8 : 0 ≤ x6_1
      ·rw [if_pos c8] at H
       have c8b0 : decide (0 ≤ x6_1) = true := decide_eq_true c8
       clear c8
       by_cases c9 : x6_1 < (x5_1.length : Int)
       ·rw [if_pos c9] at H
        have c9b0 : decide (x6_1 < (x5_1.length : Int)) = true := decide_eq_true c9
        clear c9
        obtain ⟨y168, hy168⟩ : ∃ y_ : List Int, y_ = (x5_1.set (x6_1 : Int).toNat ((Int.tmod x0_1 256) % 256)) := ⟨_, rfl⟩
        replace H : (lessorref03_number.l0 k1 (wrap64 (Int.tdiv x0_1 256)) y168 (wrap64 (x6_1 - 1))) = some r := by first | (rw [hy168]; with_reducible exact H) | (have H2_ := (Option.bind_some _ _).symm.trans H; rw [hy168]; with_reducible exact H2_) | (have H2_ := (Option.bind_some _ _).symm.trans H; with_reducible exact H2_) | with_reducible exact H | (rw [hy168]; exact H) | exact H
        have Ny168 := Aside0.mk hy168
        clear hy168
        have H' := Aside0.mk H
        clear H
        have p10 : 0 ≤ (x6_1 : Int) := of_decide_eq_true (by first | (with_reducible assumption) | assumption)
        have q10 : (x6_1 : Int) < ((x5_1.length : Int) : Int) := of_decide_eq_true (by first | (with_reducible assumption) | assumption)
        obtain ⟨go10, co10, eo10, gb10, gl10, cl10, HG10⟩ := Kd.R_form HO_5.out (by omega)
        (first | cases eo10 | (injection eo10 with ea_ en_ ec_; (first | subst ea_ | (injection ea_ with ea_; subst ea_)); subst ec_; clear en_))
        have GB10 := Aside0.mk gb10
        have GG10 := Aside0.mk HG10
        clear gb10 gl10 HG10
        obtain ⟨hx10_0, hf10_0⟩ := Kd.R_celln 0 HO_5.out (x6_1 : Int) p10 q10
        replace p10 := eq_true p10
        replace q10 := eq_true q10
        have HP11 := Kd.R_putg HO_5.out (x6_1 : Int) ((Int.tmod x0_1 256) % 256)
        go_wp2_with (first | ((with_reducible refine gate_store (t := 5) (p := 20) rfl ?_); refine store_event (t := 5) (p := 20) (v := ?vo_w12) (w1 := (wr.setCell ⟨go10, (x6_1 : Int).toNat, none⟩ (.int .u8 ((Int.tmod x0_1 256) % 256)))) ?hg_1 ?ho ?hn ?hr_1 ?_; (case ho => rfl); (case hg_1 => rfl); (case hn => rfl); (case hr_1 => first | (go_simp; done) | (go_simp; rfl)); intro w12 hw; have hg : wr.grownBy w12 (some go10) := (by rw [hw]; exact HP11.2); have hp_ : Kd.R (Kd.int .u8) 5 w12 w.heap.size (fun _ => True) (.slice (some ⟨go10, 0, none⟩) x5_1.length co10) y168 := (by rw [hw, Ny168.out]; exact HP11.1); clear HP11; have n0_ := Aside0.mk (hp_); have n1_ := Aside0.mk ((by rw [hw]; exact below_set (HB.out) GB10.out : Below w.heap.size w w12)); clear HO_5; clear HB; have HO_5 := n0_; have HB := n1_; clear n0_ n1_; clear hg hw hp_))
        go_roundg k1
        case measure => have := HK1.out; omega
        case rel => exact ⟨(wrap64 (Int.tdiv x0_1 256)), (y168), (wrap64 (x6_1 - 1)), (by first | rfl | (simp; done) | (simp [*]; done)), (by first | rfl | (simp; done) | (simp [*]; done)), H', ⟨by have := HK1.out; omega⟩, ⟨by (with_reducible repeat (first | apply Kd.R_alloc | apply Kd.R_drewN | apply Kd.R_drew)); exact HO_5.out⟩, ⟨by repeat (first | (with_reducible first | exact HB.out | apply below_alloc | apply pw_below_drewN | apply below_drew1) | exact HB.out)⟩⟩
       ·rw [if_neg c9] at H
        exact absurd H (by simp)
      ·rw [if_neg c8] at H
       exact absurd H (by simp)
     ·rw [if_neg c7] at H
      have c7b0 : decide (0 ≤ x6_1) = false := decide_eq_false c7
      clear c7
      obtain rfl := Option.some.inj H
      go_wp2
      go_ret
      exact ⟨_, by first | rfl | (simp [errW_none, errW_some] <;> rfl) | (simp [*, errW_none, errW_some] <;> rfl), by (with_reducible repeat (first | apply Kd.R_alloc | apply Kd.R_drewN | apply Kd.R_drew)); exact HO_5.out, by repeat (first | (with_reducible first | exact HB.out | apply below_alloc | apply pw_below_drewN | apply below_drew1) | exact HB.out)⟩
  ·rw [if_neg c4] at H
   exact absurd H (by simp)
 ·rw [if_neg c3] at H
  exact absurd H (by simp)

end Go.Proofs.YtmbfdmceameghaaDoor.Pr
end
