-- written by a program of this session (wip/tools/gen.py) over the kit's print
import Derived.Test.YtmbfdmceameghaaPr0
import Derived.Test.YtmbfdmceameghaaPrF27
import Derived.Test.YtmbfdmceameghaaPrF28
namespace Go.Proofs.Ytmbfdmceameghaa.Pr
open Go.RowKit Go.Proofs.YtmbfdmceameghaaW.PrintWords Go.Proofs.YtmbfdmceameghaaW.PrintLast Go.Proofs.YtmbfdmceameghaaW.PrintMore
attribute [local go_sem] max2_int min2_int max_two min_two max_three min_three max_four min_four   -- for this text's walks alone
set_option linter.unusedVariables false
set_option linter.unusedSimpArgs false

/-! ### lessorref03_Asked: function 13 -/
def lessorref03_Asked.j0 : Nat → Int → Int → Int → Int → Int → Int → Int → Int → Int → Int → List Int → List (S42) → Option (Int × Int)
  | 0, _, _, _, _, _, _, _, _, _, _, _, _ => none
  | k + 1, x4, x5, x275000, x275001, x275002, x275003, x275004, x275005, x275006, x275007, x275008, x275009 => (lessorref02_Find.f k x275009 51).bind fun bt280 => (if (bt280.1.length : Int) = 4 then ((lessorref03_of.f k bt280.1).bind fun t284 => (some (x4, t284))) else (some (x4, x5)))
def lessorref03_Asked.f (k : Nat) (a0_0 : Int) (a0_1 : Int) (a0_2 : Int) (a0_3 : Int) (a0_4 : Int) (a0_5 : Int) (a0_6 : Int) (a0_7 : Int) (l0_8 : List Int) (l0_9 : List (S42)) : Option (Int × Int) := (lessorref02_Find.f k l0_9 50).bind fun bt275 => (if (bt275.1.length : Int) = 4 then ((lessorref03_of.f k bt275.1).bind fun t279 => (lessorref03_Asked.j0 k ((t279) % 4294967296) 0 a0_0 a0_1 a0_2 a0_3 a0_4 a0_5 a0_6 a0_7 l0_8 l0_9)) else (lessorref03_Asked.j0 k a0_4 0 a0_0 a0_1 a0_2 a0_3 a0_4 a0_5 a0_6 a0_7 l0_8 l0_9))
theorem lessorref03_Asked.mono_l : ∀ k, (∀ y0 y1 y2 y3 y4 y5 y6 y7 y8 y9 y10 y11, LeO (lessorref03_Asked.j0 k y0 y1 y2 y3 y4 y5 y6 y7 y8 y9 y10 y11) (lessorref03_Asked.j0 (k + 1) y0 y1 y2 y3 y4 y5 y6 y7 y8 y9 y10 y11))
  | 0 => fun _ _ _ _ _ _ _ _ _ _ _ _ r h => by simp [lessorref03_Asked.j0] at h
  | k + 1 => by
    have ih0 := lessorref03_Asked.mono_l k
    · intro y0 y1 y2 y3 y4 y5 y6 y7 y8 y9 y10 y11
      unfold lessorref03_Asked.j0
      repeat' first
      | (with_reducible exact ih0 _ _ _ _ _ _ _ _ _ _ _ _)
      | (with_reducible exact lessorref02_Find.mono _ _ _)
      | (with_reducible exact lessorref03_of.mono _ _)
      | (with_reducible exact LeO.refl _)
      | (with_reducible exact LeO.none _)
      | (with_reducible refine LeO.ite ?_ ?_)
      | (with_reducible refine LeO.bind ?_ (fun _ => ?_))
      | exact ih0 _ _ _ _ _ _ _ _ _ _ _ _
      | exact lessorref02_Find.mono _ _ _
      | exact lessorref03_of.mono _ _
      | exact LeO.none _
      | refine LeO.ite ?_ ?_
      | refine LeO.bind ?_ (fun _ => ?_)
theorem lessorref03_Asked.mono : ∀ a0 a1 a2 a3 a4 a5 a6 a7 a8 a9 k, LeO (lessorref03_Asked.f k a0 a1 a2 a3 a4 a5 a6 a7 a8 a9) (lessorref03_Asked.f (k + 1) a0 a1 a2 a3 a4 a5 a6 a7 a8 a9) := by
  intro a0 a1 a2 a3 a4 a5 a6 a7 a8 a9 k
  have ih0 := lessorref03_Asked.mono_l k
  unfold lessorref03_Asked.f
  repeat' first
      | (with_reducible exact ih0 _ _ _ _ _ _ _ _ _ _ _ _)
      | (with_reducible exact lessorref02_Find.mono _ _ _)
      | (with_reducible exact lessorref03_of.mono _ _)
      | (with_reducible exact LeO.refl _)
      | (with_reducible exact LeO.none _)
      | (with_reducible refine LeO.ite ?_ ?_)
      | (with_reducible refine LeO.bind ?_ (fun _ => ?_))
      | exact ih0 _ _ _ _ _ _ _ _ _ _ _ _
      | exact lessorref02_Find.mono _ _ _
      | exact lessorref03_of.mono _ _
      | exact LeO.none _
      | refine LeO.ite ?_ ?_
      | refine LeO.bind ?_ (fun _ => ?_)
set_option maxHeartbeats 8000000 in
set_option maxRecDepth 100000 in
theorem lessorref03_Asked.calls (k : Nat) (a0_0 : Int) (a0_1 : Int) (a0_2 : Int) (a0_3 : Int) (a0_4 : Int) (a0_5 : Int) (a0_6 : Int) (a0_7 : Int) (A0_8 : Option Addr) (c0_8 : Nat) (l0_8 : List Int) (A0_9 : Option Addr) (c0_9 : Nat) (l0_9 : List (S42)) (r1 : Int) (r2 : Int) (w : World) (hr0_8 : Kd.C (Kd.int .u8) w A0_8 l0_8.length l0_8) (hc0_8 : l0_8.length ≤ c0_8) (hr0_9 : Kd.C k42 w A0_9 l0_9.length l0_9) (hc0_9 : l0_9.length ≤ c0_9) (h : lessorref03_Asked.f k a0_0 a0_1 a0_2 a0_3 a0_4 a0_5 a0_6 a0_7 l0_8 l0_9 = some (r1, r2)) :
    Calls Try.prog 13 #[.agg #[.int .i64 a0_0, .int .u32 a0_1, .int .i64 a0_2, .int .i64 a0_3, .int .u32 a0_4, .int .u32 a0_5, .int .u32 a0_6, .int .u32 a0_7, .slice A0_8 l0_8.length c0_8, .slice A0_9 l0_9.length c0_9]] w fun e w' => e = .returned (.tuple #[.int .u32 r1, .int .i64 r2]) ∧ Below w.heap.size w w' := by
  have hu27 := Try.underlying27
  have HR0_8 := Aside0.mk hr0_8
  have HC0_8 := Aside0.mk hc0_8
  clear hr0_8 hc0_8
  have HR0_9 := Aside0.mk hr0_9
  have HC0_9 := Aside0.mk hc0_9
  clear hr0_9 hc0_9
  have HB := Aside0.mk (Below.refl w.heap.size w)
  have H : ((lessorref02_Find.f k l0_9 50).bind fun bt275 => (if (bt275.1.length : Int) = 4 then ((lessorref03_of.f k bt275.1).bind fun t279 => (lessorref03_Asked.j0 k ((t279) % 4294967296) 0 a0_0 a0_1 a0_2 a0_3 a0_4 a0_5 a0_6 a0_7 l0_8 l0_9)) else (lessorref03_Asked.j0 k a0_4 0 a0_0 a0_1 a0_2 a0_3 a0_4 a0_5 a0_6 a0_7 l0_8 l0_9))) = some (r1, r2) := h
  clear h
  replace H := Option.bind_eq_some_iff.mp H
  obtain ⟨⟨t275, t278⟩, A20, H⟩ := H
  replace H : (if (t275.length : Int) = 4 then ((lessorref03_of.f k t275).bind fun t279 => (lessorref03_Asked.j0 k ((t279) % 4294967296) 0 a0_0 a0_1 a0_2 a0_3 a0_4 a0_5 a0_6 a0_7 l0_8 l0_9)) else (lessorref03_Asked.j0 k a0_4 0 a0_0 a0_1 a0_2 a0_3 a0_4 a0_5 a0_6 a0_7 l0_8 l0_9)) = some (r1, r2) := H
  have A2 := Aside0.mk A20
  clear A20
  have HC3 := Aside0.mk H
  clear H
  go_enter Try.func13, Try.ntmps13
  go_upto_if 20 with (first | ((with_reducible refine gate_dst (N := 1) rfl ?_); refine box_event ?hg_1 (N := 1) ?hd_1 (cs := #[.int .i64 a0_0, .int .u32 a0_1, .int .i64 a0_2, .int .i64 a0_3, .int .u32 a0_4, .int .u32 a0_5, .int .u32 a0_6, .int .u32 a0_7, .slice A0_8 l0_8.length c0_8, .slice A0_9 l0_9.length c0_9]) (t := 27) ?hr_1 ?_; (case hd_1 => rfl); (case hg_1 => rfl); (case hr_1 => first | (go_simp; done) | (go_simp; rfl)); intro gb274 hg w4 hbox hb; have n0_ := Aside0.mk (below_step (by repeat (first | (with_reducible first | exact HB.out | apply below_alloc | apply pw_below_drewN | apply below_drew1) | exact HB.out)) hb); have n1_ := Aside0.mk (hbox); have n2_ := Aside0.mk ((by rw [hg]; exact (below_size (by repeat (first | (with_reducible first | exact HB.out | apply below_alloc | apply pw_below_drewN | apply below_drew1) | exact HB.out))) : w.heap.size ≤ gb274)); have n3_ := Aside0.mk ((by rw [hg]; exact (below_size (by repeat (first | (with_reducible first | exact HB.out | apply below_alloc | apply pw_below_drewN | apply below_drew1) | exact HB.out))) : w.heap.size ≤ gb274)); clear HB; have HB := n0_; have BK274 := n1_; have GW274 := n2_; have GE274 := n3_; clear n0_ n1_ n2_ n3_; clear hb hbox hg; have hcz5_0 : w4.cell? ⟨gb274, 0, none⟩ = some (.int .i64 a0_0) := (blk_cell BK274.out 0).trans rfl; have hcz5_1 : w4.cell? ⟨gb274, 1, none⟩ = some (.int .u32 a0_1) := (blk_cell BK274.out 1).trans rfl; have hcz5_2 : w4.cell? ⟨gb274, 2, none⟩ = some (.int .i64 a0_2) := (blk_cell BK274.out 2).trans rfl; have hcz5_3 : w4.cell? ⟨gb274, 3, none⟩ = some (.int .i64 a0_3) := (blk_cell BK274.out 3).trans rfl; have hcz5_4 : w4.cell? ⟨gb274, 4, none⟩ = some (.int .u32 a0_4) := (blk_cell BK274.out 4).trans rfl; have hcz5_5 : w4.cell? ⟨gb274, 5, none⟩ = some (.int .u32 a0_5) := (blk_cell BK274.out 5).trans rfl; have hcz5_6 : w4.cell? ⟨gb274, 6, none⟩ = some (.int .u32 a0_6) := (blk_cell BK274.out 6).trans rfl; have hcz5_7 : w4.cell? ⟨gb274, 7, none⟩ = some (.int .u32 a0_7) := (blk_cell BK274.out 7).trans rfl; have hcz5_8 : w4.cell? ⟨gb274, 8, none⟩ = some (.slice A0_8 l0_8.length c0_8) := (blk_cell BK274.out 8).trans rfl; have hcz5_9 : w4.cell? ⟨gb274, 9, none⟩ = some (.slice A0_9 l0_9.length c0_9) := (blk_cell BK274.out 9).trans rfl; have hfz5_0 := blk_frozen BK274.out 0; have hfz5_1 := blk_frozen BK274.out 1; have hfz5_2 := blk_frozen BK274.out 2; have hfz5_3 := blk_frozen BK274.out 3; have hfz5_4 := blk_frozen BK274.out 4; have hfz5_5 := blk_frozen BK274.out 5; have hfz5_6 := blk_frozen BK274.out 6; have hfz5_7 := blk_frozen BK274.out 7; have hfz5_8 := blk_frozen BK274.out 8; have hfz5_9 := blk_frozen BK274.out 9) | ((with_reducible refine gate_callee (f := 27) rfl ?_); refine goesL_ (some 15) rfl rfl Try.func27 (by kernel_rfl) rfl #[.slice A0_9 l0_9.length c0_9, .int .i64 50] rfl (by (try simp only [List.map_toArray, List.map_cons, List.map_nil]); first | done | rfl | (simp only [List.length_drop, List.length_take]; rfl)) ?_; (with_reducible refine (lessorref02_Find.calls k (fun k_ => k_ < w.heap.size) _ _ l0_9 50 t275 t278 _ ?side1_2 A2.out).mono ?_); (case side1_2 => exact Kd.V_mk HC0_9.out (Kd.F_below (Kd.C_F k42_heap HR0_9.out) (by repeat (first | (with_reducible first | exact HB.out | apply below_alloc | apply pw_below_drewN | apply below_drew1 | refine below_set ?_ GE274.out) | exact HB.out)))); rintro e w6 ⟨v276, rfl, ho0, hb⟩; refine ⟨_, rfl, ?_⟩; have n0_ := Aside0.mk (Kd.V_lower (Kd.V_mono (ok' := fun k_ => k_ ≠ gb274) ho0 (fun k_ hk_ => Or.elim hk_ (fun hs_ => fun e_ => Nat.not_le.2 hs_ (by rw [e_]; exact GW274.out)) (fun hn_ => (Kd.freshB (g := gb274) (o := .cells #[.int .i64 a0_0, .int .u32 a0_1, .int .i64 a0_2, .int .i64 a0_3, .int .u32 a0_4, .int .u32 a0_5, .int .u32 a0_6, .int .u32 a0_7, .slice A0_8 l0_8.length c0_8, .slice A0_9 l0_9.length c0_9] 27 (0, 0)) (by (with_reducible repeat (first | refine blk_drewN ?_ _ | refine blk_drew ?_ | refine blk_alloc ?_ _)); exact BK274.out) k_ hn_)))) (below_size (by repeat (first | (with_reducible first | exact HB.out | apply below_alloc | apply pw_below_drewN | apply below_drew1 | refine below_set ?_ GE274.out) | exact HB.out)))); have n1_ := Aside0.mk (blk_below (g := gb274) (o := .cells #[.int .i64 a0_0, .int .u32 a0_1, .int .i64 a0_2, .int .i64 a0_3, .int .u32 a0_4, .int .u32 a0_5, .int .u32 a0_6, .int .u32 a0_7, .slice A0_8 l0_8.length c0_8, .slice A0_9 l0_9.length c0_9] 27 (0, 0)) (by (with_reducible repeat (first | refine blk_drewN ?_ _ | refine blk_drew ?_ | refine blk_alloc ?_ _)); exact BK274.out) hb); have n2_ := Aside0.mk (below_step (by repeat (first | (with_reducible first | exact HB.out | apply below_alloc | apply pw_below_drewN | apply below_drew1 | refine below_set ?_ GE274.out) | exact HB.out)) hb); clear BK274; clear HB; have HO277 := n0_; have BK274 := n1_; have HB := n2_; clear n0_ n1_ n2_; (try clear hb); (try clear hb2); (try clear hk); (try clear hi); (try clear ho0); obtain ⟨Ao7, co7, eo7⟩ := Kd.V_slice HO277.out; subst eo7))
  (try simp only [Act.put, List.setIfInBounds_toArray, List.set_cons_zero, List.set_cons_succ])
  go_cut [4] (fun v4 wc => ∃ (kq : Nat) (x4_2 : Int), v4 = .int .u32 x4_2 ∧ Aside0 (lessorref03_Asked.j0 kq x4_2 0 a0_0 a0_1 a0_2 a0_3 a0_4 a0_5 a0_6 a0_7 l0_8 l0_9 = some (r1, r2)) ∧ Aside0 (kq ≤ k) ∧ Aside0 (wc.heap[gb274]? = some (.cells #[.int .i64 a0_0, .int .u32 a0_1, .int .i64 a0_2, .int .i64 a0_3, .int .u32 a0_4, .int .u32 a0_5, .int .u32 a0_6, .int .u32 a0_7, (.slice A0_8 l0_8.length c0_8), (.slice A0_9 l0_9.length c0_9)] 27 (0, 0))) ∧ Aside0 (Below w.heap.size w wc))
  case first =>
    have H := HC3.out
    clear HC3
    by_cases c8 : (t275.length : Int) = 4
    · rw [if_pos c8] at H
      have c8b0 : ((t275.length : Int) == 4) = true := beq_iff_eq.mpr c8
      have c8b1 : ((t275.length : Int) != 4) = false := bne_eq_false_iff_eq.mpr c8
      clear c8
      (first | rw [c8b0] | (simp only [i64_w, i32_w]; rw [c8b0]) | skip)
      replace H := Option.bind_eq_some_iff.mp H
      obtain ⟨t279, A90, H⟩ := H
      replace H : (lessorref03_Asked.j0 k ((t279) % 4294967296) 0 a0_0 a0_1 a0_2 a0_3 a0_4 a0_5 a0_6 a0_7 l0_8 l0_9) = some (r1, r2) := H
      have A9 := Aside0.mk A90
      clear A90
      have H' := Aside0.mk H
      clear H
      go_wp2_with (first | ((with_reducible refine gate_callee (f := 28) rfl ?_); refine goesL_ (some 22) rfl rfl Try.func28 (by kernel_rfl) rfl #[.slice Ao7 t275.length co7] rfl (by (try simp only [List.map_toArray, List.map_cons, List.map_nil]); first | done | rfl | (simp only [List.length_drop, List.length_take]; rfl)) ?_; (with_reducible refine (lessorref03_of.calls k _ _ t275 t279 _ ?side1_3 ?side2_3 A9.out).mono ?_); (case side1_3 => repeat (first | exact (Kd.V_reads' HO277.out).2.2 | (with_reducible refine Kd.C_alloc ?_ _) | (with_reducible refine Kd.C_drewN ?_ _) | (with_reducible refine Kd.C_drew ?_))); (case side2_3 => exact (Kd.V_reads' HO277.out).2.1); rintro e w' ⟨rfl, ⟨nd, rfl⟩⟩; refine ⟨_, rfl, ?_⟩))
      go_meet
      case rel => exact ⟨_, ((t279) % 4294967296), (by first | rfl | (simp; done) | (simp [*]; done)), H', ⟨by first | omega | exact Nat.le_refl _⟩, ⟨by (with_reducible repeat (first | refine blk_drewN ?_ _ | refine blk_drew ?_ | refine blk_alloc ?_ _)); exact BK274.out⟩, ⟨by repeat (first | (with_reducible first | exact HB.out | apply below_alloc | apply pw_below_drewN | apply below_drew1 | refine below_set ?_ GE274.out) | exact HB.out)⟩⟩
    · rw [if_neg c8] at H
      have c8b0 : ((t275.length : Int) == 4) = false := beq_eq_false_iff_ne.mpr c8
      have c8b1 : ((t275.length : Int) != 4) = true := bne_iff_ne.mpr c8
      (first | rw [c8b0] | (simp only [i64_w, i32_w]; rw [c8b0]) | skip)
      have H' := Aside0.mk H
      clear H
      go_wp2
      go_meet
      case rel => exact ⟨_, (a0_4), (by first | rfl | (simp; done) | (simp [*]; done)), H', ⟨by first | omega | exact Nat.le_refl _⟩, ⟨by (with_reducible repeat (first | refine blk_drewN ?_ _ | refine blk_drew ?_ | refine blk_alloc ?_ _)); exact BK274.out⟩, ⟨by repeat (first | (with_reducible first | exact HB.out | apply below_alloc | apply pw_below_drewN | apply below_drew1 | refine below_set ?_ GE274.out) | exact HB.out)⟩⟩
  case rest =>
    clear HC3
    try clear c1
    try clear c2
    try clear p2
    try clear c8
    try clear c8b0
    try clear c8b1
    try clear hcz5_0
    try clear hcz5_1
    try clear hcz5_2
    try clear hcz5_3
    try clear hcz5_4
    try clear hcz5_5
    try clear hcz5_6
    try clear hcz5_7
    try clear hcz5_8
    try clear hcz5_9
    try clear hfz5_0
    try clear hfz5_1
    try clear hfz5_2
    try clear hfz5_3
    try clear hfz5_4
    try clear hfz5_5
    try clear hfz5_6
    try clear hfz5_7
    try clear hfz5_8
    try clear hfz5_9
    obtain ⟨kq, x4_2, rfl, HA, HJ2, BK274, HB⟩ := hcut
    cases kq with
    | zero => exact absurd HA.out (by simp [lessorref03_Asked.j0])
    | succ kj2 =>
      have H := HA.out
      clear HA
      simp only [lessorref03_Asked.j0] at H
      replace H := Option.bind_eq_some_iff.mp H
      obtain ⟨⟨t280, t283⟩, A100, H⟩ := H
      replace H : (if (t280.length : Int) = 4 then ((lessorref03_of.f kj2 t280).bind fun t284 => (some (x4_2, t284))) else (some (x4_2, 0))) = some (r1, r2) := H
      have A10 := Aside0.mk A100
      clear A100
      by_cases c11 : (t280.length : Int) = 4
      · rw [if_pos c11] at H
        have c11b0 : ((t280.length : Int) == 4) = true := beq_iff_eq.mpr c11
        have c11b1 : ((t280.length : Int) != 4) = false := bne_eq_false_iff_eq.mpr c11
        clear c11
        replace H := Option.bind_eq_some_iff.mp H
        obtain ⟨t284, A120, H⟩ := H
        replace H : (some (x4_2, t284)) = some (r1, r2) := H
        have A12 := Aside0.mk A120
        clear A120
        simp only [Option.some.injEq, Prod.mk.injEq] at H
        obtain ⟨rfl, rfl⟩ := H
        have hcz13_0 : wc.cell? ⟨gb274, 0, none⟩ = some (.int .i64 a0_0) := (blk_cell BK274.out 0).trans rfl
        have hcz13_1 : wc.cell? ⟨gb274, 1, none⟩ = some (.int .u32 a0_1) := (blk_cell BK274.out 1).trans rfl
        have hcz13_2 : wc.cell? ⟨gb274, 2, none⟩ = some (.int .i64 a0_2) := (blk_cell BK274.out 2).trans rfl
        have hcz13_3 : wc.cell? ⟨gb274, 3, none⟩ = some (.int .i64 a0_3) := (blk_cell BK274.out 3).trans rfl
        have hcz13_4 : wc.cell? ⟨gb274, 4, none⟩ = some (.int .u32 a0_4) := (blk_cell BK274.out 4).trans rfl
        have hcz13_5 : wc.cell? ⟨gb274, 5, none⟩ = some (.int .u32 a0_5) := (blk_cell BK274.out 5).trans rfl
        have hcz13_6 : wc.cell? ⟨gb274, 6, none⟩ = some (.int .u32 a0_6) := (blk_cell BK274.out 6).trans rfl
        have hcz13_7 : wc.cell? ⟨gb274, 7, none⟩ = some (.int .u32 a0_7) := (blk_cell BK274.out 7).trans rfl
        have hcz13_8 : wc.cell? ⟨gb274, 8, none⟩ = some (.slice A0_8 l0_8.length c0_8) := (blk_cell BK274.out 8).trans rfl
        have hcz13_9 : wc.cell? ⟨gb274, 9, none⟩ = some (.slice A0_9 l0_9.length c0_9) := (blk_cell BK274.out 9).trans rfl
        have hfz13_0 := blk_frozen BK274.out 0
        have hfz13_1 := blk_frozen BK274.out 1
        have hfz13_2 := blk_frozen BK274.out 2
        have hfz13_3 := blk_frozen BK274.out 3
        have hfz13_4 := blk_frozen BK274.out 4
        have hfz13_5 := blk_frozen BK274.out 5
        have hfz13_6 := blk_frozen BK274.out 6
        have hfz13_7 := blk_frozen BK274.out 7
        have hfz13_8 := blk_frozen BK274.out 8
        have hfz13_9 := blk_frozen BK274.out 9
        go_wp2_with (first | ((with_reducible refine gate_callee (f := 27) rfl ?_); refine goesL_ (some 27) rfl rfl Try.func27 (by kernel_rfl) rfl #[.slice A0_9 l0_9.length c0_9, .int .i64 51] rfl (by (try simp only [List.map_toArray, List.map_cons, List.map_nil]); first | done | rfl | (simp only [List.length_drop, List.length_take]; rfl)) ?_; (with_reducible refine (lessorref02_Find.calls kj2 (fun k_ => k_ < w.heap.size) _ _ l0_9 51 t280 t283 _ ?side1_4 A10.out).mono ?_); (case side1_4 => exact Kd.V_mk HC0_9.out (Kd.F_below (Kd.C_F k42_heap HR0_9.out) (by repeat (first | (with_reducible first | exact HB.out | apply below_alloc | apply pw_below_drewN | apply below_drew1 | refine below_set ?_ GE274.out) | exact HB.out)))); rintro e w14 ⟨v281, rfl, ho0, hb⟩; refine ⟨_, rfl, ?_⟩; have n0_ := Aside0.mk (Kd.V_lower (Kd.V_mono (ok' := fun k_ => k_ ≠ gb274) ho0 (fun k_ hk_ => Or.elim hk_ (fun hs_ => fun e_ => Nat.not_le.2 hs_ (by rw [e_]; exact GW274.out)) (fun hn_ => (Kd.freshB (g := gb274) (o := .cells #[.int .i64 a0_0, .int .u32 a0_1, .int .i64 a0_2, .int .i64 a0_3, .int .u32 a0_4, .int .u32 a0_5, .int .u32 a0_6, .int .u32 a0_7, .slice A0_8 l0_8.length c0_8, .slice A0_9 l0_9.length c0_9] 27 (0, 0)) (by (with_reducible repeat (first | refine blk_drewN ?_ _ | refine blk_drew ?_ | refine blk_alloc ?_ _)); exact BK274.out) k_ hn_)))) (below_size (by repeat (first | (with_reducible first | exact HB.out | apply below_alloc | apply pw_below_drewN | apply below_drew1 | refine below_set ?_ GE274.out) | exact HB.out)))); have n1_ := Aside0.mk (blk_below (g := gb274) (o := .cells #[.int .i64 a0_0, .int .u32 a0_1, .int .i64 a0_2, .int .i64 a0_3, .int .u32 a0_4, .int .u32 a0_5, .int .u32 a0_6, .int .u32 a0_7, .slice A0_8 l0_8.length c0_8, .slice A0_9 l0_9.length c0_9] 27 (0, 0)) (by (with_reducible repeat (first | refine blk_drewN ?_ _ | refine blk_drew ?_ | refine blk_alloc ?_ _)); exact BK274.out) hb); have n2_ := Aside0.mk (below_step (by repeat (first | (with_reducible first | exact HB.out | apply below_alloc | apply pw_below_drewN | apply below_drew1 | refine below_set ?_ GE274.out) | exact HB.out)) hb); clear BK274; clear HB; have HO282 := n0_; have BK274 := n1_; have HB := n2_; clear n0_ n1_ n2_; (try clear hb); (try clear hb2); (try clear hk); (try clear hi); (try clear ho0); obtain ⟨Ao15, co15, eo15⟩ := Kd.V_slice HO282.out; subst eo15) | ((with_reducible refine gate_callee (f := 28) rfl ?_); refine goesL_ (some 34) rfl rfl Try.func28 (by kernel_rfl) rfl #[.slice Ao15 t280.length co15] rfl (by (try simp only [List.map_toArray, List.map_cons, List.map_nil]); first | done | rfl | (simp only [List.length_drop, List.length_take]; rfl)) ?_; (with_reducible refine (lessorref03_of.calls kj2 _ _ t280 t284 _ ?side1_5 ?side2_5 A12.out).mono ?_); (case side1_5 => repeat (first | exact (Kd.V_reads' HO282.out).2.2 | (with_reducible refine Kd.C_alloc ?_ _) | (with_reducible refine Kd.C_drewN ?_ _) | (with_reducible refine Kd.C_drew ?_))); (case side2_5 => exact (Kd.V_reads' HO282.out).2.1); rintro e w' ⟨rfl, ⟨nd, rfl⟩⟩; refine ⟨_, rfl, ?_⟩))
        go_ret2
        exact ⟨by first | rfl | (simp [errW_none, errW_some] <;> rfl) | (simp [*, errW_none, errW_some] <;> rfl), by repeat (first | (with_reducible first | exact HB.out | apply below_alloc | apply pw_below_drewN | apply below_drew1 | refine below_set ?_ GE274.out) | exact HB.out)⟩
      · rw [if_neg c11] at H
        have c11b0 : ((t280.length : Int) == 4) = false := beq_eq_false_iff_ne.mpr c11
        have c11b1 : ((t280.length : Int) != 4) = true := bne_iff_ne.mpr c11
        simp only [Option.some.injEq, Prod.mk.injEq] at H
        obtain ⟨rfl, rfl⟩ := H
        have hcz16_0 : wc.cell? ⟨gb274, 0, none⟩ = some (.int .i64 a0_0) := (blk_cell BK274.out 0).trans rfl
        have hcz16_1 : wc.cell? ⟨gb274, 1, none⟩ = some (.int .u32 a0_1) := (blk_cell BK274.out 1).trans rfl
        have hcz16_2 : wc.cell? ⟨gb274, 2, none⟩ = some (.int .i64 a0_2) := (blk_cell BK274.out 2).trans rfl
        have hcz16_3 : wc.cell? ⟨gb274, 3, none⟩ = some (.int .i64 a0_3) := (blk_cell BK274.out 3).trans rfl
        have hcz16_4 : wc.cell? ⟨gb274, 4, none⟩ = some (.int .u32 a0_4) := (blk_cell BK274.out 4).trans rfl
        have hcz16_5 : wc.cell? ⟨gb274, 5, none⟩ = some (.int .u32 a0_5) := (blk_cell BK274.out 5).trans rfl
        have hcz16_6 : wc.cell? ⟨gb274, 6, none⟩ = some (.int .u32 a0_6) := (blk_cell BK274.out 6).trans rfl
        have hcz16_7 : wc.cell? ⟨gb274, 7, none⟩ = some (.int .u32 a0_7) := (blk_cell BK274.out 7).trans rfl
        have hcz16_8 : wc.cell? ⟨gb274, 8, none⟩ = some (.slice A0_8 l0_8.length c0_8) := (blk_cell BK274.out 8).trans rfl
        have hcz16_9 : wc.cell? ⟨gb274, 9, none⟩ = some (.slice A0_9 l0_9.length c0_9) := (blk_cell BK274.out 9).trans rfl
        have hfz16_0 := blk_frozen BK274.out 0
        have hfz16_1 := blk_frozen BK274.out 1
        have hfz16_2 := blk_frozen BK274.out 2
        have hfz16_3 := blk_frozen BK274.out 3
        have hfz16_4 := blk_frozen BK274.out 4
        have hfz16_5 := blk_frozen BK274.out 5
        have hfz16_6 := blk_frozen BK274.out 6
        have hfz16_7 := blk_frozen BK274.out 7
        have hfz16_8 := blk_frozen BK274.out 8
        have hfz16_9 := blk_frozen BK274.out 9
        go_wp2_with (first | ((with_reducible refine gate_callee (f := 27) rfl ?_); refine goesL_ (some 27) rfl rfl Try.func27 (by kernel_rfl) rfl #[.slice A0_9 l0_9.length c0_9, .int .i64 51] rfl (by (try simp only [List.map_toArray, List.map_cons, List.map_nil]); first | done | rfl | (simp only [List.length_drop, List.length_take]; rfl)) ?_; (with_reducible refine (lessorref02_Find.calls kj2 (fun k_ => k_ < w.heap.size) _ _ l0_9 51 t280 t283 _ ?side1_6 A10.out).mono ?_); (case side1_6 => exact Kd.V_mk HC0_9.out (Kd.F_below (Kd.C_F k42_heap HR0_9.out) (by repeat (first | (with_reducible first | exact HB.out | apply below_alloc | apply pw_below_drewN | apply below_drew1 | refine below_set ?_ GE274.out) | exact HB.out)))); rintro e w17 ⟨v281, rfl, ho0, hb⟩; refine ⟨_, rfl, ?_⟩; have n0_ := Aside0.mk (Kd.V_lower (Kd.V_mono (ok' := fun k_ => k_ ≠ gb274) ho0 (fun k_ hk_ => Or.elim hk_ (fun hs_ => fun e_ => Nat.not_le.2 hs_ (by rw [e_]; exact GW274.out)) (fun hn_ => (Kd.freshB (g := gb274) (o := .cells #[.int .i64 a0_0, .int .u32 a0_1, .int .i64 a0_2, .int .i64 a0_3, .int .u32 a0_4, .int .u32 a0_5, .int .u32 a0_6, .int .u32 a0_7, .slice A0_8 l0_8.length c0_8, .slice A0_9 l0_9.length c0_9] 27 (0, 0)) (by (with_reducible repeat (first | refine blk_drewN ?_ _ | refine blk_drew ?_ | refine blk_alloc ?_ _)); exact BK274.out) k_ hn_)))) (below_size (by repeat (first | (with_reducible first | exact HB.out | apply below_alloc | apply pw_below_drewN | apply below_drew1 | refine below_set ?_ GE274.out) | exact HB.out)))); have n1_ := Aside0.mk (blk_below (g := gb274) (o := .cells #[.int .i64 a0_0, .int .u32 a0_1, .int .i64 a0_2, .int .i64 a0_3, .int .u32 a0_4, .int .u32 a0_5, .int .u32 a0_6, .int .u32 a0_7, .slice A0_8 l0_8.length c0_8, .slice A0_9 l0_9.length c0_9] 27 (0, 0)) (by (with_reducible repeat (first | refine blk_drewN ?_ _ | refine blk_drew ?_ | refine blk_alloc ?_ _)); exact BK274.out) hb); have n2_ := Aside0.mk (below_step (by repeat (first | (with_reducible first | exact HB.out | apply below_alloc | apply pw_below_drewN | apply below_drew1 | refine below_set ?_ GE274.out) | exact HB.out)) hb); clear BK274; clear HB; have HO282 := n0_; have BK274 := n1_; have HB := n2_; clear n0_ n1_ n2_; (try clear hb); (try clear hb2); (try clear hk); (try clear hi); (try clear ho0); obtain ⟨Ao18, co18, eo18⟩ := Kd.V_slice HO282.out; subst eo18))
        go_ret2
        exact ⟨by first | rfl | (simp [errW_none, errW_some] <;> rfl) | (simp [*, errW_none, errW_some] <;> rfl), by repeat (first | (with_reducible first | exact HB.out | apply below_alloc | apply pw_below_drewN | apply below_drew1 | refine below_set ?_ GE274.out) | exact HB.out)⟩

end Go.Proofs.Ytmbfdmceameghaa.Pr
