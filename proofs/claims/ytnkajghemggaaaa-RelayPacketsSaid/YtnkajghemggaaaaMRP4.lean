/-
  Printed: HOEnc.
  Printed: PrF28.
  Options as bytes, over lists: what option.Encode and the reference's Encode compute of few options.
  Packets as bytes, over lists: what packet.Right and the reference's compute of few options.
  What a put makes of options, over lists: what was put is found, just once, and all others are as they were.
  relay.Add in the print's form. Condition: few options, few tags.
  Printed: PrF33.
  What is found of options, over lists: what option.Find, the reference's Find and Same compute.
-/
import Derived.Test.YtnkajghemggaaaaMRP1
import Derived.Test.YtnkajghemggaaaaMRP3
import Derived.Test.YtnkajghemggaaaaMRP2

section
-- written by a program of this session (wip/tools/gen.py) over the kit's print
namespace Go.Proofs.Ytnkajghemggaaaa.Pr
open Go.RowKit Go.Proofs.YtnkajghemggaaaaW.PrintWords Go.Proofs.YtnkajghemggaaaaW.PrintLast Go.Proofs.YtnkajghemggaaaaW.PrintMore
attribute [local go_sem] max2_int min2_int max_two min_two max_three min_three max_four min_four   -- for this text's walks alone
set_option linter.unusedVariables false
set_option linter.unusedSimpArgs false

/-! ### option_Encode: function 43 -/
def option_Encode.l0 : Nat → List Int → List (S48) → Int → Int → Option (List Int × Int)
  | 0, _, _, _, _ => none
  | k + 1, x5, x11, x12, x13 => if x13 < x12 then (if 0 ≤ x13 then (if x13 < (x11.length : Int) then ((some (([((rd_T48 x11 x13).f0) % 256, ((((rd_T48 x11 x13).f1).length : Int)) % 256] : List Int) : List Int)).bind fun y108 => (if x5.length + y108.length < 140737488355328 then ((some (x5 ++ y108 : List Int)).bind fun y111 => (if y111.length + ((rd_T48 x11 x13).f1).length < 140737488355328 then (option_Encode.l0 k (y111 ++ ((rd_T48 x11 x13).f1)) x11 x12 (wrap64 (x13 + 1))) else (none))) else (none))) else (none)) else (none)) else (if x5.length < 140737488355328 then ((some (x5 ++ [255] : List Int)).bind fun y117 => (if (y117.length : Int) > 1024 then (some (([] : List Int), 3)) else (some (y117, 0)))) else (none))
def option_Encode.f (k : Nat) (l0 : List (S48)) : Option (List Int × Int) := (slices_ContainsFuncO.f k l0 420051).bind fun t105 => (if t105 = true then (some (([] : List Int), 1)) else (option_Encode.l0 k ([] : List Int) l0 (l0.length : Int) 0))
theorem option_Encode.mono_l : ∀ k, (∀ y0 y1 y2 y3, LeO (option_Encode.l0 k y0 y1 y2 y3) (option_Encode.l0 (k + 1) y0 y1 y2 y3))
  | 0 => fun _ _ _ _ r h => by simp [option_Encode.l0] at h
  | k + 1 => by
    have ih0 := option_Encode.mono_l k
    · intro y0 y1 y2 y3
      unfold option_Encode.l0
      repeat' first
      | (with_reducible exact ih0 _ _ _ _)
      | (with_reducible exact slices_ContainsFuncO.mono _ _ _)
      | (with_reducible exact LeO.refl _)
      | (with_reducible exact LeO.none _)
      | (with_reducible refine LeO.ite ?_ ?_)
      | (with_reducible refine LeO.bind ?_ (fun _ => ?_))
      | exact ih0 _ _ _ _
      | exact slices_ContainsFuncO.mono _ _ _
      | exact LeO.none _
      | refine LeO.ite ?_ ?_
      | refine LeO.bind ?_ (fun _ => ?_)
theorem option_Encode.mono : ∀ a0 k, LeO (option_Encode.f k a0) (option_Encode.f (k + 1) a0) := by
  intro a0 k
  have ih0 := option_Encode.mono_l k
  unfold option_Encode.f
  repeat' first
      | (with_reducible exact ih0 _ _ _ _)
      | (with_reducible exact slices_ContainsFuncO.mono _ _ _)
      | (with_reducible exact LeO.refl _)
      | (with_reducible exact LeO.none _)
      | (with_reducible refine LeO.ite ?_ ?_)
      | (with_reducible refine LeO.bind ?_ (fun _ => ?_))
      | exact ih0 _ _ _ _
      | exact slices_ContainsFuncO.mono _ _ _
      | exact LeO.none _
      | refine LeO.ite ?_ ?_
      | refine LeO.bind ?_ (fun _ => ?_)
def option_Encode.T8 : Bool × List (List Nat × List Nat) := (true, [([], []), ([], []), ([1], [1]), ([2], [2]), ([], []), ([4], [4]), ([5], [5]), ([6], [6]), ([3, 7], [3, 7]), ([0, 8], [0, 8]), ([], []), ([10], [10]), ([9, 11, 9], [9, 11]), ([12, 12, 0, 1, 2, 3, 4, 5, 6, 7, 8, 9, 10, 11, 12], [0, 12])])
def option_Encode.B8 : List Nat := [0, 0, 2, 6, 0, 16, 48, 112, 254, 511, 0, 1024, 4095, 8191]
theorem option_Encode.tab8 : rtab .any (opsOf Try.f43 8) = option_Encode.T8 := by kernel_rfl
theorem option_Encode.bits8 : waitsOk option_Encode.T8.2 option_Encode.B8 = true := by kernel_rfl
set_option maxHeartbeats 8000000 in
set_option maxRecDepth 100000 in
theorem option_Encode.calls (k : Nat) (A0 : Option Addr) (c0 : Nat) (l0 : List (S48)) (r1 : List Int) (r2 : Int) (w : World) (hr0 : Kd.C k48 w A0 l0.length l0) (hc0 : l0.length ≤ c0) (h : option_Encode.f k l0 = some (r1, r2)) :
    Calls Try.prog 43 #[.slice A0 l0.length c0] w fun e w' => ∃ v0_ : Value, e = .returned (.tuple #[v0_, .int .i64 r2]) ∧ Kd.R (Kd.int .u8) 5 w' w.heap.size (fun _ => True) v0_ r1 ∧ Below w.heap.size w w' := by
  have hu48 := Try.underlying48
  have HR0 := Aside0.mk hr0
  have HC0 := Aside0.mk hc0
  clear hr0 hc0
  have HB := Aside0.mk (Below.refl w.heap.size w)
  have H : ((slices_ContainsFuncO.f k l0 420051).bind fun t105 => (if t105 = true then (some (([] : List Int), 1)) else (option_Encode.l0 k ([] : List Int) l0 (l0.length : Int) 0))) = some (r1, r2) := h
  clear h
  replace H := Option.bind_eq_some_iff.mp H
  obtain ⟨t105, A20, H⟩ := H
  replace H : (if t105 = true then (some (([] : List Int), 1)) else (option_Encode.l0 k ([] : List Int) l0 (l0.length : Int) 0)) = some (r1, r2) := H
  have A2 := Aside0.mk A20
  clear A20
  by_cases c3 : t105 = true
  · subst c3
    have H1 : (some (([] : List Int), 1)) = some (r1, r2) := by rw [if_pos rfl] at H; exact H
    clear H
    have H := H1
    clear H1
    simp only [Option.some.injEq, Prod.mk.injEq] at H
    obtain ⟨rfl, rfl⟩ := H
    go_enter Try.func43, Try.ntmps43
    go_wp2_with (first | ((with_reducible refine gate_callee (f := 26) rfl ?_); refine goesL_ (some 10) rfl rfl Try.func26 (by kernel_rfl) rfl #[.slice A0 l0.length c0, .func (.func 51) #[] #[]] rfl (by (try simp only [List.map_toArray, List.map_cons, List.map_nil]); first | done | rfl | (simp only [List.length_drop, List.length_take]; rfl)) ?_; (with_reducible refine (slices_ContainsFuncO.calls k _ _ l0 420051 true _ ?side1_1 ?side2_1 A2.out).mono ?_); (case side1_1 => repeat (first | exact HR0.out | (with_reducible refine Kd.C_alloc ?_ _) | (with_reducible refine Kd.C_drewN ?_ _) | (with_reducible refine Kd.C_drew ?_))); (case side2_1 => exact HC0.out); rintro e w4 ⟨rfl, hb⟩; refine ⟨_, rfl, ?_⟩; have n0_ := Aside0.mk (below_step (by repeat (first | (with_reducible first | exact HB.out | apply below_alloc | apply pw_below_drewN | apply below_drew1) | exact HB.out)) hb); clear HB; have HB := n0_; clear n0_; (try clear hb); (try clear hb2); (try clear hk); (try clear hi)))
    go_ret2
    exact ⟨_, by first | rfl | (simp [errW_none, errW_some] <;> rfl) | (simp [*, errW_none, errW_some] <;> rfl), by first | exact Kd.R_nil _ _ _ _ _ | exact Kd.N_nil _ _ _ _ _ | exact Kd.V_nil _ _ _ _ _ | exact Kd.Q_nil _ _ _ _ _ | exact Kd.S_nil _ _ _ _ _, by repeat (first | (with_reducible first | exact HB.out | apply below_alloc | apply pw_below_drewN | apply below_drew1) | exact HB.out)⟩
  · replace c3 := Bool.eq_false_iff.mpr c3
    subst c3
    have H1 : (option_Encode.l0 k ([] : List Int) l0 (l0.length : Int) 0) = some (r1, r2) := by rw [if_neg (show ¬ (false = true) by decide)] at H; exact H
    clear H
    have H := H1
    clear H1
    have H' := Aside0.mk H
    clear H
    go_enter Try.func43, Try.ntmps43
    go_wp2_with (first | ((with_reducible refine gate_callee (f := 26) rfl ?_); refine goesL_ (some 10) rfl rfl Try.func26 (by kernel_rfl) rfl #[.slice A0 l0.length c0, .func (.func 51) #[] #[]] rfl (by (try simp only [List.map_toArray, List.map_cons, List.map_nil]); first | done | rfl | (simp only [List.length_drop, List.length_take]; rfl)) ?_; (with_reducible refine (slices_ContainsFuncO.calls k _ _ l0 420051 false _ ?side1_2 ?side2_2 A2.out).mono ?_); (case side1_2 => repeat (first | exact HR0.out | (with_reducible refine Kd.C_alloc ?_ _) | (with_reducible refine Kd.C_drewN ?_ _) | (with_reducible refine Kd.C_drew ?_))); (case side2_2 => exact HC0.out); rintro e w5 ⟨rfl, hb⟩; refine ⟨_, rfl, ?_⟩; have n0_ := Aside0.mk (below_step (by repeat (first | (with_reducible first | exact HB.out | apply below_alloc | apply pw_below_drewN | apply below_drew1) | exact HB.out)) hb); clear HB; have HB := n0_; clear n0_; (try clear hb); (try clear hb2); (try clear hk); (try clear hi)))
    go_loopg [5, 13] k (fun kq v5 v13 w' => ∃ (x5_1 : List Int) (x13_1 : Int), v13 = .int .i64 x13_1 ∧ Aside0 (option_Encode.l0 kq x5_1 l0 (l0.length : Int) x13_1 = some (r1, r2)) ∧ Aside0 (kq ≤ k) ∧ Aside0 (Kd.R (Kd.int .u8) 5 w' w.heap.size (fun _ => True) v5 x5_1) ∧ Aside0 (Below w.heap.size w w'))
    case atStart => exact ⟨(([] : List Int)), (0), (by first | rfl | (simp; done) | (simp [*]; done)), H', ⟨Nat.le_refl _⟩, ⟨by first | exact Kd.R_nil _ _ _ _ _ | exact Kd.N_nil _ _ _ _ _ | exact Kd.V_nil _ _ _ _ _ | exact Kd.Q_nil _ _ _ _ _ | exact Kd.S_nil _ _ _ _ _⟩, ⟨by repeat (first | (with_reducible first | exact HB.out | apply below_alloc | apply pw_below_drewN | apply below_drew1) | exact HB.out)⟩⟩
    case round =>
      clear H'
      try clear c2
      try clear p2
      try clear c3
      try clear c4
      obtain ⟨x5_1, x13_1, rfl, HA, HK1, HO_5, HB⟩ := hrel
      cases gk with
      | zero => exact absurd HA.out (by simp [option_Encode.l0])
      | succ k1 =>
        have H := HA.out
        clear HA
        simp only [option_Encode.l0] at H
        by_cases c6 : x13_1 < (l0.length : Int)
        · rw [if_pos c6] at H
          have c6b0 : decide (x13_1 < (l0.length : Int)) = true := decide_eq_true c6
          clear c6
          by_cases c7 : 0 ≤ x13_1
          · rw [if_pos c7] at H
            have c7b0 : decide (0 ≤ x13_1) = true := decide_eq_true c7
            clear c7
            by_cases c8 : x13_1 < (l0.length : Int)
            · rw [if_pos c8] at H
              have c8b0 : decide (x13_1 < (l0.length : Int)) = true := decide_eq_true c8
              clear c8
              obtain ⟨y108, hy108⟩ : ∃ y_ : List Int, y_ = (([((rd_T48 l0 x13_1).f0) % 256, ((((rd_T48 l0 x13_1).f1).length : Int)) % 256] : List Int)) := ⟨_, rfl⟩
              replace H : (if x5_1.length + y108.length < 140737488355328 then ((some (x5_1 ++ y108 : List Int)).bind fun y111 => (if y111.length + ((rd_T48 l0 x13_1).f1).length < 140737488355328 then (option_Encode.l0 k1 (y111 ++ ((rd_T48 l0 x13_1).f1)) l0 (l0.length : Int) (wrap64 (x13_1 + 1))) else (none))) else (none)) = some (r1, r2) := by first | (rw [hy108]; with_reducible exact H) | (have H2_ := (Option.bind_some _ _).symm.trans H; rw [hy108]; with_reducible exact H2_) | (have H2_ := (Option.bind_some _ _).symm.trans H; with_reducible exact H2_) | with_reducible exact H | (rw [hy108]; exact H) | exact H
              have Ny108 := Aside0.mk hy108
              clear hy108
              by_cases c9 : x5_1.length + y108.length < 140737488355328
              · rw [if_pos c9] at H
                have LMc9 := Aside0.mk c9
                clear c9
                obtain ⟨y111, hy111⟩ : ∃ y_ : List Int, y_ = (x5_1 ++ y108) := ⟨_, rfl⟩
                replace H : (if y111.length + ((rd_T48 l0 x13_1).f1).length < 140737488355328 then (option_Encode.l0 k1 (y111 ++ ((rd_T48 l0 x13_1).f1)) l0 (l0.length : Int) (wrap64 (x13_1 + 1))) else (none)) = some (r1, r2) := by first | (rw [hy111]; with_reducible exact H) | (have H2_ := (Option.bind_some _ _).symm.trans H; rw [hy111]; with_reducible exact H2_) | (have H2_ := (Option.bind_some _ _).symm.trans H; with_reducible exact H2_) | with_reducible exact H | (rw [hy111]; exact H) | exact H
                have Ny111 := Aside0.mk hy111
                clear hy111
                by_cases c10 : y111.length + ((rd_T48 l0 x13_1).f1).length < 140737488355328
                · rw [if_pos c10] at H
                  have LMc10 := Aside0.mk c10
                  clear c10
                  obtain ⟨y114, hy114⟩ : ∃ y_ : List Int, y_ = (y111 ++ ((rd_T48 l0 x13_1).f1)) := ⟨_, rfl⟩
                  replace H : (option_Encode.l0 k1 y114 l0 (l0.length : Int) (wrap64 (x13_1 + 1))) = some (r1, r2) := by first | (rw [hy114]; with_reducible exact H) | (have H2_ := (Option.bind_some _ _).symm.trans H; rw [hy114]; with_reducible exact H2_) | (have H2_ := (Option.bind_some _ _).symm.trans H; with_reducible exact H2_) | with_reducible exact H | (rw [hy114]; exact H) | exact H
                  have Ny114 := Aside0.mk hy114
                  clear hy114
                  have H' := Aside0.mk H
                  clear H
                  have p106 : 0 ≤ (x13_1 : Int) := of_decide_eq_true (by first | (with_reducible assumption) | assumption)
                  have q106 : x13_1 < (l0.length : Int) := of_decide_eq_true (by first | (with_reducible assumption) | assumption)
                  obtain ⟨ad106, A106_1, c106_1, e106, hx106_0, hx106_1, hl106_1, hi106_1⟩ := at_T48 HR0.out x13_1 p106 q106
                  cases e106
                  replace hx106_0 := (HB.out.cell (World.block_lt_of_cell? w _ hx106_0)).trans hx106_0
                  replace hx106_1 := (HB.out.cell (World.block_lt_of_cell? w _ hx106_1)).trans hx106_1
                  have HR106_1 := Aside0.mk hi106_1
                  have HC106_1 := Aside0.mk hl106_1
                  clear hi106_1 hl106_1
                  replace p106 := eq_true p106
                  replace q106 := eq_true q106
                  try go_wp2_with (first | ((with_reducible refine gate_dst (N := 7) rfl ?_); refine box_event ?hg_3 (N := 7) ?hd_3 (cs := #[.int .i64 0, .slice none 0 0]) (t := 48) ?hr_3 ?_; (case hd_3 => rfl); (case hg_3 => rfl); (case hr_3 => first | (go_simp; done) | (go_simp; rfl)); intro gb107 hg w11 hbox hb; have n0_ := Aside0.mk (Kd.R_below (by (with_reducible repeat (first | apply Kd.R_alloc | apply Kd.R_drewN | apply Kd.R_drew)); exact HO_5.out) hb); have n1_ := Aside0.mk (below_step (by repeat (first | (with_reducible first | exact HB.out | apply below_alloc | apply pw_below_drewN | apply below_drew1) | exact HB.out)) hb); have n2_ := Aside0.mk (hbox); have n3_ := Aside0.mk ((by rw [hg]; exact (below_size (by repeat (first | (with_reducible first | exact HB.out | apply below_alloc | apply pw_below_drewN | apply below_drew1) | exact HB.out))) : w.heap.size ≤ gb107)); have n4_ := Aside0.mk ((by rw [hg]; exact (below_size (by repeat (first | (with_reducible first | exact HB.out | apply below_alloc | apply pw_below_drewN | apply below_drew1) | exact HB.out))) : w.heap.size ≤ gb107)); clear HO_5; clear HB; have HO_5 := n0_; have HB := n1_; have BK107 := n2_; have GW107 := n3_; have GE107 := n4_; clear n0_ n1_ n2_ n3_ n4_; clear hb hbox hg; have hcz12_0 : w11.cell? ⟨gb107, 0, none⟩ = some (.int .i64 0) := (blk_cell BK107.out 0).trans rfl; have hcz12_1 : w11.cell? ⟨gb107, 1, none⟩ = some (.slice none 0 0) := (blk_cell BK107.out 1).trans rfl; have hfz12_0 := blk_frozen BK107.out 0; have hfz12_1 := blk_frozen BK107.out 1))
                  have n0_ : Aside0 (Kd.R (Kd.int .u8) 5 ((w11.setCell ⟨gb107, 0, none⟩ (.int .i64 ((rd_T48 l0 x13_1).f0))).setCell ⟨gb107, 1, none⟩ (.slice A106_1 ((rd_T48 l0 x13_1).f1).length c106_1)) w.heap.size (fun _ => True) u5 x5_1) := ⟨by (with_reducible repeat (first | apply Kd.R_alloc | apply Kd.R_drewN | apply Kd.R_drew)); exact Kd.R_mono (Kd.R_far (p := ⟨gb107, 1, none⟩) (Kd.R_far (p := ⟨gb107, 0, none⟩) (Kd.R_types HO_5.out BK107.out (by decide)) (fun _ hk => hk.2) (.int .i64 ((rd_T48 l0 x13_1).f0))) (fun _ hk => hk.2) (.slice A106_1 ((rd_T48 l0 x13_1).f1).length c106_1)) (fun _ hk => trivial)⟩
                  have n1_ : Aside0 (((w11.setCell ⟨gb107, 0, none⟩ (.int .i64 ((rd_T48 l0 x13_1).f0))).setCell ⟨gb107, 1, none⟩ (.slice A106_1 ((rd_T48 l0 x13_1).f1).length c106_1)).heap[gb107]? = some (.cells #[.int .i64 ((rd_T48 l0 x13_1).f0), .slice A106_1 ((rd_T48 l0 x13_1).f1).length c106_1] 48 (0, 0))) := ⟨by (with_reducible repeat (first | refine blk_drewN ?_ _ | refine blk_drew ?_ | refine blk_alloc ?_ _)); refine blk_put (cs := #[.int .i64 ((rd_T48 l0 x13_1).f0), .slice none 0 0]) ?_ 1 _ rfl; (with_reducible repeat (first | refine blk_drewN ?_ _ | refine blk_drew ?_ | refine blk_alloc ?_ _)); refine blk_put (cs := #[.int .i64 0, .slice none 0 0]) ?_ 0 _ rfl; (with_reducible repeat (first | refine blk_drewN ?_ _ | refine blk_drew ?_ | refine blk_alloc ?_ _)); exact BK107.out⟩
                  have n2_ : Aside0 (Below w.heap.size w ((w11.setCell ⟨gb107, 0, none⟩ (.int .i64 ((rd_T48 l0 x13_1).f0))).setCell ⟨gb107, 1, none⟩ (.slice A106_1 ((rd_T48 l0 x13_1).f1).length c106_1))) := ⟨by repeat (first | (with_reducible first | exact HB.out | apply below_alloc | apply pw_below_drewN | apply below_drew1 | refine below_set ?_ GE107.out) | exact HB.out)⟩
                  (try clear HO_5)
                  (try clear BK107)
                  (try clear HB)
                  generalize ((w11.setCell ⟨gb107, 0, none⟩ (.int .i64 ((rd_T48 l0 x13_1).f0))).setCell ⟨gb107, 1, none⟩ (.slice A106_1 ((rd_T48 l0 x13_1).f1).length c106_1)) = w13 at n0_ n1_ n2_ ⊢
                  have HO_5 := n0_
                  have BK107 := n1_
                  have HB := n2_
                  clear n0_ n1_ n2_
                  have n0_ := Aside0.mk (Kd.R_drew HO_5.out)
                  have n1_ := Aside0.mk (blk_drew BK107.out)
                  have n2_ := Aside0.mk (below_drew1 HB.out)
                  clear HO_5
                  clear BK107
                  clear HB
                  have HO_5 := n0_
                  have BK107 := n1_
                  have HB := n2_
                  clear n0_ n1_ n2_
                  refine start_ (n := 14) (S := fun w' => w'.cell? ⟨gb107, 0, none⟩ = some (.int .i64 ((rd_T48 l0 x13_1).f0)) ∧ w'.cell? ⟨gb107, 1, none⟩ = some (.slice A106_1 ((rd_T48 l0 x13_1).f1).length c106_1)) (ds := []) #[false, false, false, false, false, false, false, false, false, false, false, false, false, false] (by kernel_rfl) rfl rfl ⟨(blk_cell BK107.out 0).trans rfl, (blk_cell BK107.out 1).trans rfl⟩ (fun hHeld => ?_); refine with_tabW option_Encode.tab8 option_Encode.bits8 (fun HT_ HW_ => ?_)
                  generalize w13.drew = w14 at HO_5 BK107 HB hHeld ⊢
                  refine pure_ (i := 0) (N := some 17) (v := ?_) (a' := ?_) #[true, false, false, false, false, false, false, false, false, false, false, false, false, false] rfl rfl (any_of HT_.out (by kernel_rfl)) (fun _ _ _ h => h) (Or.inl ⟨by rfl, ?_⟩) ?_ ?_
                  rotate_left
                  · intro w'
                    go_simp
                    with_reducible rfl
                  rotate_left
                  · simp only [Act.put, List.setIfInBounds_toArray, List.set_cons_zero, List.set_cons_succ, i64_w, i32_w]
                    rfl
                  refine pure_ (i := 1) (N := some 18) (v := ?_) (a' := ?_) #[true, true, false, false, false, false, false, false, false, false, false, false, false, false] rfl rfl (any_of HT_.out (by kernel_rfl)) (fun _ _ _ h => h) (Or.inl ⟨by rfl, ?_⟩) ?_ ?_
                  rotate_left
                  · intro w'
                    go_simp
                    with_reducible rfl
                  rotate_left
                  · simp only [Act.put, List.setIfInBounds_toArray, List.set_cons_zero, List.set_cons_succ, i64_w, i32_w]
                    rfl
                  refine pure_ (i := 4) (N := some 21) (v := ?_) (a' := ?_) #[true, true, false, false, true, false, false, false, false, false, false, false, false, false] rfl rfl (any_of HT_.out (by kernel_rfl)) (fun _ _ _ h => h) (Or.inl ⟨by rfl, ?_⟩) ?_ ?_
                  rotate_left
                  · intro w'
                    go_simp
                    with_reducible rfl
                  rotate_left
                  · simp only [Act.put, List.setIfInBounds_toArray, List.set_cons_zero, List.set_cons_succ, i64_w, i32_w]
                    rfl
                  refine pure_ (i := 10) (N := some 27) (v := ?_) (a' := ?_) #[true, true, false, false, true, false, false, false, false, false, true, false, false, false] rfl rfl (any_of HT_.out (by kernel_rfl)) (fun _ _ _ h => h) (Or.inl ⟨by rfl, ?_⟩) ?_ ?_
                  rotate_left
                  · intro w'
                    go_simp
                    with_reducible rfl
                  rotate_left
                  · simp only [Act.put, List.setIfInBounds_toArray, List.set_cons_zero, List.set_cons_succ, i64_w, i32_w]
                    rfl
                  refine take_ (i := 2) (N := some 19) (v := ?_) (a' := ?_) #[true, true, true, false, true, false, false, false, false, false, true, false, false, false] rfl rfl (take_ofW HT_.out HW_.out (by kernel_rfl)) (fun _ _ _ h => h) (Or.inl ⟨by rfl, ?_⟩) hHeld ?_ ?_
                  rotate_left
                  · rintro w' ⟨s0, s1⟩
                    go_simp
                    with_reducible rfl
                  rotate_left
                  · simp only [Act.put, List.setIfInBounds_toArray, List.set_cons_zero, List.set_cons_succ, i64_w, i32_w]
                    rfl
                  refine pure_ (i := 3) (N := some 20) (v := ?_) (a' := ?_) #[true, true, true, true, true, false, false, false, false, false, true, false, false, false] rfl rfl (any_of HT_.out (by kernel_rfl)) (fun _ _ _ h => h) (Or.inl ⟨by rfl, ?_⟩) ?_ ?_
                  rotate_left
                  · intro w'
                    go_simp
                    with_reducible rfl
                  rotate_left
                  · simp only [Act.put, List.setIfInBounds_toArray, List.set_cons_zero, List.set_cons_succ, i64_w, i32_w]
                    rfl
                  refine take_ (i := 5) (N := some 22) (v := ?_) (a' := ?_) #[true, true, true, true, true, true, false, false, false, false, true, false, false, false] rfl rfl (take_ofW HT_.out HW_.out (by kernel_rfl)) (fun _ _ _ h => h) (Or.inl ⟨by rfl, ?_⟩) hHeld ?_ ?_
                  rotate_left
                  · rintro w' ⟨s0, s1⟩
                    go_simp
                    with_reducible rfl
                  rotate_left
                  · simp only [Act.put, List.setIfInBounds_toArray, List.set_cons_zero, List.set_cons_succ, i64_w, i32_w]
                    rfl
                  refine pure_ (i := 6) (N := some 23) (v := ?_) (a' := ?_) #[true, true, true, true, true, true, true, false, false, false, true, false, false, false] rfl rfl (any_of HT_.out (by kernel_rfl)) (fun _ _ _ h => h) (Or.inl ⟨by rfl, ?_⟩) ?_ ?_
                  rotate_left
                  · intro w'
                    go_simp
                    with_reducible rfl
                  rotate_left
                  · simp only [Act.put, List.setIfInBounds_toArray, List.set_cons_zero, List.set_cons_succ, i64_w, i32_w]
                    rfl
                  refine pure_ (i := 7) (N := some 24) (v := ?_) (a' := ?_) #[true, true, true, true, true, true, true, true, false, false, true, false, false, false] rfl rfl (any_of HT_.out (by kernel_rfl)) (fun _ _ _ h => h) (Or.inl ⟨by rfl, ?_⟩) ?_ ?_
                  rotate_left
                  · intro w'
                    go_simp
                    with_reducible rfl
                  rotate_left
                  · simp only [Act.put, List.setIfInBounds_toArray, List.set_cons_zero, List.set_cons_succ, i64_w, i32_w]
                    rfl
                  refine take_ (i := 11) (N := some 28) (v := ?_) (a' := ?_) #[true, true, true, true, true, true, true, true, false, false, true, true, false, false] rfl rfl (take_ofW HT_.out HW_.out (by kernel_rfl)) (fun _ _ _ h => h) (Or.inl ⟨by rfl, ?_⟩) hHeld ?_ ?_
                  rotate_left
                  · rintro w' ⟨s0, s1⟩
                    go_simp
                    with_reducible rfl
                  rotate_left
                  · simp only [Act.put, List.setIfInBounds_toArray, List.set_cons_zero, List.set_cons_succ, i64_w, i32_w]
                    rfl
                  refine one_ (i := 8) (N := some 25) #[true, true, true, true, true, true, true, true, true, false, true, true, false, false] rfl rfl (one_of HT_.out (by kernel_rfl)) (by decide) (fun K hK => ?_)
                  refine Kd.R_lit_step (Kd.int .u8) _ 5 ?hg_4 (N := 25) ?hd_4 (xs := ([((rd_T48 l0 x13_1).f0) % 256, ((((rd_T48 l0 x13_1).f1).length : Int)) % 256] : List Int)) (inner := [.int .u8 (((rd_T48 l0 x13_1).f0) % 256), .int .u8 (((((rd_T48 l0 x13_1).f1).length : Int)) % 256)]) (ok := fun _ => True) (okp := fun _ => True) ?hr_4 ?hp_4 (fun _ hk => hk) trivial (Below.refl _ _) (Nat.le_refl _) (by simp) ?_; (case hd_4 => rfl); (case hg_4 => rfl); (case hr_4 => first | (go_simp; done) | (go_simp; rfl)); (case hp_4 => exact (Reps.one (show Kd.M (Kd.int .u8) _ _ _ (((rd_T48 l0 x13_1).f0) % 256) [.int .u8 (((rd_T48 l0 x13_1).f0) % 256)] from rfl) (Reps.one (show Kd.M (Kd.int .u8) _ _ _ (((((rd_T48 l0 x13_1).f1).length : Int)) % 256) [.int .u8 (((((rd_T48 l0 x13_1).f1).length : Int)) % 256)] from rfl) (Reps.none _ _))))
                  intro v109 w15 ho16 hb hg_ hnew_
                  clear hg_ hnew_
                  (first | rw [← Ny108.out] at ho16 | (simp only [Int.reduceToNat] at ho16; rw [← Ny108.out] at ho16))
                  have n0_ := Aside0.mk (Kd.R_elder' (by (with_reducible repeat (first | apply Kd.R_alloc | apply Kd.R_drewN | apply Kd.R_drew)); exact HO_5.out) (Kd.R_base ho16) hb)
                  have n1_ := Aside0.mk (Kd.R_lower (Kd.R_new' ho16 (Kd.R_lt (by (with_reducible repeat (first | apply Kd.R_alloc | apply Kd.R_drewN | apply Kd.R_drew)); exact HO_5.out))) (below_size (by repeat (first | (with_reducible first | exact HB.out | apply below_alloc | apply pw_below_drewN | apply below_drew1 | refine below_set ?_ GE107.out) | exact HB.out))))
                  have n2_ := Aside0.mk (blk_below (g := gb107) (o := .cells #[.int .i64 ((rd_T48 l0 x13_1).f0), .slice A106_1 ((rd_T48 l0 x13_1).f1).length c106_1] 48 (0, 0)) (by (with_reducible repeat (first | refine blk_drewN ?_ _ | refine blk_drew ?_ | refine blk_alloc ?_ _)); exact BK107.out) hb)
                  have n3_ := Aside0.mk (below_step (by repeat (first | (with_reducible first | exact HB.out | apply below_alloc | apply pw_below_drewN | apply below_drew1 | refine below_set ?_ GE107.out) | exact HB.out)) hb)
                  clear HO_5
                  clear BK107
                  clear HB
                  have HO_5 := n0_
                  have HO110 := n1_
                  have BK107 := n2_
                  have HB := n3_
                  clear n0_ n1_ n2_ n3_
                  clear hb ho16
                  obtain ⟨Ao18, co18, eo18⟩ := Kd.R_slice HO110.out
                  (first | subst eo18 | (injection eo18 with f1_ f2_ f3_; have f4_ := f1_.symm; have f5_ := f3_.symm; clear f1_ f2_ f3_; subst f4_; subst f5_))
                  refine hK.out _ _ ⟨(blk_cell BK107.out 0).trans rfl, (blk_cell BK107.out 1).trans rfl⟩ (fun hHeld => ?_)
                  clear hK K
                  refine norm_ (a' := ?_) ?_ ?_
                  rotate_left
                  · show Act.put _ (some 25) _ = _
                    simp only [Act.put, List.setIfInBounds_toArray, List.set_cons_zero, List.set_cons_succ, i64_w, i32_w]
                    rfl
                  refine one_ (i := 9) (N := some 26) #[true, true, true, true, true, true, true, true, true, true, true, true, false, false] rfl rfl (one_of HT_.out (by kernel_rfl)) (by decide) (fun K hK => ?_)
                  refine Kd.R_append_rows_step (Kd.int .u8) (w0 := w) w.heap.size (by rfl) (.tmp 17) (.tmp 25) 25 5 (.int .u8 0) 1 rfl Try.underlying25 info5 rfl (by decide) (by omega) u5 x5_1 y108 _ _ _ (fun k_ => some k_ ≠ (.slice Ao18 y108.length co18 : Value).ownBlock) (fun _ => False) rfl rfl ?aO_5 ?aR_5 (fun _ _ h => h) (fun _ h => h.elim) ?aF_5 ?aB_5 ?aS_5 ?aL_5 ?_
                  (case aR_5 => repeat (first | exact (Kd.R_reads' HO110.out).2.2 | (with_reducible refine Kd.C_alloc ?_ _) | (with_reducible refine Kd.C_drewN ?_ _) | (with_reducible refine Kd.C_drew ?_)))
                  (case aB_5 => exact (by repeat (first | (with_reducible first | exact HB.out | apply below_alloc | apply pw_below_drewN | apply below_drew1 | refine below_set ?_ GE107.out) | exact HB.out)))
                  (case aF_5 => exact (fun k_ hk => Kd.fresh' (Kd.R_lt (by (with_reducible repeat (first | apply Kd.R_alloc | apply Kd.R_drewN | apply Kd.R_drew)); exact HO110.out)) k_ hk))
                  (case aO_5 => exact (by (with_reducible repeat (first | apply Kd.R_alloc | apply Kd.R_drewN | apply Kd.R_drew)); exact Kd.R_mono HO_5.out (fun _ hk => hk.2)))
                  (case aS_5 => exact (below_size (by repeat (first | (with_reducible first | exact HB.out | apply below_alloc | apply pw_below_drewN | apply below_drew1 | refine below_set ?_ GE107.out) | exact HB.out))))
                  (case aL_5 => have := LMc9.out; omega)
                  intro v112 w17 ho hb hg hat
                  rw [← Ny111.out] at ho
                  have n0_ := Aside0.mk (blk_grown (g := gb107) (o := .cells #[.int .i64 ((rd_T48 l0 x13_1).f0), .slice A106_1 ((rd_T48 l0 x13_1).f1).length c106_1] 48 (0, 0)) (by (with_reducible repeat (first | refine blk_drewN ?_ _ | refine blk_drew ?_ | refine blk_alloc ?_ _)); exact BK107.out) hg (Kd.R_ne HO_5.out BK107.out (by decide)))
                  have n1_ := Aside0.mk (Kd.R_after (ok := (fun _ => True)) (by (with_reducible repeat (first | apply Kd.R_alloc | apply Kd.R_drewN | apply Kd.R_drew)); exact HO110.out) hg hat)
                  have n2_ := Aside0.mk (hb)
                  have n3_ := Aside0.mk (ho)
                  clear BK107
                  clear HO110
                  clear HB
                  clear HO_5
                  have BK107 := n0_
                  have HO110 := n1_
                  have HB := n2_
                  have HO113 := n3_
                  clear n0_ n1_ n2_ n3_
                  clear ho hb hg hat
                  refine hK.out _ _ ⟨(blk_cell BK107.out 0).trans rfl, (blk_cell BK107.out 1).trans rfl⟩ (fun hHeld => ?_)
                  clear hK K
                  refine norm_ (a' := ?_) ?_ ?_
                  rotate_left
                  · show Act.put _ (some 26) _ = _
                    simp only [Act.put, List.setIfInBounds_toArray, List.set_cons_zero, List.set_cons_succ, i64_w, i32_w]
                    rfl
                  refine one_ (i := 12) (N := some 29) #[true, true, true, true, true, true, true, true, true, true, true, true, true, false] rfl rfl (one_of HT_.out (by kernel_rfl)) (by decide) (fun K hK => ?_)
                  refine Kd.R_append_rows_step (Kd.int .u8) (w0 := w) w.heap.size (by rfl) (.tmp 26) (.tmp 28) 25 5 (.int .u8 0) 1 rfl Try.underlying25 info5 rfl (by decide) (by omega) v112 y111 ((rd_T48 l0 x13_1).f1) _ _ _ (fun k_ => some k_ ≠ (.slice Ao18 y108.length co18 : Value).ownBlock) (fun _ => False) rfl rfl ?aO_6 ?aR_6 (fun _ _ h => h) (fun _ h => h.elim) ?aF_6 ?aB_6 ?aS_6 ?aL_6 ?_
                  (case aR_6 => repeat (first | exact (Kd.C_below HR106_1.out HB.out) | exact (Kd.C_below (Aside0.out (by assumption)) HB.out) | (with_reducible refine Kd.C_alloc ?_ _) | (with_reducible refine Kd.C_drewN ?_ _) | (with_reducible refine Kd.C_drew ?_)))
                  (case aB_6 => exact (by repeat (first | (with_reducible first | exact HB.out | apply below_alloc | apply pw_below_drewN | apply below_drew1 | refine below_set ?_ GE107.out) | exact HB.out)))
                  (case aF_6 => exact (fun k_ hk => Kd.fresh' (Kd.R_lt (by (with_reducible repeat (first | apply Kd.R_alloc | apply Kd.R_drewN | apply Kd.R_drew)); exact HO110.out)) k_ hk))
                  (case aO_6 => exact (by (with_reducible repeat (first | apply Kd.R_alloc | apply Kd.R_drewN | apply Kd.R_drew)); exact HO113.out))
                  (case aS_6 => exact (below_size (by repeat (first | (with_reducible first | exact HB.out | apply below_alloc | apply pw_below_drewN | apply below_drew1 | refine below_set ?_ GE107.out) | exact HB.out))))
                  (case aL_6 => have := LMc10.out; omega)
                  intro v115 w19 ho hb hg hat
                  rw [← Ny114.out] at ho
                  have n0_ := Aside0.mk (blk_grown (g := gb107) (o := .cells #[.int .i64 ((rd_T48 l0 x13_1).f0), .slice A106_1 ((rd_T48 l0 x13_1).f1).length c106_1] 48 (0, 0)) (by (with_reducible repeat (first | refine blk_drewN ?_ _ | refine blk_drew ?_ | refine blk_alloc ?_ _)); exact BK107.out) hg (Kd.R_ne HO113.out BK107.out (by decide)))
                  have n1_ := Aside0.mk (Kd.R_after (ok := (fun _ => True)) (by (with_reducible repeat (first | apply Kd.R_alloc | apply Kd.R_drewN | apply Kd.R_drew)); exact HO110.out) hg hat)
                  have n2_ := Aside0.mk (hb)
                  have n3_ := Aside0.mk (ho)
                  clear BK107
                  clear HO110
                  clear HB
                  clear HO113
                  have BK107 := n0_
                  have HO110 := n1_
                  have HB := n2_
                  have HO116 := n3_
                  clear n0_ n1_ n2_ n3_
                  clear ho hb hg hat
                  refine hK.out _ _ ⟨(blk_cell BK107.out 0).trans rfl, (blk_cell BK107.out 1).trans rfl⟩ (fun hHeld => ?_)
                  clear hK K
                  refine norm_ (a' := ?_) ?_ ?_
                  rotate_left
                  · show Act.put _ (some 29) _ = _
                    simp only [Act.put, List.setIfInBounds_toArray, List.set_cons_zero, List.set_cons_succ, i64_w, i32_w]
                    rfl
                  refine pure_ (i := 13) (N := some 5) (v := ?_) (a' := ?_) #[true, true, true, true, true, true, true, true, true, true, true, true, true, true] rfl rfl (any_of HT_.out (by kernel_rfl)) (fun _ _ _ h => h) (Or.inl ⟨by rfl, ?_⟩) ?_ ?_
                  rotate_left
                  · intro w'
                    go_simp
                    with_reducible rfl
                  rotate_left
                  · simp only [Act.put, List.setIfInBounds_toArray, List.set_cons_zero, List.set_cons_succ, i64_w, i32_w]
                    rfl
                  refine done_ (done_of HT_.out (by kernel_rfl)) ?_
                  try go_wp2
                  go_roundg k1
                  case measure => have := HK1.out; omega
                  case rel => exact ⟨(y114), (wrap64 (x13_1 + 1)), (by first | rfl | (simp; done) | (simp [*]; done)), H', ⟨by have := HK1.out; omega⟩, ⟨by (with_reducible repeat (first | apply Kd.R_alloc | apply Kd.R_drewN | apply Kd.R_drew)); exact Kd.R_mono HO116.out (fun _ hk => trivial)⟩, ⟨by repeat (first | (with_reducible first | exact HB.out | apply below_alloc | apply pw_below_drewN | apply below_drew1 | refine below_set ?_ GE107.out) | exact HB.out)⟩⟩
                · rw [if_neg c10] at H
                  exact absurd H (by simp)
              · rw [if_neg c9] at H
                exact absurd H (by simp)
            · rw [if_neg c8] at H
              exact absurd H (by simp)
          · rw [if_neg c7] at H
            exact absurd H (by simp)
        · rw [if_neg c6] at H
          have c6b0 : decide (x13_1 < (l0.length : Int)) = false := decide_eq_false c6
          clear c6
          by_cases c20 : x5_1.length < 140737488355328
          · rw [if_pos c20] at H
            have LMc20 := Aside0.mk c20
            clear c20
            obtain ⟨y117, hy117⟩ : ∃ y_ : List Int, y_ = (x5_1 ++ [255]) := ⟨_, rfl⟩
            replace H : (if (y117.length : Int) > 1024 then (some (([] : List Int), 3)) else (some (y117, 0))) = some (r1, r2) := by first | (rw [hy117]; with_reducible exact H) | (have H2_ := (Option.bind_some _ _).symm.trans H; rw [hy117]; with_reducible exact H2_) | (have H2_ := (Option.bind_some _ _).symm.trans H; with_reducible exact H2_) | with_reducible exact H | (rw [hy117]; exact H) | exact H
            have Ny117 := Aside0.mk hy117
            clear hy117
            by_cases c21 : (y117.length : Int) > 1024
            · rw [if_pos c21] at H
              have c21b0 : decide (1024 < (y117.length : Int)) = true := decide_eq_true c21
              have c21b1 : decide (1024 < y117.length) = true := decide_eq_true (by omega)
              clear c21
              simp only [Option.some.injEq, Prod.mk.injEq] at H
              obtain ⟨rfl, rfl⟩ := H
              go_wp2_with (first | ((with_reducible refine gate_builtin (b := .append) (xs := #[.tmp 31, .tmp 32]) rfl ?_); at_builtin; refine Kd.R_append (Kd.int .u8) (w0 := w) w.heap.size rfl (.tmp 31) (.tmp 32) 25 5 (.int .u8 0) 1 rfl Try.underlying25 info5 rfl (by decide) (by omega) u5 x5_1 255 [.int .u8 255] (fun _ => True) (fun _ => False) rfl rfl ?aP_7 (fun _ hk => hk.elim) ?aF_7 ?aO_7 ?aB_7 ?aS_7 ?aL_7 ?_; (case aP_7 => exact rfl); (case aB_7 => exact (by repeat (first | (with_reducible first | exact HB.out | apply below_alloc | apply pw_below_drewN | apply below_drew1) | exact HB.out))); (case aF_7 => exact (fun _ _ => trivial)); (case aO_7 => exact (by (with_reducible repeat (first | apply Kd.R_alloc | apply Kd.R_drewN | apply Kd.R_drew)); exact HO_5.out)); (case aS_7 => exact (below_size (by repeat (first | (with_reducible first | exact HB.out | apply below_alloc | apply pw_below_drewN | apply below_drew1) | exact HB.out)))); (case aL_7 => have := LMc20.out; omega); intro v118 w22 ho hb hg hat; rw [← Ny117.out] at ho; have n0_ := Aside0.mk (hb); have n1_ := Aside0.mk (ho); clear HB; clear HO_5; have HB := n0_; have HO119 := n1_; clear n0_ n1_; clear ho hb hg hat; obtain ⟨Ao23, co23, eo23⟩ := Kd.R_slice HO119.out; subst eo23))
              go_ret2
              exact ⟨_, by first | rfl | (simp [errW_none, errW_some] <;> rfl) | (simp [*, errW_none, errW_some] <;> rfl), by first | exact Kd.R_nil _ _ _ _ _ | exact Kd.N_nil _ _ _ _ _ | exact Kd.V_nil _ _ _ _ _ | exact Kd.Q_nil _ _ _ _ _ | exact Kd.S_nil _ _ _ _ _, by repeat (first | (with_reducible first | exact HB.out | apply below_alloc | apply pw_below_drewN | apply below_drew1) | exact HB.out)⟩
            · rw [if_neg c21] at H
              have c21b0 : decide (1024 < (y117.length : Int)) = false := decide_eq_false c21
              have c21b1 : decide (1024 < y117.length) = false := decide_eq_false (by omega)
              clear c21
              simp only [Option.some.injEq, Prod.mk.injEq] at H
              obtain ⟨rfl, rfl⟩ := H
              go_wp2_with (first | ((with_reducible refine gate_builtin (b := .append) (xs := #[.tmp 31, .tmp 32]) rfl ?_); at_builtin; refine Kd.R_append (Kd.int .u8) (w0 := w) w.heap.size rfl (.tmp 31) (.tmp 32) 25 5 (.int .u8 0) 1 rfl Try.underlying25 info5 rfl (by decide) (by omega) u5 x5_1 255 [.int .u8 255] (fun _ => True) (fun _ => False) rfl rfl ?aP_8 (fun _ hk => hk.elim) ?aF_8 ?aO_8 ?aB_8 ?aS_8 ?aL_8 ?_; (case aP_8 => exact rfl); (case aB_8 => exact (by repeat (first | (with_reducible first | exact HB.out | apply below_alloc | apply pw_below_drewN | apply below_drew1) | exact HB.out))); (case aF_8 => exact (fun _ _ => trivial)); (case aO_8 => exact (by (with_reducible repeat (first | apply Kd.R_alloc | apply Kd.R_drewN | apply Kd.R_drew)); exact HO_5.out)); (case aS_8 => exact (below_size (by repeat (first | (with_reducible first | exact HB.out | apply below_alloc | apply pw_below_drewN | apply below_drew1) | exact HB.out)))); (case aL_8 => have := LMc20.out; omega); intro v118 w24 ho hb hg hat; rw [← Ny117.out] at ho; have n0_ := Aside0.mk (hb); have n1_ := Aside0.mk (ho); clear HB; clear HO_5; have HB := n0_; have HO119 := n1_; clear n0_ n1_; clear ho hb hg hat; obtain ⟨Ao25, co25, eo25⟩ := Kd.R_slice HO119.out; subst eo25))
              go_ret2
              exact ⟨_, by first | rfl | (simp [errW_none, errW_some] <;> rfl) | (simp [*, errW_none, errW_some] <;> rfl), by (with_reducible repeat (first | apply Kd.R_alloc | apply Kd.R_drewN | apply Kd.R_drew)); exact HO119.out, by repeat (first | (with_reducible first | exact HB.out | apply below_alloc | apply pw_below_drewN | apply below_drew1) | exact HB.out)⟩
          · rw [if_neg c20] at H
            exact absurd H (by simp)

end Go.Proofs.Ytnkajghemggaaaa.Pr
end

section
-- written by a program of this session (wip/tools/gen.py) over the kit's print
namespace Go.Proofs.Ytnkajghemggaaaa.Pr
open Go.RowKit Go.Proofs.YtnkajghemggaaaaW.PrintWords Go.Proofs.YtnkajghemggaaaaW.PrintLast Go.Proofs.YtnkajghemggaaaaW.PrintMore
attribute [local go_sem] max2_int min2_int max_two min_two max_three min_three max_four min_four   -- for this text's walks alone
set_option linter.unusedVariables false
set_option linter.unusedSimpArgs false

/-! ### packet_Right: function 28 -/
def packet_Right.j0 : Nat → Int → Bool → Int → Int → Int → Int → Int → Int → Int → Int → List Int → List (S48) → Option (Bool)
 | 0, _, _, _, _, _, _, _, _, _, _, _, _ => none
 | k + 1, x4, x11, x246000, x246001, x246002, x246003, x246004, x246005, x246006, x246007, x246008, x246009 => if x11 = true then (some false) else (if (x246008.length : Int) < 1 then (some false) else (if (x246008.length : Int) > 16 then (some false) else (if x246002 ≥ 0 then (if x246002 ≤ 65535 then (if x246003 ≥ 0 then (if x246003 ≤ 65535 then (some (x4 == 0)) else (some false)) else (some false)) else (some false)) else (some false))))
def packet_Right.f (k : Nat) (a0_0 : Int) (a0_1 : Int) (a0_2 : Int) (a0_3 : Int) (a0_4 : Int) (a0_5 : Int) (a0_6 : Int) (a0_7 : Int) (l0_8 : List Int) (l0_9 : List (S48)) : Option (Bool) := (option_Encode.f k l0_9).bind fun bt246 => (if a0_0 = 1 then (packet_Right.j0 k bt246.2 false a0_0 a0_1 a0_2 a0_3 a0_4 a0_5 a0_6 a0_7 l0_8 l0_9) else (packet_Right.j0 k bt246.2 (a0_0 != 2) a0_0 a0_1 a0_2 a0_3 a0_4 a0_5 a0_6 a0_7 l0_8 l0_9))
theorem packet_Right.mono_l : ∀ k, (∀ y0 y1 y2 y3 y4 y5 y6 y7 y8 y9 y10 y11, LeO (packet_Right.j0 k y0 y1 y2 y3 y4 y5 y6 y7 y8 y9 y10 y11) (packet_Right.j0 (k + 1) y0 y1 y2 y3 y4 y5 y6 y7 y8 y9 y10 y11))
 | 0 => fun _ _ _ _ _ _ _ _ _ _ _ _ r h => by simp [packet_Right.j0] at h
 | k + 1 => by
  have ih0 := packet_Right.mono_l k
  ·intro y0 y1 y2 y3 y4 y5 y6 y7 y8 y9 y10 y11
   unfold packet_Right.j0
   repeat' first
   | (with_reducible exact ih0 _ _ _ _ _ _ _ _ _ _ _ _)
   | (with_reducible exact option_Encode.mono _ _)
   | (with_reducible exact LeO.refl _)
   | (with_reducible exact LeO.none _)
   | (with_reducible refine LeO.ite ?_ ?_)
   | (with_reducible refine LeO.bind ?_ (fun _ => ?_))
   | exact ih0 _ _ _ _ _ _ _ _ _ _ _ _
   | exact option_Encode.mono _ _
   | exact LeO.none _
   | refine LeO.ite ?_ ?_
   | refine LeO.bind ?_ (fun _ => ?_)
theorem packet_Right.mono : ∀ a0 a1 a2 a3 a4 a5 a6 a7 a8 a9 k, LeO (packet_Right.f k a0 a1 a2 a3 a4 a5 a6 a7 a8 a9) (packet_Right.f (k + 1) a0 a1 a2 a3 a4 a5 a6 a7 a8 a9) := by
 intro a0 a1 a2 a3 a4 a5 a6 a7 a8 a9 k
 have ih0 := packet_Right.mono_l k
 unfold packet_Right.f
 repeat' first
   | (with_reducible exact ih0 _ _ _ _ _ _ _ _ _ _ _ _)
   | (with_reducible exact option_Encode.mono _ _)
   | (with_reducible exact LeO.refl _)
   | (with_reducible exact LeO.none _)
   | (with_reducible refine LeO.ite ?_ ?_)
   | (with_reducible refine LeO.bind ?_ (fun _ => ?_))
   | exact ih0 _ _ _ _ _ _ _ _ _ _ _ _
   | exact option_Encode.mono _ _
   | exact LeO.none _
   | refine LeO.ite ?_ ?_
   | refine LeO.bind ?_ (fun _ => ?_)
set_option maxHeartbeats 8000000 in
set_option maxRecDepth 100000 in
theorem packet_Right.calls (k : Nat) (a0_0 : Int) (a0_1 : Int) (a0_2 : Int) (a0_3 : Int) (a0_4 : Int) (a0_5 : Int) (a0_6 : Int) (a0_7 : Int) (A0_8 : Option Addr) (c0_8 : Nat) (l0_8 : List Int) (A0_9 : Option Addr) (c0_9 : Nat) (l0_9 : List (S48)) (r : Bool) (w : World) (hr0_8 : Kd.C (Kd.int .u8) w A0_8 l0_8.length l0_8) (hc0_8 : l0_8.length ≤ c0_8) (hr0_9 : Kd.C k48 w A0_9 l0_9.length l0_9) (hc0_9 : l0_9.length ≤ c0_9) (h : packet_Right.f k a0_0 a0_1 a0_2 a0_3 a0_4 a0_5 a0_6 a0_7 l0_8 l0_9 = some r) :
  Calls Try.prog 28 #[.agg #[.int .i64 a0_0, .int .u32 a0_1, .int .i64 a0_2, .int .i64 a0_3, .int .u32 a0_4, .int .u32 a0_5, .int .u32 a0_6, .int .u32 a0_7, .slice A0_8 l0_8.length c0_8, .slice A0_9 l0_9.length c0_9]] w fun e w' => e = .returned (.bool r) ∧ Below w.heap.size w w' := by
 have hu28 := Try.underlying28
 have HR0_8 := Aside0.mk hr0_8
 have HC0_8 := Aside0.mk hc0_8
 clear hr0_8 hc0_8
 have HR0_9 := Aside0.mk hr0_9
 have HC0_9 := Aside0.mk hc0_9
 clear hr0_9 hc0_9
 have HB := Aside0.mk (Below.refl w.heap.size w)
 have H : ((option_Encode.f k l0_9).bind fun bt246 => (if a0_0 = 1 then (packet_Right.j0 k bt246.2 false a0_0 a0_1 a0_2 a0_3 a0_4 a0_5 a0_6 a0_7 l0_8 l0_9) else (packet_Right.j0 k bt246.2 (a0_0 != 2) a0_0 a0_1 a0_2 a0_3 a0_4 a0_5 a0_6 a0_7 l0_8 l0_9))) = some r := h
 clear h
 replace H := Option.bind_eq_some_iff.mp H
 obtain ⟨⟨t246, t247⟩, A20, H⟩ := H
 replace H : (if a0_0 = 1 then (packet_Right.j0 k t247 false a0_0 a0_1 a0_2 a0_3 a0_4 a0_5 a0_6 a0_7 l0_8 l0_9) else (packet_Right.j0 k t247 (a0_0 != 2) a0_0 a0_1 a0_2 a0_3 a0_4 a0_5 a0_6 a0_7 l0_8 l0_9)) = some r := H
 have A2 := Aside0.mk A20
 clear A20
 have HC3 := Aside0.mk H
 clear H
 go_enter Try.func28, Try.ntmps28
 go_upto_region 2 with (first | ((with_reducible refine gate_dst (N := 1) rfl ?_); (try (refine gate_guard (by rfl) ?_; dsimp only)); refine box_event ?hg_1 (N := 1) ?hd_1 (cs := #[.int .i64 a0_0, .int .u32 a0_1, .int .i64 a0_2, .int .i64 a0_3, .int .u32 a0_4, .int .u32 a0_5, .int .u32 a0_6, .int .u32 a0_7, .slice A0_8 l0_8.length c0_8, .slice A0_9 l0_9.length c0_9]) (t := 28) ?hr_1 ?_; (case hd_1 => rfl); (case hg_1 => rfl); (case hr_1 => first | (go_simp; done) | (go_simp; rfl)); intro gb245 hg w4 hbox hb; have n0_ := Aside0.mk (below_step (by repeat (first | (with_reducible first | exact HB.out | apply below_alloc | apply pw_below_drewN | apply below_drew1) | exact HB.out)) hb); have n1_ := Aside0.mk (hbox); have n2_ := Aside0.mk ((by rw [hg]; exact (below_size (by repeat (first | (with_reducible first | exact HB.out | apply below_alloc | apply pw_below_drewN | apply below_drew1) | exact HB.out))) : w.heap.size ≤ gb245)); have n3_ := Aside0.mk ((by rw [hg]; exact (below_size (by repeat (first | (with_reducible first | exact HB.out | apply below_alloc | apply pw_below_drewN | apply below_drew1) | exact HB.out))) : w.heap.size ≤ gb245)); clear HB; have HB := n0_; have BK245 := n1_; have GW245 := n2_; have GE245 := n3_; clear n0_ n1_ n2_ n3_; clear hb hbox hg; have hcz5_0 : w4.cell? ⟨gb245, 0, none⟩ = some (.int .i64 a0_0) := (blk_cell BK245.out 0).trans rfl; have hcz5_1 : w4.cell? ⟨gb245, 1, none⟩ = some (.int .u32 a0_1) := (blk_cell BK245.out 1).trans rfl; have hcz5_2 : w4.cell? ⟨gb245, 2, none⟩ = some (.int .i64 a0_2) := (blk_cell BK245.out 2).trans rfl; have hcz5_3 : w4.cell? ⟨gb245, 3, none⟩ = some (.int .i64 a0_3) := (blk_cell BK245.out 3).trans rfl; have hcz5_4 : w4.cell? ⟨gb245, 4, none⟩ = some (.int .u32 a0_4) := (blk_cell BK245.out 4).trans rfl; have hcz5_5 : w4.cell? ⟨gb245, 5, none⟩ = some (.int .u32 a0_5) := (blk_cell BK245.out 5).trans rfl; have hcz5_6 : w4.cell? ⟨gb245, 6, none⟩ = some (.int .u32 a0_6) := (blk_cell BK245.out 6).trans rfl; have hcz5_7 : w4.cell? ⟨gb245, 7, none⟩ = some (.int .u32 a0_7) := (blk_cell BK245.out 7).trans rfl; have hcz5_8 : w4.cell? ⟨gb245, 8, none⟩ = some (.slice A0_8 l0_8.length c0_8) := (blk_cell BK245.out 8).trans rfl; have hcz5_9 : w4.cell? ⟨gb245, 9, none⟩ = some (.slice A0_9 l0_9.length c0_9) := (blk_cell BK245.out 9).trans rfl; have hfz5_0 := blk_frozen BK245.out 0; have hfz5_1 := blk_frozen BK245.out 1; have hfz5_2 := blk_frozen BK245.out 2; have hfz5_3 := blk_frozen BK245.out 3; have hfz5_4 := blk_frozen BK245.out 4; have hfz5_5 := blk_frozen BK245.out 5; have hfz5_6 := blk_frozen BK245.out 6; have hfz5_7 := blk_frozen BK245.out 7; have hfz5_8 := blk_frozen BK245.out 8; have hfz5_9 := blk_frozen BK245.out 9) | ((with_reducible refine gate_callee (f := 43) rfl ?_); refine goesL_ (some 8) rfl rfl Try.func43 (by kernel_rfl) rfl #[.slice A0_9 l0_9.length c0_9] rfl (by (try simp only [List.map_toArray, List.map_cons, List.map_nil]); first | done | rfl | (simp only [List.length_drop, List.length_take]; rfl)) ?_; (with_reducible refine (option_Encode.calls k _ _ l0_9 t246 t247 _ ?side1_2 ?side2_2 A2.out).mono ?_); (case side1_2 => repeat (first | exact (Kd.C_below HR0_9.out HB.out) | exact (Kd.C_below (Aside0.out (by assumption)) HB.out) | (with_reducible refine Kd.C_alloc ?_ _) | (with_reducible refine Kd.C_drewN ?_ _) | (with_reducible refine Kd.C_drew ?_))); (case side2_2 => exact HC0_9.out); rintro e w6 ⟨v248, rfl, ho0, hb⟩; refine ⟨_, rfl, ?_⟩; have n0_ := Aside0.mk (Kd.R_lower ho0 (below_size (by repeat (first | (with_reducible first | exact HB.out | apply below_alloc | apply pw_below_drewN | apply below_drew1 | refine below_set ?_ GE245.out) | exact HB.out)))); have n1_ := Aside0.mk (blk_below (g := gb245) (o := .cells #[.int .i64 a0_0, .int .u32 a0_1, .int .i64 a0_2, .int .i64 a0_3, .int .u32 a0_4, .int .u32 a0_5, .int .u32 a0_6, .int .u32 a0_7, .slice A0_8 l0_8.length c0_8, .slice A0_9 l0_9.length c0_9] 28 (0, 0)) (by (with_reducible repeat (first | refine blk_drewN ?_ _ | refine blk_drew ?_ | refine blk_alloc ?_ _)); exact BK245.out) hb); have n2_ := Aside0.mk (below_step (by repeat (first | (with_reducible first | exact HB.out | apply below_alloc | apply pw_below_drewN | apply below_drew1 | refine below_set ?_ GE245.out) | exact HB.out)) hb); clear BK245; clear HB; have HO249 := n0_; have BK245 := n1_; have HB := n2_; clear n0_ n1_ n2_; (try clear hb); (try clear hb2); (try clear hk); (try clear hi); (try clear ho0)))
 (try simp only [Act.put, List.setIfInBounds_toArray, List.set_cons_zero, List.set_cons_succ])
 go_cut [11] (fun v11 wc => ∃ (kq : Nat) (x11_2 : Bool), v11 = .bool x11_2 ∧ Aside0 (packet_Right.j0 kq t247 x11_2 a0_0 a0_1 a0_2 a0_3 a0_4 a0_5 a0_6 a0_7 l0_8 l0_9 = some r) ∧ Aside0 (kq ≤ k) ∧ Aside0 (wc.heap[gb245]? = some (.cells #[.int .i64 a0_0, .int .u32 a0_1, .int .i64 a0_2, .int .i64 a0_3, .int .u32 a0_4, .int .u32 a0_5, .int .u32 a0_6, .int .u32 a0_7, (.slice A0_8 l0_8.length c0_8), (.slice A0_9 l0_9.length c0_9)] 28 (0, 0))) ∧ Aside0 (Below w.heap.size w wc))
 case first =>
  have H := HC3.out
  clear HC3
  by_cases c7 : a0_0 = 1
  ·rw [if_pos c7] at H
   have c7b0 : (a0_0 == 1) = true := beq_iff_eq.mpr c7
   have c7b1 : (a0_0 != 1) = false := bne_eq_false_iff_eq.mpr c7
   clear c7
   (first | rw [c7b0] | (simp only [i64_w, i32_w]; rw [c7b0]) | skip)
   have H' := Aside0.mk H
   clear H
   have hcz8_0 : w6.cell? ⟨gb245, 0, none⟩ = some (.int .i64 a0_0) := (blk_cell BK245.out 0).trans rfl
   have hcz8_1 : w6.cell? ⟨gb245, 1, none⟩ = some (.int .u32 a0_1) := (blk_cell BK245.out 1).trans rfl
   have hcz8_2 : w6.cell? ⟨gb245, 2, none⟩ = some (.int .i64 a0_2) := (blk_cell BK245.out 2).trans rfl
   have hcz8_3 : w6.cell? ⟨gb245, 3, none⟩ = some (.int .i64 a0_3) := (blk_cell BK245.out 3).trans rfl
   have hcz8_4 : w6.cell? ⟨gb245, 4, none⟩ = some (.int .u32 a0_4) := (blk_cell BK245.out 4).trans rfl
   have hcz8_5 : w6.cell? ⟨gb245, 5, none⟩ = some (.int .u32 a0_5) := (blk_cell BK245.out 5).trans rfl
   have hcz8_6 : w6.cell? ⟨gb245, 6, none⟩ = some (.int .u32 a0_6) := (blk_cell BK245.out 6).trans rfl
   have hcz8_7 : w6.cell? ⟨gb245, 7, none⟩ = some (.int .u32 a0_7) := (blk_cell BK245.out 7).trans rfl
   have hcz8_8 : w6.cell? ⟨gb245, 8, none⟩ = some (.slice A0_8 l0_8.length c0_8) := (blk_cell BK245.out 8).trans rfl
   have hcz8_9 : w6.cell? ⟨gb245, 9, none⟩ = some (.slice A0_9 l0_9.length c0_9) := (blk_cell BK245.out 9).trans rfl
   have hfz8_0 := blk_frozen BK245.out 0
   have hfz8_1 := blk_frozen BK245.out 1
   have hfz8_2 := blk_frozen BK245.out 2
   have hfz8_3 := blk_frozen BK245.out 3
   have hfz8_4 := blk_frozen BK245.out 4
   have hfz8_5 := blk_frozen BK245.out 5
   have hfz8_6 := blk_frozen BK245.out 6
   have hfz8_7 := blk_frozen BK245.out 7
   have hfz8_8 := blk_frozen BK245.out 8
   have hfz8_9 := blk_frozen BK245.out 9
   go_wp2
   go_meet
   case rel => exact ⟨_, (false), (by first | rfl | (simp; done) | (simp [*]; done)), H', ⟨by first | omega | exact Nat.le_refl _⟩, ⟨by (with_reducible repeat (first | refine blk_drewN ?_ _ | refine blk_drew ?_ | refine blk_alloc ?_ _)); exact BK245.out⟩, ⟨by repeat (first | (with_reducible first | exact HB.out | apply below_alloc | apply pw_below_drewN | apply below_drew1 | refine below_set ?_ GE245.out) | exact HB.out)⟩⟩
  ·rw [if_neg c7] at H
   have c7b0 : (a0_0 == 1) = false := beq_eq_false_iff_ne.mpr c7
   have c7b1 : (a0_0 != 1) = true := bne_iff_ne.mpr c7
   (first | rw [c7b0] | (simp only [i64_w, i32_w]; rw [c7b0]) | skip)
   have H' := Aside0.mk H
   clear H
   have hcz9_0 : w6.cell? ⟨gb245, 0, none⟩ = some (.int .i64 a0_0) := (blk_cell BK245.out 0).trans rfl
   have hcz9_1 : w6.cell? ⟨gb245, 1, none⟩ = some (.int .u32 a0_1) := (blk_cell BK245.out 1).trans rfl
   have hcz9_2 : w6.cell? ⟨gb245, 2, none⟩ = some (.int .i64 a0_2) := (blk_cell BK245.out 2).trans rfl
   have hcz9_3 : w6.cell? ⟨gb245, 3, none⟩ = some (.int .i64 a0_3) := (blk_cell BK245.out 3).trans rfl
   have hcz9_4 : w6.cell? ⟨gb245, 4, none⟩ = some (.int .u32 a0_4) := (blk_cell BK245.out 4).trans rfl
   have hcz9_5 : w6.cell? ⟨gb245, 5, none⟩ = some (.int .u32 a0_5) := (blk_cell BK245.out 5).trans rfl
   have hcz9_6 : w6.cell? ⟨gb245, 6, none⟩ = some (.int .u32 a0_6) := (blk_cell BK245.out 6).trans rfl
   have hcz9_7 : w6.cell? ⟨gb245, 7, none⟩ = some (.int .u32 a0_7) := (blk_cell BK245.out 7).trans rfl
   have hcz9_8 : w6.cell? ⟨gb245, 8, none⟩ = some (.slice A0_8 l0_8.length c0_8) := (blk_cell BK245.out 8).trans rfl
   have hcz9_9 : w6.cell? ⟨gb245, 9, none⟩ = some (.slice A0_9 l0_9.length c0_9) := (blk_cell BK245.out 9).trans rfl
   have hfz9_0 := blk_frozen BK245.out 0
   have hfz9_1 := blk_frozen BK245.out 1
   have hfz9_2 := blk_frozen BK245.out 2
   have hfz9_3 := blk_frozen BK245.out 3
   have hfz9_4 := blk_frozen BK245.out 4
   have hfz9_5 := blk_frozen BK245.out 5
   have hfz9_6 := blk_frozen BK245.out 6
   have hfz9_7 := blk_frozen BK245.out 7
   have hfz9_8 := blk_frozen BK245.out 8
   have hfz9_9 := blk_frozen BK245.out 9
   go_wp2
   go_meet
   case rel => exact ⟨_, ((a0_0 != 2)), (by first | rfl | (simp; done) | (simp [*]; done)), H', ⟨by first | omega | exact Nat.le_refl _⟩, ⟨by (with_reducible repeat (first | refine blk_drewN ?_ _ | refine blk_drew ?_ | refine blk_alloc ?_ _)); exact BK245.out⟩, ⟨by repeat (first | (with_reducible first | exact HB.out | apply below_alloc | apply pw_below_drewN | apply below_drew1 | refine below_set ?_ GE245.out) | exact HB.out)⟩⟩
 case rest =>
  clear HC3
  try clear c2
  try clear p2
  try clear c4
  try clear c7
  try clear c7b0
  try clear c7b1
  try clear hcz5_0
  try clear hcz5_1
  try clear hcz5_2
  try clear hcz5_3
  try clear hcz5_4
  try clear hcz5_5
  try clear hcz5_6
  try clear hcz5_7
  try clear hcz5_8
  try clear hcz5_9
  try clear hcz8_0
  try clear hcz8_1
  try clear hcz8_2
  try clear hcz8_3
  try clear hcz8_4
  try clear hcz8_5
  try clear hcz8_6
  try clear hcz8_7
  try clear hcz8_8
  try clear hcz8_9
  try clear hcz9_0
  try clear hcz9_1
  try clear hcz9_2
  try clear hcz9_3
  try clear hcz9_4
  try clear hcz9_5
  try clear hcz9_6
  try clear hcz9_7
  try clear hcz9_8
  try clear hcz9_9
  try clear hfz5_0
  try clear hfz5_1
  try clear hfz5_2
  try clear hfz5_3
  try clear hfz5_4
  try clear hfz5_5
  try clear hfz5_6
  try clear hfz5_7
  try clear hfz5_8
  try clear hfz5_9
  try clear hfz8_0
  try clear hfz8_1
  try clear hfz8_2
  try clear hfz8_3
  try clear hfz8_4
  try clear hfz8_5
  try clear hfz8_6
  try clear hfz8_7
  try clear hfz8_8
  try clear hfz8_9
  try clear hfz9_0
  try clear hfz9_1
  try clear hfz9_2
  try clear hfz9_3
  try clear hfz9_4
  try clear hfz9_5
  try clear hfz9_6
  try clear hfz9_7
  try clear hfz9_8
  try clear hfz9_9
  obtain ⟨kq, x11_2, rfl, HA, HJ2, BK245, HB⟩ := hcut
  cases kq with
  | zero => exact absurd HA.out (by simp [packet_Right.j0])
  | succ kj2 =>
   have H := HA.out
   clear HA
   simp only [packet_Right.j0] at H
   by_cases c10 : x11_2 = true
   ·subst c10
    have H1 : (some false) = some r := by rw [if_pos rfl] at H; exact H
    clear H
    have H := H1
    clear H1
    obtain rfl := Option.some.inj H
    go_wp2
    go_ret
    exact ⟨by first | rfl | (simp [errW_none, errW_some] <;> rfl) | (simp [*, errW_none, errW_some] <;> rfl), by repeat (first | (with_reducible first | exact HB.out | apply below_alloc | apply pw_below_drewN | apply below_drew1 | refine below_set ?_ GE245.out) | exact HB.out)⟩
   ·replace c10 := Bool.eq_false_iff.mpr c10
    subst c10
    have H1 : (if (l0_8.length : Int) < 1 then (some false) else (if (l0_8.length : Int) > 16 then (some false) else (if a0_2 ≥ 0 then (if a0_2 ≤ 65535 then (if a0_3 ≥ 0 then (if a0_3 ≤ 65535 then (some (t247 == 0)) else (some false)) else (some false)) else (some false)) else (some false)))) = some r := by rw [if_neg (show ¬ (false = true) by decide)] at H; exact H
    clear H
    have H := H1
    clear H1
    by_cases c11 : (l0_8.length : Int) < 1
    ·rw [if_pos c11] at H
     have c11b0 : decide ((l0_8.length : Int) < 1) = true := decide_eq_true c11
     have c11b1 : decide (l0_8.length < 1) = true := decide_eq_true (by omega)
     clear c11
     obtain rfl := Option.some.inj H
     have hcz12_0 : wc.cell? ⟨gb245, 0, none⟩ = some (.int .i64 a0_0) := (blk_cell BK245.out 0).trans rfl
     have hcz12_1 : wc.cell? ⟨gb245, 1, none⟩ = some (.int .u32 a0_1) := (blk_cell BK245.out 1).trans rfl
     have hcz12_2 : wc.cell? ⟨gb245, 2, none⟩ = some (.int .i64 a0_2) := (blk_cell BK245.out 2).trans rfl
     have hcz12_3 : wc.cell? ⟨gb245, 3, none⟩ = some (.int .i64 a0_3) := (blk_cell BK245.out 3).trans rfl
     have hcz12_4 : wc.cell? ⟨gb245, 4, none⟩ = some (.int .u32 a0_4) := (blk_cell BK245.out 4).trans rfl
     have hcz12_5 : wc.cell? ⟨gb245, 5, none⟩ = some (.int .u32 a0_5) := (blk_cell BK245.out 5).trans rfl
     have hcz12_6 : wc.cell? ⟨gb245, 6, none⟩ = some (.int .u32 a0_6) := (blk_cell BK245.out 6).trans rfl
     have hcz12_7 : wc.cell? ⟨gb245, 7, none⟩ = some (.int .u32 a0_7) := (blk_cell BK245.out 7).trans rfl
     have hcz12_8 : wc.cell? ⟨gb245, 8, none⟩ = some (.slice A0_8 l0_8.length c0_8) := (blk_cell BK245.out 8).trans rfl
     have hcz12_9 : wc.cell? ⟨gb245, 9, none⟩ = some (.slice A0_9 l0_9.length c0_9) := (blk_cell BK245.out 9).trans rfl
     have hfz12_0 := blk_frozen BK245.out 0
     have hfz12_1 := blk_frozen BK245.out 1
     have hfz12_2 := blk_frozen BK245.out 2
     have hfz12_3 := blk_frozen BK245.out 3
     have hfz12_4 := blk_frozen BK245.out 4
     have hfz12_5 := blk_frozen BK245.out 5
     have hfz12_6 := blk_frozen BK245.out 6
     have hfz12_7 := blk_frozen BK245.out 7
     have hfz12_8 := blk_frozen BK245.out 8
     have hfz12_9 := blk_frozen BK245.out 9
     go_wp2
     go_ret
     exact ⟨by first | rfl | (simp [errW_none, errW_some] <;> rfl) | (simp [*, errW_none, errW_some] <;> rfl), by repeat (first | (with_reducible first | exact HB.out | apply below_alloc | apply pw_below_drewN | apply below_drew1 | refine below_set ?_ GE245.out) | exact HB.out)⟩
    ·rw [if_neg c11] at H
     have c11b0 : decide ((l0_8.length : Int) < 1) = false := decide_eq_false c11
     have c11b1 : decide (l0_8.length < 1) = false := decide_eq_false (by omega)
     clear c11
     by_cases c13 : (l0_8.length : Int) > 16
     ·rw [if_pos c13] at H
      have c13b0 : decide (16 < (l0_8.length : Int)) = true := decide_eq_true c13
      have c13b1 : decide (16 < l0_8.length) = true := decide_eq_true (by omega)
      clear c13
      obtain rfl := Option.some.inj H
      have hcz14_0 : wc.cell? ⟨gb245, 0, none⟩ = some (.int .i64 a0_0) := (blk_cell BK245.out 0).trans rfl
      have hcz14_1 : wc.cell? ⟨gb245, 1, none⟩ = some (.int .u32 a0_1) := (blk_cell BK245.out 1).trans rfl
      have hcz14_2 : wc.cell? ⟨gb245, 2, none⟩ = some (.int .i64 a0_2) := (blk_cell BK245.out 2).trans rfl
      have hcz14_3 : wc.cell? ⟨gb245, 3, none⟩ = some (.int .i64 a0_3) := (blk_cell BK245.out 3).trans rfl
      have hcz14_4 : wc.cell? ⟨gb245, 4, none⟩ = some (.int .u32 a0_4) := (blk_cell BK245.out 4).trans rfl
      have hcz14_5 : wc.cell? ⟨gb245, 5, none⟩ = some (.int .u32 a0_5) := (blk_cell BK245.out 5).trans rfl
      have hcz14_6 : wc.cell? ⟨gb245, 6, none⟩ = some (.int .u32 a0_6) := (blk_cell BK245.out 6).trans rfl
      have hcz14_7 : wc.cell? ⟨gb245, 7, none⟩ = some (.int .u32 a0_7) := (blk_cell BK245.out 7).trans rfl
      have hcz14_8 : wc.cell? ⟨gb245, 8, none⟩ = some (.slice A0_8 l0_8.length c0_8) := (blk_cell BK245.out 8).trans rfl
      have hcz14_9 : wc.cell? ⟨gb245, 9, none⟩ = some (.slice A0_9 l0_9.length c0_9) := (blk_cell BK245.out 9).trans rfl
      have hfz14_0 := blk_frozen BK245.out 0
      have hfz14_1 := blk_frozen BK245.out 1
      have hfz14_2 := blk_frozen BK245.out 2
      have hfz14_3 := blk_frozen BK245.out 3
      have hfz14_4 := blk_frozen BK245.out 4
      have hfz14_5 := blk_frozen BK245.out 5
      have hfz14_6 := blk_frozen BK245.out 6
      have hfz14_7 := blk_frozen BK245.out 7
      have hfz14_8 := blk_frozen BK245.out 8
      have hfz14_9 := blk_frozen BK245.out 9
      go_wp2
      go_ret
      exact ⟨by first | rfl | (simp [errW_none, errW_some] <;> rfl) | (simp [*, errW_none, errW_some] <;> rfl), by repeat (first | (with_reducible first | exact HB.out | apply below_alloc | apply pw_below_drewN | apply below_drew1 | refine below_set ?_ GE245.out) | exact HB.out)⟩
     ·rw [if_neg c13] at H
      have c13b0 : decide (16 < (l0_8.length : Int)) = false := decide_eq_false c13
      have c13b1 : decide (16 < l0_8.length) = false := decide_eq_false (by omega)
      clear c13
      by_cases c15 : a0_2 ≥ 0
      ·rw [if_pos c15] at H
       have c15b0 : decide (0 ≤ a0_2) = true := decide_eq_true c15
       clear c15
       by_cases c16 : a0_2 ≤ 65535
       ·rw [if_pos c16] at H
        have c16b0 : decide (a0_2 ≤ 65535) = true := decide_eq_true c16
        clear c16
        by_cases c17 : a0_3 ≥ 0
        ·rw [if_pos c17] at H
         have c17b0 : decide (0 ≤ a0_3) = true := decide_eq_true c17
         clear c17
         by_cases c18 : a0_3 ≤ 65535
         ·rw [if_pos c18] at H
          have c18b0 : decide (a0_3 ≤ 65535) = true := decide_eq_true c18
          clear c18
          obtain rfl := Option.some.inj H
          have hcz19_0 : wc.cell? ⟨gb245, 0, none⟩ = some (.int .i64 a0_0) := (blk_cell BK245.out 0).trans rfl
          have hcz19_1 : wc.cell? ⟨gb245, 1, none⟩ = some (.int .u32 a0_1) := (blk_cell BK245.out 1).trans rfl
          have hcz19_2 : wc.cell? ⟨gb245, 2, none⟩ = some (.int .i64 a0_2) := (blk_cell BK245.out 2).trans rfl
          have hcz19_3 : wc.cell? ⟨gb245, 3, none⟩ = some (.int .i64 a0_3) := (blk_cell BK245.out 3).trans rfl
          have hcz19_4 : wc.cell? ⟨gb245, 4, none⟩ = some (.int .u32 a0_4) := (blk_cell BK245.out 4).trans rfl
          have hcz19_5 : wc.cell? ⟨gb245, 5, none⟩ = some (.int .u32 a0_5) := (blk_cell BK245.out 5).trans rfl
          have hcz19_6 : wc.cell? ⟨gb245, 6, none⟩ = some (.int .u32 a0_6) := (blk_cell BK245.out 6).trans rfl
          have hcz19_7 : wc.cell? ⟨gb245, 7, none⟩ = some (.int .u32 a0_7) := (blk_cell BK245.out 7).trans rfl
          have hcz19_8 : wc.cell? ⟨gb245, 8, none⟩ = some (.slice A0_8 l0_8.length c0_8) := (blk_cell BK245.out 8).trans rfl
          have hcz19_9 : wc.cell? ⟨gb245, 9, none⟩ = some (.slice A0_9 l0_9.length c0_9) := (blk_cell BK245.out 9).trans rfl
          have hfz19_0 := blk_frozen BK245.out 0
          have hfz19_1 := blk_frozen BK245.out 1
          have hfz19_2 := blk_frozen BK245.out 2
          have hfz19_3 := blk_frozen BK245.out 3
          have hfz19_4 := blk_frozen BK245.out 4
          have hfz19_5 := blk_frozen BK245.out 5
          have hfz19_6 := blk_frozen BK245.out 6
          have hfz19_7 := blk_frozen BK245.out 7
          have hfz19_8 := blk_frozen BK245.out 8
          have hfz19_9 := blk_frozen BK245.out 9
          go_wp2
          go_ret
          exact ⟨by first | rfl | (simp [errW_none, errW_some] <;> rfl) | (simp [*, errW_none, errW_some] <;> rfl), by repeat (first | (with_reducible first | exact HB.out | apply below_alloc | apply pw_below_drewN | apply below_drew1 | refine below_set ?_ GE245.out) | exact HB.out)⟩
         ·rw [if_neg c18] at H
          have c18b0 : decide (a0_3 ≤ 65535) = false := decide_eq_false c18
          clear c18
          obtain rfl := Option.some.inj H
          have hcz20_0 : wc.cell? ⟨gb245, 0, none⟩ = some (.int .i64 a0_0) := (blk_cell BK245.out 0).trans rfl
          have hcz20_1 : wc.cell? ⟨gb245, 1, none⟩ = some (.int .u32 a0_1) := (blk_cell BK245.out 1).trans rfl
          have hcz20_2 : wc.cell? ⟨gb245, 2, none⟩ = some (.int .i64 a0_2) := (blk_cell BK245.out 2).trans rfl
          have hcz20_3 : wc.cell? ⟨gb245, 3, none⟩ = some (.int .i64 a0_3) := (blk_cell BK245.out 3).trans rfl
          have hcz20_4 : wc.cell? ⟨gb245, 4, none⟩ = some (.int .u32 a0_4) := (blk_cell BK245.out 4).trans rfl
          have hcz20_5 : wc.cell? ⟨gb245, 5, none⟩ = some (.int .u32 a0_5) := (blk_cell BK245.out 5).trans rfl
          have hcz20_6 : wc.cell? ⟨gb245, 6, none⟩ = some (.int .u32 a0_6) := (blk_cell BK245.out 6).trans rfl
          have hcz20_7 : wc.cell? ⟨gb245, 7, none⟩ = some (.int .u32 a0_7) := (blk_cell BK245.out 7).trans rfl
          have hcz20_8 : wc.cell? ⟨gb245, 8, none⟩ = some (.slice A0_8 l0_8.length c0_8) := (blk_cell BK245.out 8).trans rfl
          have hcz20_9 : wc.cell? ⟨gb245, 9, none⟩ = some (.slice A0_9 l0_9.length c0_9) := (blk_cell BK245.out 9).trans rfl
          have hfz20_0 := blk_frozen BK245.out 0
          have hfz20_1 := blk_frozen BK245.out 1
          have hfz20_2 := blk_frozen BK245.out 2
          have hfz20_3 := blk_frozen BK245.out 3
          have hfz20_4 := blk_frozen BK245.out 4
          have hfz20_5 := blk_frozen BK245.out 5
          have hfz20_6 := blk_frozen BK245.out 6
          have hfz20_7 := blk_frozen BK245.out 7
          have hfz20_8 := blk_frozen BK245.out 8
          have hfz20_9 := blk_frozen BK245.out 9
          go_wp2
          go_ret
          exact ⟨by first | rfl | (simp [errW_none, errW_some] <;> rfl) | (simp [*, errW_none, errW_some] <;> rfl), by repeat (first | (with_reducible first | exact HB.out | apply below_alloc | apply pw_below_drewN | apply below_drew1 | refine below_set ?_ GE245.out) | exact HB.out)⟩
        ·rw [if_neg c17] at H
         have c17b0 : decide (0 ≤ a0_3) = false := decide_eq_false c17
         clear c17
         obtain rfl := Option.some.inj H
         have hcz21_0 : wc.cell? ⟨gb245, 0, none⟩ = some (.int .i64 a0_0) := (blk_cell BK245.out 0).trans rfl
         have hcz21_1 : wc.cell? ⟨gb245, 1, none⟩ = some (.int .u32 a0_1) := (blk_cell BK245.out 1).trans rfl
         have hcz21_2 : wc.cell? ⟨gb245, 2, none⟩ = some (.int .i64 a0_2) := (blk_cell BK245.out 2).trans rfl
         have hcz21_3 : wc.cell? ⟨gb245, 3, none⟩ = some (.int .i64 a0_3) := (blk_cell BK245.out 3).trans rfl
         have hcz21_4 : wc.cell? ⟨gb245, 4, none⟩ = some (.int .u32 a0_4) := (blk_cell BK245.out 4).trans rfl
         have hcz21_5 : wc.cell? ⟨gb245, 5, none⟩ = some (.int .u32 a0_5) := (blk_cell BK245.out 5).trans rfl
         have hcz21_6 : wc.cell? ⟨gb245, 6, none⟩ = some (.int .u32 a0_6) := (blk_cell BK245.out 6).trans rfl
         have hcz21_7 : wc.cell? ⟨gb245, 7, none⟩ = some (.int .u32 a0_7) := (blk_cell BK245.out 7).trans rfl
         have hcz21_8 : wc.cell? ⟨gb245, 8, none⟩ = some (.slice A0_8 l0_8.length c0_8) := (blk_cell BK245.out 8).trans rfl
         have hcz21_9 : wc.cell? ⟨gb245, 9, none⟩ = some (.slice A0_9 l0_9.length c0_9) := (blk_cell BK245.out 9).trans rfl
         have hfz21_0 := blk_frozen BK245.out 0
         have hfz21_1 := blk_frozen BK245.out 1
         have hfz21_2 := blk_frozen BK245.out 2
         have hfz21_3 := blk_frozen BK245.out 3
         have hfz21_4 := blk_frozen BK245.out 4
         have hfz21_5 := blk_frozen BK245.out 5
         have hfz21_6 := blk_frozen BK245.out 6
         have hfz21_7 := blk_frozen BK245.out 7
         have hfz21_8 := blk_frozen BK245.out 8
         have hfz21_9 := blk_frozen BK245.out 9
         go_wp2
         go_ret
         exact ⟨by first | rfl | (simp [errW_none, errW_some] <;> rfl) | (simp [*, errW_none, errW_some] <;> rfl), by repeat (first | (with_reducible first | exact HB.out | apply below_alloc | apply pw_below_drewN | apply below_drew1 | refine below_set ?_ GE245.out) | exact HB.out)⟩
       ·rw [if_neg c16] at H
        have c16b0 : decide (a0_2 ≤ 65535) = false := decide_eq_false c16
        clear c16
        obtain rfl := Option.some.inj H
        have hcz22_0 : wc.cell? ⟨gb245, 0, none⟩ = some (.int .i64 a0_0) := (blk_cell BK245.out 0).trans rfl
        have hcz22_1 : wc.cell? ⟨gb245, 1, none⟩ = some (.int .u32 a0_1) := (blk_cell BK245.out 1).trans rfl
        have hcz22_2 : wc.cell? ⟨gb245, 2, none⟩ = some (.int .i64 a0_2) := (blk_cell BK245.out 2).trans rfl
        have hcz22_3 : wc.cell? ⟨gb245, 3, none⟩ = some (.int .i64 a0_3) := (blk_cell BK245.out 3).trans rfl
        have hcz22_4 : wc.cell? ⟨gb245, 4, none⟩ = some (.int .u32 a0_4) := (blk_cell BK245.out 4).trans rfl
        have hcz22_5 : wc.cell? ⟨gb245, 5, none⟩ = some (.int .u32 a0_5) := (blk_cell BK245.out 5).trans rfl
        have hcz22_6 : wc.cell? ⟨gb245, 6, none⟩ = some (.int .u32 a0_6) := (blk_cell BK245.out 6).trans rfl
        have hcz22_7 : wc.cell? ⟨gb245, 7, none⟩ = some (.int .u32 a0_7) := (blk_cell BK245.out 7).trans rfl
        have hcz22_8 : wc.cell? ⟨gb245, 8, none⟩ = some (.slice A0_8 l0_8.length c0_8) := (blk_cell BK245.out 8).trans rfl
        have hcz22_9 : wc.cell? ⟨gb245, 9, none⟩ = some (.slice A0_9 l0_9.length c0_9) := (blk_cell BK245.out 9).trans rfl
        have hfz22_0 := blk_frozen BK245.out 0
        have hfz22_1 := blk_frozen BK245.out 1
        have hfz22_2 := blk_frozen BK245.out 2
        have hfz22_3 := blk_frozen BK245.out 3
        have hfz22_4 := blk_frozen BK245.out 4
        have hfz22_5 := blk_frozen BK245.out 5
        have hfz22_6 := blk_frozen BK245.out 6
        have hfz22_7 := blk_frozen BK245.out 7
        have hfz22_8 := blk_frozen BK245.out 8
        have hfz22_9 := blk_frozen BK245.out 9
        go_wp2
        go_ret
        exact ⟨by first | rfl | (simp [errW_none, errW_some] <;> rfl) | (simp [*, errW_none, errW_some] <;> rfl), by repeat (first | (with_reducible first | exact HB.out | apply below_alloc | apply pw_below_drewN | apply below_drew1 | refine below_set ?_ GE245.out) | exact HB.out)⟩
      ·rw [if_neg c15] at H
       have c15b0 : decide (0 ≤ a0_2) = false := decide_eq_false c15
       clear c15
       obtain rfl := Option.some.inj H
       have hcz23_0 : wc.cell? ⟨gb245, 0, none⟩ = some (.int .i64 a0_0) := (blk_cell BK245.out 0).trans rfl
       have hcz23_1 : wc.cell? ⟨gb245, 1, none⟩ = some (.int .u32 a0_1) := (blk_cell BK245.out 1).trans rfl
       have hcz23_2 : wc.cell? ⟨gb245, 2, none⟩ = some (.int .i64 a0_2) := (blk_cell BK245.out 2).trans rfl
       have hcz23_3 : wc.cell? ⟨gb245, 3, none⟩ = some (.int .i64 a0_3) := (blk_cell BK245.out 3).trans rfl
       have hcz23_4 : wc.cell? ⟨gb245, 4, none⟩ = some (.int .u32 a0_4) := (blk_cell BK245.out 4).trans rfl
       have hcz23_5 : wc.cell? ⟨gb245, 5, none⟩ = some (.int .u32 a0_5) := (blk_cell BK245.out 5).trans rfl
       have hcz23_6 : wc.cell? ⟨gb245, 6, none⟩ = some (.int .u32 a0_6) := (blk_cell BK245.out 6).trans rfl
       have hcz23_7 : wc.cell? ⟨gb245, 7, none⟩ = some (.int .u32 a0_7) := (blk_cell BK245.out 7).trans rfl
       have hcz23_8 : wc.cell? ⟨gb245, 8, none⟩ = some (.slice A0_8 l0_8.length c0_8) := (blk_cell BK245.out 8).trans rfl
       have hcz23_9 : wc.cell? ⟨gb245, 9, none⟩ = some (.slice A0_9 l0_9.length c0_9) := (blk_cell BK245.out 9).trans rfl
       have hfz23_0 := blk_frozen BK245.out 0
       have hfz23_1 := blk_frozen BK245.out 1
       have hfz23_2 := blk_frozen BK245.out 2
       have hfz23_3 := blk_frozen BK245.out 3
       have hfz23_4 := blk_frozen BK245.out 4
       have hfz23_5 := blk_frozen BK245.out 5
       have hfz23_6 := blk_frozen BK245.out 6
       have hfz23_7 := blk_frozen BK245.out 7
       have hfz23_8 := blk_frozen BK245.out 8
       have hfz23_9 := blk_frozen BK245.out 9
       go_wp2
       go_ret
       exact ⟨by first | rfl | (simp [errW_none, errW_some] <;> rfl) | (simp [*, errW_none, errW_some] <;> rfl), by repeat (first | (with_reducible first | exact HB.out | apply below_alloc | apply pw_below_drewN | apply below_drew1 | refine below_set ?_ GE245.out) | exact HB.out)⟩

end Go.Proofs.Ytnkajghemggaaaa.Pr
end

section
namespace Go.Proofs.Ytnkajghemggaaaa.PO
open Go.RowKit Go.Proofs.Ytnkajghemggaaaa Go.Proofs.Ytnkajghemggaaaa.Pr Go.Proofs.YtnkajghemggaaaaW.PrintWords Go.Proofs.YtnkajghemggaaaaW.PrintLast Go.Proofs.YtnkajghemggaaaaW.PrintMore
set_option linter.unusedVariables false
set_option linter.unusedSimpArgs false

abbrev Opt := S48
theorem wrapO {x : Int} (h0 : 0 ≤ x) (h1 : x < 9223372036854775808) : wrap64 x = x := by unfold wrap64; omega
theorem rd_at (l : List Opt) {i : Nat} (h : i < l.length) : rd_T48 l (i : Int) = l[i] := by
  unfold rd_T48
  rw [Int.toNat_natCast, List.getD_eq_getElem?_getD, List.getElem?_eq_getElem h]
  rfl

def okOpt (x : Opt) : Prop := 1 ≤ x.f0 ∧ x.f0 ≤ 254 ∧ x.f1.length ≤ 255
instance (x : Opt) : Decidable (okOpt x) := by unfold okOpt; infer_instance
def enc1 (x : Opt) : List Int := [x.f0 % 256, (x.f1.length : Int) % 256] ++ x.f1
def enc (l : List Opt) : List Int := (l.map enc1).flatten
def encR (l : List Opt) : List Int × Int := if ∀ x ∈ l, okOpt x then (if 1024 ≤ (enc l).length then ([], 3) else (enc l ++ [255], 0)) else ([], 1)
def few (l : List Opt) : Prop := l.length ≤ 200 ∧ ∀ x ∈ l, x.f1.length ≤ 1000
theorem enc_append (l m : List Opt) : enc (l ++ m) = enc l ++ enc m := by simp [enc]
theorem enc_one (x : Opt) : enc [x] = enc1 x := by simp [enc]
theorem enc1_len (x : Opt) : (enc1 x).length = x.f1.length + 2 := by simp [enc1]
theorem enc_len_le : ∀ (l : List Opt), (∀ x ∈ l, x.f1.length ≤ 1000) → (enc l).length ≤ l.length * 1002 := by
  intro l
  induction l with
  | nil => intro _; simp [enc]
  | cons x l ih =>
    intro h
    have h1 := ih (fun y hy => h y (by simp [hy]))
    have h2 := h x (by simp)
    have e : enc (x :: l) = enc1 x ++ enc l := by simp [enc]
    rw [e, List.length_append, enc1_len, List.length_cons]
    omega
theorem enc_take_le (l : List Opt) (i : Nat) : (enc (l.take i)).length ≤ (enc l).length := by
  have : enc l = enc (l.take i) ++ enc (l.drop i) := by rw [← enc_append, List.take_append_drop]
  rw [this, List.length_append]; omega

/-! ### option.Encode -/
theorem odd_eq (x : Opt) : option_Encode_1.f x.f0 x.f1 = some (!decide (okOpt x)) := by
  unfold option_Encode_1.f
  by_cases ok : okOpt x
  · rw [decide_eq_true ok]
    unfold okOpt at ok
    rw [if_neg (by omega), if_neg (by omega), decide_eq_false (by omega)]
    rfl
  · rw [decide_eq_false ok]
    unfold okOpt at ok
    split
    · rfl
    · split
      · rfl
      · rw [decide_eq_true (by omega)]
        rfl
theorem index_spec (l : List Opt) (hl : l.length ≤ 1000000) : ∀ (d i k : Nat), l.length ≤ i + d → i ≤ l.length → d < k →
    ∃ r : Int, slices_IndexFuncO.l0 k l (l.length : Int) (i : Int) = some r ∧ ((0 ≤ r ∧ ∃ x ∈ l.drop i, ¬ okOpt x) ∨ (r < 0 ∧ ∀ x ∈ l.drop i, okOpt x)) := by
  intro d
  induction d with
  | zero =>
    intro i k h1 h2 hk
    obtain ⟨k, rfl⟩ : ∃ m, k = m + 1 := ⟨k - 1, by omega⟩
    refine ⟨-1, ?_, .inr ⟨by omega, ?_⟩⟩
    · simp only [slices_IndexFuncO.l0]; rw [if_neg (by omega)]
    · rw [List.drop_of_length_le (by omega)]; simp
  | succ d ih =>
    intro i k h1 h2 hk
    obtain ⟨k, rfl⟩ : ∃ m, k = m + 1 := ⟨k - 1, by omega⟩
    by_cases h : i < l.length
    · simp only [slices_IndexFuncO.l0]
      rw [if_pos (by omega), if_pos (by omega), if_pos (by omega), rd_at l h, odd_eq]
      simp only [Option.bind_some]
      rw [List.drop_eq_getElem_cons h]
      by_cases ok : okOpt l[i]
      · rw [decide_eq_true ok, wrapO (by omega) (by omega)]
        obtain ⟨r, hr, hs⟩ := ih (i + 1) k (by omega) (by omega) (by omega)
        refine ⟨r, by simpa using (show slices_IndexFuncO.l0 k l (l.length : Int) ((i : Int) + 1) = some r from hr), ?_⟩
        rcases hs with ⟨a, x, hx, b⟩ | ⟨a, b⟩
        · exact .inl ⟨a, x, List.mem_cons_of_mem _ hx, b⟩
        · exact .inr ⟨a, fun x hx => by
            rcases List.mem_cons.1 hx with rfl | hx
            · exact ok
            · exact b x hx⟩
      · rw [decide_eq_false ok]
        exact ⟨i, by simp, .inl ⟨by omega, l[i], List.mem_cons_self, ok⟩⟩
    · refine ⟨-1, ?_, .inr ⟨by omega, ?_⟩⟩
      · simp only [slices_IndexFuncO.l0]; rw [if_neg (by omega)]
      · rw [List.drop_of_length_le (by omega)]; simp
theorem contains_eq (l : List Opt) (hl : l.length ≤ 1000000) (a : Int) (k : Nat) (hk : l.length < k) : slices_ContainsFuncO.f k l a = some (!decide (∀ x ∈ l, okOpt x)) := by
  obtain ⟨r, hr, hs⟩ := index_spec l hl l.length 0 k (by omega) (by omega) hk
  unfold slices_ContainsFuncO.f slices_IndexFuncO.f
  rw [show ((0 : Nat) : Int) = 0 from rfl] at hr
  rw [hr]
  simp only [Option.bind_some]
  rw [List.drop_zero] at hs
  rcases hs with ⟨h1, x, hx, h2⟩ | ⟨h1, h2⟩
  · rw [decide_eq_true (by omega), decide_eq_false (fun h => h2 (h x hx))]; rfl
  · rw [decide_eq_false (by omega), decide_eq_true h2]; rfl
theorem encode_loop (l : List Opt) (hf : few l) : ∀ (d i k : Nat), l.length ≤ i + d → i ≤ l.length → d < k →
    option_Encode.l0 k (enc (l.take i)) l (l.length : Int) (i : Int) = some (if 1024 ≤ (enc l).length then ([], 3) else (enc l ++ [255], 0)) := by
  obtain ⟨hn, hx⟩ := hf
  have hel := enc_len_le l hx
  have hel' : (enc l).length ≤ 200400 := by omega
  intro d
  induction d with
  | zero =>
    intro i k h1 h2 hk
    obtain ⟨k, rfl⟩ : ∃ m, k = m + 1 := ⟨k - 1, by omega⟩
    simp only [option_Encode.l0]
    rw [if_neg (by omega), List.take_of_length_le (by omega), if_pos (by omega)]
    simp only [Option.bind_some]
    by_cases c : 1024 ≤ (enc l).length
    · rw [if_pos (by simp; omega), if_pos c]
    · rw [if_neg (by simp; omega), if_neg c]
  | succ d ih =>
    intro i k h1 h2 hk
    obtain ⟨k, rfl⟩ : ∃ m, k = m + 1 := ⟨k - 1, by omega⟩
    by_cases h : i < l.length
    · simp only [option_Encode.l0]
      have ht := enc_take_le l i
      have ht1 := enc_take_le l (i + 1)
      have hx1 := hx l[i] (List.getElem_mem h)
      rw [if_pos (by omega), if_pos (by omega), if_pos (by omega), rd_at l h]
      simp only [Option.bind_some]
      rw [if_pos (by simp; omega), if_pos (by simp; omega), wrapO (by omega) (by omega)]
      have e : enc (l.take i) ++ [l[i].f0 % 256, (l[i].f1.length : Int) % 256] ++ l[i].f1 = enc (l.take (i + 1)) := by
        rw [List.take_succ_eq_append_getElem h, enc_append, enc_one, enc1, List.append_assoc]
      rw [e]
      exact ih (i + 1) k (by omega) (by omega) (by omega)
    · obtain rfl : i = l.length := by omega
      simp only [option_Encode.l0]
      rw [if_neg (by omega), List.take_of_length_le (by omega), if_pos (by omega)]
      simp only [Option.bind_some]
      by_cases c : 1024 ≤ (enc l).length
      · rw [if_pos (by simp; omega), if_pos c]
      · rw [if_neg (by simp; omega), if_neg c]
theorem encode_eq (l : List Opt) (hf : few l) (k : Nat) (hk : 201 ≤ k) : option_Encode.f k l = some (encR l) := by
  have hn := hf.1
  unfold option_Encode.f encR
  rw [contains_eq l (by omega) _ k (by omega)]
  simp only [Option.bind_some]
  by_cases ok : ∀ x ∈ l, okOpt x
  · rw [decide_eq_true ok, if_neg (by decide), if_pos ok]
    exact encode_loop l hf l.length 0 k (by omega) (by omega) (by omega)
  · rw [decide_eq_false ok, if_pos (by decide), if_neg ok]

end Go.Proofs.Ytnkajghemggaaaa.PO
end

section
namespace Go.Proofs.Ytnkajghemggaaaa.PP
open Go.RowKit Go.Proofs.Ytnkajghemggaaaa Go.Proofs.Ytnkajghemggaaaa.Pr Go.Proofs.Ytnkajghemggaaaa.PO Go.Proofs.YtnkajghemggaaaaW.PrintWords Go.Proofs.YtnkajghemggaaaaW.PrintLast Go.Proofs.YtnkajghemggaaaaW.PrintMore
set_option linter.unusedVariables false
set_option linter.unusedSimpArgs false

theorem wrapP {x : Int} (h0 : 0 ≤ x) (h1 : x < 9223372036854775808) : wrap64 x = x := by unfold wrap64; omega
def okPk (a0 a2 a3 : Int) (l8 : List Int) (l9 : List Opt) : Prop := (a0 = 1 ∨ a0 = 2) ∧ (1 ≤ l8.length ∧ l8.length ≤ 16) ∧ (0 ≤ a2 ∧ a2 ≤ 65535) ∧ (0 ≤ a3 ∧ a3 ≤ 65535) ∧ (encR l9).2 = 0
instance (a0 a2 a3 : Int) (l8 : List Int) (l9 : List Opt) : Decidable (okPk a0 a2 a3 l8 l9) := by unfold okPk; infer_instance
theorem right_eq (a0 a1 a2 a3 a4 a5 a6 a7 : Int) (l8 : List Int) (l9 : List Opt) (hf : few l9) (k : Nat) (hk : 210 ≤ k) : packet_Right.f k a0 a1 a2 a3 a4 a5 a6 a7 l8 l9 = some (decide (okPk a0 a2 a3 l8 l9)) := by
  obtain ⟨k, rfl⟩ : ∃ m, k = m + 1 := ⟨k - 1, by omega⟩
  unfold packet_Right.f
  rw [encode_eq l9 hf _ (by omega)]
  simp only [Option.bind_some, packet_Right.j0]
  by_cases c0 : a0 = 1 ∨ a0 = 2
  · have e : (if a0 = 1 then false else (a0 != 2)) = false := by
      rcases c0 with rfl | rfl <;> decide
    have e2 : ∀ (f : Bool → Option Bool), (if a0 = 1 then f false else f (a0 != 2)) = f false := by
      intro f
      rcases c0 with rfl | rfl
      · rfl
      · rfl
    rw [e2 (fun b => if b = true then some false else (if (l8.length : Int) < 1 then (some false) else (if (l8.length : Int) > 16 then (some false) else (if a2 ≥ 0 then (if a2 ≤ 65535 then (if a3 ≥ 0 then (if a3 ≤ 65535 then (some ((encR l9).2 == 0)) else (some false)) else (some false)) else (some false)) else (some false)))))]
    simp only [Bool.false_eq_true, if_false]
    by_cases c : (1 ≤ l8.length ∧ l8.length ≤ 16) ∧ (0 ≤ a2 ∧ a2 ≤ 65535) ∧ (0 ≤ a3 ∧ a3 ≤ 65535)
    · obtain ⟨⟨x1, x2⟩, ⟨x3, x4⟩, x5, x6⟩ := c
      rw [if_neg (by omega), if_neg (by omega), if_pos x3, if_pos x4, if_pos x5, if_pos x6]
      congr 1
      rw [Bool.eq_iff_iff, beq_iff_eq, decide_eq_true_iff]
      unfold okPk
      exact ⟨fun h => ⟨c0, ⟨x1, x2⟩, ⟨x3, x4⟩, ⟨x5, x6⟩, h⟩, fun h => h.2.2.2.2⟩
    · rw [decide_eq_false (fun h => c ⟨h.2.1, h.2.2.1, h.2.2.2.1⟩)]
      repeat' split
      all_goals first | rfl | (exfalso; omega)
  · have n1 : ¬ a0 = 1 := fun h => c0 (.inl h)
    have n2 : ¬ a0 = 2 := fun h => c0 (.inr h)
    rw [if_neg n1, show (a0 != 2) = true from bne_iff_ne.2 n2, decide_eq_false (fun h => c0 h.1)]
    rfl
end Go.Proofs.Ytnkajghemggaaaa.PP
end

section
namespace Go.Proofs.Ytnkajghemggaaaa
open Go.RowKit Go.Proofs.Ytnkajghemggaaaa.Pr Go.Proofs.YtnkajghemggaaaaW.PrintWords Go.Proofs.YtnkajghemggaaaaW.PrintLast Go.Proofs.YtnkajghemggaaaaW.PrintMore
set_option linter.unusedVariables false
set_option linter.unusedSimpArgs false

/-! ### what a put makes -/
theorem opPut_nil (code : Int) (data : List Int) : opPut [] code data = [⟨code, data⟩] := by simp [opPut, ixOf]
theorem opPut_cons (y : OptF) (l : List OptF) (code : Int) (data : List Int) : opPut (y :: l) code data = if y.f0 = code then ⟨code, data⟩ :: l.filter (fun x => !(x.f0 == code)) else y :: opPut l code data := by
  by_cases h : y.f0 = code
  · have e : ixOf (fun x : OptF => x.f0 == code) (y :: l) = 0 := by
      unfold ixOf
      rw [List.findIdx_cons]
      simp [h]
    rw [if_pos h]
    unfold opPut
    rw [e, if_pos (by decide)]
    simp
  · rw [if_neg h]
    have hb : (y.f0 == code) = false := beq_eq_false_iff_ne.2 h
    unfold opPut ixOf
    rw [List.findIdx_cons]
    simp only [hb, cond_false, List.length_cons]
    by_cases hlt : l.findIdx (fun x => x.f0 == code) < l.length
    · rw [if_pos (by omega), if_pos hlt, if_pos (by omega), if_pos (by omega)]
      rw [show ((l.findIdx (fun x => x.f0 == code) + 1 : Nat) : Int).toNat = l.findIdx (fun x => x.f0 == code) + 1 from by omega, Int.toNat_natCast]
      simp
    · rw [if_neg (by omega), if_neg hlt, if_neg (by decide)]
      simp
def notA (a : Int) (l : List OptF) : List OptF := l.filter (fun x => !(x.f0 == a))
def howA (a : Int) (l : List OptF) : Nat := (l.filter (fun x => x.f0 == a)).length
theorem put_others (a : Int) (data : List Int) : ∀ l : List OptF, notA a (opPut l a data) = notA a l
  | [] => by simp [notA, opPut_nil]
  | y :: l => by
    rw [opPut_cons]
    have ih := put_others a data l
    unfold notA at ih ⊢
    by_cases h : y.f0 = a
    · rw [if_pos h]; simp [h]
    · rw [if_neg h]; simp [h, ih]
theorem put_once (a : Int) (data : List Int) : ∀ l : List OptF, howA a (opPut l a data) = 1
  | [] => by simp [howA, opPut_nil]
  | y :: l => by
    rw [opPut_cons]
    have ih := put_once a data l
    unfold howA at ih ⊢
    by_cases h : y.f0 = a
    · rw [if_pos h]
      simp [List.filter_filter]
    · rw [if_neg h]; simp [h, ih]
theorem put_found (a : Int) (data : List Int) : ∀ l : List OptF, opFind (opPut l a data) a = (data, true)
  | [] => by simp [opFind, opPut_nil]
  | y :: l => by
    rw [opPut_cons]
    have ih := put_found a data l
    unfold opFind at ih ⊢
    by_cases h : y.f0 = a
    · rw [if_pos h]; simp
    · rw [if_neg h, List.find?_cons, show (y.f0 == a) = false from beq_eq_false_iff_ne.2 h]; exact ih
theorem find_filter (a b : Int) (h : b ≠ a) : ∀ l : List OptF, (l.filter (fun x => !(x.f0 == a))).find? (fun x => x.f0 == b) = l.find? (fun x => x.f0 == b)
  | [] => rfl
  | y :: l => by
    have ih := find_filter a b h l
    by_cases h1 : y.f0 = a
    · have e1 : (y.f0 == a) = true := beq_iff_eq.2 h1
      have e2 : (y.f0 == b) = false := beq_eq_false_iff_ne.2 (by rw [h1]; exact Ne.symm h)
      simp [e1, e2, ih]
    · have e1 : (y.f0 == a) = false := beq_eq_false_iff_ne.2 h1
      rw [List.filter_cons_of_pos (by simp [h1]), List.find?_cons, List.find?_cons, ih]
theorem put_other (a b : Int) (h : b ≠ a) (data : List Int) : ∀ l : List OptF, opFind (opPut l a data) b = opFind l b := by
  have key : ∀ l : List OptF, (opPut l a data).find? (fun x => x.f0 == b) = l.find? (fun x => x.f0 == b) := by
    intro l
    have hb : (a == b) = false := beq_eq_false_iff_ne.2 (Ne.symm h)
    induction l with
    | nil => rw [opPut_nil, List.find?_cons]; simp [hb]
    | cons y l ih =>
      rw [opPut_cons]
      by_cases h1 : y.f0 = a
      · rw [if_pos h1, List.find?_cons, List.find?_cons, find_filter a b h]
        simp [h1, hb]
      · rw [if_neg h1, List.find?_cons, List.find?_cons, ih]
  intro l
  unfold opFind
  rw [key]
theorem put_bytes {l : List OptF} {code : Int} {data : List Int} (hl : ∀ x ∈ l, x.f1.length ≤ 1000) (hd : data.length ≤ 1000) : ∀ x ∈ opPut l code data, x.f1.length ≤ 1000 := by
  intro x hx
  unfold opPut at hx
  split at hx
  · rcases List.mem_append.1 hx with hx | hx
    · rcases List.mem_append.1 hx with hx | hx
      · exact hl x (List.mem_of_mem_take hx)
      · rw [List.mem_singleton.1 hx]; exact hd
    · exact hl x (List.mem_of_mem_drop (List.mem_filter.1 hx).1)
  · rcases List.mem_append.1 hx with hx | hx
    · exact hl x hx
    · rw [List.mem_singleton.1 hx]; exact hd

end Go.Proofs.Ytnkajghemggaaaa
end

section
namespace Go.Proofs.Ytnkajghemggaaaa
open Go.RowKit Go.Proofs.Ytnkajghemggaaaa.Pr Go.Proofs.YtnkajghemggaaaaW.PrintWords Go.Proofs.YtnkajghemggaaaaW.PrintLast Go.Proofs.YtnkajghemggaaaaW.PrintMore
set_option linter.unusedVariables false
set_option linter.unusedSimpArgs false

/-- A packet, as it is told. -/
abbrev PkT := Int × Int × Int × Int × Int × Int × Int × Int × List Int × List OptF × Int
abbrev pkNo (e : Int) : PkT := (0, 0, 0, 0, 0, 0, 0, 0, [], [], e)
def fewP (l8 : List Int) (l9 : List OptF) : Prop := l8.length < 1000 ∧ l9.length ≤ 199 ∧ ∀ x ∈ l9, x.f1.length ≤ 1000
instance (l8 : List Int) (l9 : List OptF) : Decidable (fewP l8 l9) := by unfold fewP; infer_instance
instance (l : List OptF) : Decidable (PL.few l) := by unfold PL.few; infer_instance
theorem fewP_po {l8 : List Int} {l9 : List OptF} (h : fewP l8 l9) : PO.few l9 := ⟨by have := h.2.1; omega, h.2.2⟩
theorem encT_len (l : List OptF) : (PL.encR l).1.length ≤ 255 := by
  unfold PL.encR
  split
  · split
    · simp
    · simp only; omega
  · simp
theorem opPut_len (l : List OptF) (code : Int) (d : List Int) : (opPut l code d).length ≤ l.length + 1 := by
  induction l with
  | nil => rw [opPut_nil]; simp
  | cons y l ih =>
    rw [opPut_cons]
    split
    · have := List.length_filter_le (fun x : OptF => !(x.f0 == code)) l
      simp only [List.length_cons]; omega
    · simp only [List.length_cons]; omega
def addR (a0 a1 a2 a3 a4 a5 a6 a7 : Int) (l8 : List Int) (l9 : List OptF) (by_ : Int) (l : List OptF) : PkT :=
  if PP.okPk a0 a2 a3 l8 l9 ∧ a0 = 1 ∧ by_ ≠ 0 then
    if (opFind l9 82).2 = true then pkNo 5 else
    if (PL.encR l).2 = 0 then
      if PP.okPk a0 a2 a3 l8 (opPut l9 82 (PL.encR l).1) then (a0, a1, a2, a3, a4, a5, a6, if a7 = 0 then by_ else a7, l8, opPut l9 82 (PL.encR l).1, 0) else pkNo 3
    else pkNo (PL.encR l).2
  else pkNo 1
def relay_Add.f (a0 a1 a2 a3 a4 a5 a6 a7 : Int) (l8 : List Int) (l9 : List OptF) (by_ : Int) (l : List OptF) : Option PkT := if fewP l8 l9 ∧ PL.few l then some (addR a0 a1 a2 a3 a4 a5 a6 a7 l8 l9 by_ l) else none
/-- packet.Right, as Add asks it. -/
theorem rightC (a0 a1 a2 a3 a4 a5 a6 a7 : Int) (A8 : Option Addr) (c8 : Nat) (l8 : List Int) (A9 : Option Addr) (c9 : Nat) (l9 : List OptF) (w : World) (h8 : (Kd.int .u8).C w A8 l8.length l8) (hc8 : l8.length ≤ c8) (h9 : Kd.C k48 w A9 l9.length l9) (hc9 : l9.length ≤ c9) (hf : PO.few l9) (rt : Bool) (hrt : rt = decide (PP.okPk a0 a2 a3 l8 l9)) :
    Calls Try.prog 28 #[pkV a0 a1 a2 a3 a4 a5 a6 a7 (.slice A8 l8.length c8) (.slice A9 l9.length c9)] w fun e w' => e = .returned (.bool rt) ∧ Below w.heap.size w w' :=
  packet_Right.calls 210 a0 a1 a2 a3 a4 a5 a6 a7 A8 c8 l8 A9 c9 l9 rt w h8 hc8 h9 hc9 (by rw [PP.right_eq _ _ _ _ _ _ _ _ _ _ hf 210 (Nat.le_refl _), hrt])
theorem relay_Add.calls (a0_0 a0_1 a0_2 a0_3 a0_4 a0_5 a0_6 a0_7 : Int) (A0_8 : Option Addr) (c0_8 : Nat) (l0_8 : List Int) (P0_9_ : Nat → Prop) (A0_9 : Option Addr) (c0_9 : Nat) (l0_9 : List OptF) (a1 : Int) (A2 : Option Addr) (cc2 : Nat) (l2 : List OptF) (r1 r2 r3 r4 r5 r6 r7 r8 : Int) (r9 : List Int) (r10 : List OptF) (r11 : Int) (w : World)
    (hr0_8 : (Kd.int .u8).C w A0_8 l0_8.length l0_8) (hc0_8 : l0_8.length ≤ c0_8) (hs0_9 : Kd.V k48 48 w w.heap.size (fun k_ => P0_9_ k_) (.slice A0_9 l0_9.length c0_9) l0_9) (hr2 : Kd.C k48 w A2 l2.length l2) (hc2 : l2.length ≤ cc2)
    (h : relay_Add.f a0_0 a0_1 a0_2 a0_3 a0_4 a0_5 a0_6 a0_7 l0_8 l0_9 a1 l2 = some (r1, r2, r3, r4, r5, r6, r7, r8, r9, r10, r11)) :
    Calls Try.prog 18 #[.agg #[.int .i64 a0_0, .int .u32 a0_1, .int .i64 a0_2, .int .i64 a0_3, .int .u32 a0_4, .int .u32 a0_5, .int .u32 a0_6, .int .u32 a0_7, .slice A0_8 l0_8.length c0_8, .slice A0_9 l0_9.length c0_9], .int .u32 a1, .slice A2 l2.length cc2] w fun e w' =>
      ∃ v8_ v9_ : Value, e = .returned (.tuple #[.agg #[.int .i64 r1, .int .u32 r2, .int .i64 r3, .int .i64 r4, .int .u32 r5, .int .u32 r6, .int .u32 r7, .int .u32 r8, v8_, v9_], .int .i64 r11]) ∧ Kd.R (Kd.int .u8) 5 w' w.heap.size (fun _ => True) v8_ r9 ∧
        Kd.N k48 48 w' w.heap.size (fun k_ => (P0_9_ k_ ∨ w.heap.size ≤ k_) ∧ some k_ ≠ v8_.ownBlock) v9_ r10 ∧ Below w.heap.size w w' := by
  unfold relay_Add.f at h
  split at h
  case isFalse => cases h
  rename_i hcond
  obtain ⟨hfp, hfl⟩ := hcond
  have h := Option.some.inj h
  obtain ⟨_, hc9, hC9⟩ := Kd.V_reads' hs0_9
  have hl9 : ∀ x ∈ l0_9, x.f1.length < 140737488355328 := fun x hx => by have := hfp.2.2 x hx; omega
  have bad : ∀ (z : Int) {e : Ending} {w' : World}, e = .returned (.tuple #[.agg pkNil, .int .i64 z]) ∧ Below w.heap.size w w' → pkNo z = (r1, r2, r3, r4, r5, r6, r7, r8, r9, r10, r11) →
      ∃ v8_ v9_ : Value, e = .returned (.tuple #[.agg #[.int .i64 r1, .int .u32 r2, .int .i64 r3, .int .i64 r4, .int .u32 r5, .int .u32 r6, .int .u32 r7, .int .u32 r8, v8_, v9_], .int .i64 r11]) ∧ Kd.R (Kd.int .u8) 5 w' w.heap.size (fun _ => True) v8_ r9 ∧
        Kd.N k48 48 w' w.heap.size (fun k_ => (P0_9_ k_ ∨ w.heap.size ≤ k_) ∧ some k_ ≠ v8_.ownBlock) v9_ r10 ∧ Below w.heap.size w w' := by
    rintro z e w' ⟨he, hb⟩ hz
    simp only [pkNo, Prod.mk.injEq] at hz
    obtain ⟨rfl, rfl, rfl, rfl, rfl, rfl, rfl, rfl, rfl, rfl, rfl⟩ := hz
    exact ⟨_, _, he, Kd.R_nil _ _ _ _ _, Kd.N_nil _ _ _ _ _, hb⟩
  have hR : ∀ (rt : Bool), rt = decide (PP.okPk a0_0 a0_2 a0_3 l0_8 l0_9) → ∀ W, Below w.heap.size w W → Calls Try.prog 28 #[pkV a0_0 a0_1 a0_2 a0_3 a0_4 a0_5 a0_6 a0_7 (.slice A0_8 l0_8.length c0_8) (.slice A0_9 l0_9.length c0_9)] W fun e w' => e = .returned (.bool rt) ∧ Below W.heap.size W w' :=
    fun rt hrt W hW => rightC _ _ _ _ _ _ _ _ _ _ _ _ _ _ W (Kd.C_below hr0_8 hW) hc0_8 (Kd.C_below hC9 hW) hc9 (fewP_po hfp) rt hrt
  unfold addR at h
  by_cases c1 : PP.okPk a0_0 a0_2 a0_3 l0_8 l0_9 ∧ a0_0 = 1 ∧ a1 ≠ 0
  case neg =>
    rw [if_neg c1] at h
    refine (add_arg a0_0 a0_1 a0_2 a0_3 a0_4 a0_5 a0_6 a0_7 A0_8 _ c0_8 A0_9 _ c0_9 a1 A2 _ cc2 _ w (hR _ rfl) (fun hn => c1 ⟨of_decide_eq_true hn.1, hn.2⟩)).mono ?_
    exact fun e w' he => bad 1 he h
  rw [if_pos c1] at h
  have hRt := hR true (decide_eq_true c1.1).symm
  by_cases c2 : (opFind l0_9 82).2 = true
  · rw [if_pos c2] at h
    refine (add_there a0_0 a0_1 a0_2 a0_3 a0_4 a0_5 a0_6 a0_7 A0_8 _ c0_8 A0_9 c0_9 l0_9 a1 A2 _ cc2 w hRt c1.2.1 c1.2.2 hC9 hc9 hl9 c2).mono ?_
    exact fun e w' he => bad 5 he h
  rw [if_neg c2] at h
  have c2' : (opFind l0_9 82).2 = false := by simpa using c2
  have hE : ∀ (z : Int), (PL.encR l2).2 = z → ∀ W, Below w.heap.size w W → Calls Try.prog 13 #[.slice A2 l2.length cc2] W fun e w' => ∃ v, e = .returned (.tuple #[v, .int .i64 z]) ∧ (Kd.int .u8).R 5 w' W.heap.size (fun _ => True) v (PL.encR l2).1 ∧ Below W.heap.size W w' :=
    fun z hz W hW => relay_Encode.calls 1002 A2 _ l2 (PL.encR l2).1 z W (Kd.C_below hr2 hW) hc2 (by rw [PL.encode_eq l2 ⟨by have := hfl.1; omega, hfl.2⟩ 1002 (Nat.le_refl _), ← hz])
  by_cases c3 : (PL.encR l2).2 = 0
  case neg =>
    rw [if_neg c3] at h
    refine (add_bad a0_0 a0_1 a0_2 a0_3 a0_4 a0_5 a0_6 a0_7 A0_8 _ c0_8 A0_9 c0_9 l0_9 a1 A2 _ _ (PL.encR l2).1 (PL.encR l2).2 w hRt c1.2.1 c1.2.2 hC9 hc9 hl9 c2' (hE _ rfl) c3).mono ?_
    exact fun e w' he => bad _ he h
  rw [if_pos c3] at h
  have hlen := opPut_len l0_9 82 (PL.encR l2).1
  have hel := encT_len l2
  have hpo : PO.few (opPut l0_9 82 (PL.encR l2).1) := ⟨by have := hfp.2.1; omega, put_bytes hfp.2.2 (by omega)⟩
  refine (add_main P0_9_ a0_0 a0_1 a0_2 a0_3 a0_4 a0_5 a0_6 a0_7 A0_8 c0_8 l0_8 A0_9 c0_9 l0_9 a1 A2 _ _ (PL.encR l2).1 (decide (PP.okPk a0_0 a0_2 a0_3 l0_8 (opPut l0_9 82 (PL.encR l2).1))) w hRt c1.2.1 c1.2.2 (Kd.V_F hs0_9) hc9 hl9 c2' (hE 0 c3) hr0_8 hc0_8 (by have := hfp.1; omega) (by have := hfp.2.1; omega) (by omega) ?_).mono ?_
  · exact fun W A8' c8' A9' c9' hW h8 hc8 h9 hc9' => rightC _ _ _ _ _ _ _ _ _ _ _ _ _ _ W h8 hc8 h9 hc9' hpo _ rfl
  intro e w' he
  by_cases c4 : PP.okPk a0_0 a0_2 a0_3 l0_8 (opPut l0_9 82 (PL.encR l2).1)
  · rw [if_pos c4] at h
    rw [if_pos (decide_eq_true c4)] at he
    simp only [Prod.mk.injEq] at h
    obtain ⟨rfl, rfl, rfl, rfl, rfl, rfl, rfl, rfl, rfl, rfl, rfl⟩ := h
    obtain ⟨A8', c8', A9', c9', rfl, h1, h2, h3⟩ := he
    exact ⟨_, _, rfl, h1, h2, h3⟩
  · rw [if_neg c4] at h
    rw [if_neg (by simpa using c4)] at he
    exact bad 3 he h
end Go.Proofs.Ytnkajghemggaaaa
end

section
-- written by a program of this session (wip/tools/gen.py) over the kit's print
namespace Go.Proofs.Ytnkajghemggaaaa.Pr
open Go.RowKit Go.Proofs.YtnkajghemggaaaaW.PrintWords Go.Proofs.YtnkajghemggaaaaW.PrintLast Go.Proofs.YtnkajghemggaaaaW.PrintMore
attribute [local go_sem] max2_int min2_int max_two min_two max_three min_three max_four min_four   -- for this text's walks alone
set_option linter.unusedVariables false
set_option linter.unusedSimpArgs false

/-! ### lessorref02_Find: function 33 -/
def lessorref02_Find.l0 : Nat → List (S48) → Int → Int → Option (List Int × Bool)
 | 0, _, _, _ => none
 | k + 1, x0, x1, x6 => if x6 < (x0.length : Int) then (if 0 ≤ x6 then (if ((rd_T48 x0 x6).f0) = x1 then (some ((rd_T48 x0 x6).f1, true)) else (lessorref02_Find.l0 k x0 x1 (wrap64 (x6 + 1)))) else (none)) else (some (([] : List Int), false))
def lessorref02_Find.f (k : Nat) (l0 : List (S48)) (a1 : Int) : Option (List Int × Bool) := lessorref02_Find.l0 k l0 a1 0
theorem lessorref02_Find.mono_l : ∀ k, (∀ y0 y1 y2, LeO (lessorref02_Find.l0 k y0 y1 y2) (lessorref02_Find.l0 (k + 1) y0 y1 y2))
 | 0 => fun _ _ _ r h => by simp [lessorref02_Find.l0] at h
 | k + 1 => by
  have ih0 := lessorref02_Find.mono_l k
  ·intro y0 y1 y2
   unfold lessorref02_Find.l0
   repeat' first
   | (with_reducible exact ih0 _ _ _)
   | (with_reducible exact LeO.refl _)
   | (with_reducible exact LeO.none _)
   | (with_reducible refine LeO.ite ?_ ?_)
   | (with_reducible refine LeO.bind ?_ (fun _ => ?_))
   | exact ih0 _ _ _
   | exact LeO.none _
   | refine LeO.ite ?_ ?_
   | refine LeO.bind ?_ (fun _ => ?_)
theorem lessorref02_Find.mono : ∀ a0 a1 k, LeO (lessorref02_Find.f k a0 a1) (lessorref02_Find.f (k + 1) a0 a1) := by
 intro a0 a1 k
 have ih0 := lessorref02_Find.mono_l k
 unfold lessorref02_Find.f
 repeat' first
   | (with_reducible exact ih0 _ _ _)
   | (with_reducible exact LeO.refl _)
   | (with_reducible exact LeO.none _)
   | (with_reducible refine LeO.ite ?_ ?_)
   | (with_reducible refine LeO.bind ?_ (fun _ => ?_))
   | exact ih0 _ _ _
   | exact LeO.none _
   | refine LeO.ite ?_ ?_
   | refine LeO.bind ?_ (fun _ => ?_)
set_option maxHeartbeats 8000000 in
set_option maxRecDepth 100000 in
theorem lessorref02_Find.calls (k : Nat) (P0_ : Nat → Prop) (A0 : Option Addr) (c0 : Nat) (l0 : List (S48)) (a1 : Int) (r1 : List Int) (r2 : Bool) (w : World) (hs0 : Kd.V k48 48 w w.heap.size (fun k_ => P0_ k_) (.slice A0 l0.length c0) l0) (h : lessorref02_Find.f k l0 a1 = some (r1, r2)) :
  Calls Try.prog 33 #[.slice A0 l0.length c0, .int .i64 a1] w fun e w' => ∃ v0_ : Value, e = .returned (.tuple #[v0_, .bool r2]) ∧ Kd.V (Kd.int .u8) 5 w' w.heap.size (fun k_ => (P0_ k_ ∨ w.heap.size ≤ k_)) v0_ r1 ∧ Below w.heap.size w w' := by
 have HO0 := Aside0.mk (show Kd.V k48 48 w w.heap.size (fun k_ => (P0_ k_ ∨ w.heap.size ≤ k_)) (.slice A0 l0.length c0) l0 from Kd.V_mono hs0 (fun k_ hk => .inl hk))
 have HB := Aside0.mk (Below.refl w.heap.size w)
 have H : (lessorref02_Find.l0 k l0 a1 0) = some (r1, r2) := h
 clear h
 have H' := Aside0.mk H
 clear H
 go_enter Try.func33, Try.ntmps33
 go_wp2
 go_loopg [6] k (fun kq v6 w' => ∃ (x6_1 : Int), v6 = .int .i64 x6_1 ∧ Aside0 (lessorref02_Find.l0 kq l0 a1 x6_1 = some (r1, r2)) ∧ Aside0 (kq ≤ k) ∧ Aside0 (Kd.V k48 48 w' w.heap.size (fun k_ => (P0_ k_ ∨ w.heap.size ≤ k_)) (.slice A0 l0.length c0) l0) ∧ Aside0 (Below w.heap.size w w'))
 case atStart => exact ⟨(0), (by first | rfl | (simp; done) | (simp [*]; done)), H', ⟨Nat.le_refl _⟩, ⟨by (with_reducible repeat (first | apply Kd.V_alloc | apply Kd.V_drewN | apply Kd.V_drew)); exact HO0.out⟩, ⟨by repeat (first | (with_reducible first | exact HB.out | apply below_alloc | apply pw_below_drewN | apply below_drew1) | exact HB.out)⟩⟩
 case round =>
  clear H'
  try clear p2
  obtain ⟨x6_1, rfl, HA, HK1, HO_0, HB⟩ := hrel
  cases gk with
  | zero => exact absurd HA.out (by simp [lessorref02_Find.l0])
  | succ k1 =>
   have H := HA.out
   clear HA
   simp only [lessorref02_Find.l0] at H
   by_cases c3 : x6_1 < (l0.length : Int)
   ·rw [if_pos c3] at H
    have c3b0 : decide (x6_1 < (l0.length : Int)) = true := decide_eq_true c3
    clear c3
    by_cases c4 : 0 ≤ x6_1
    ·rw [if_pos c4] at H
     have c4b0 : decide (0 ≤ x6_1) = true := decide_eq_true c4
     clear c4
     by_cases c5 : ((rd_T48 l0 x6_1).f0) = a1
     ·rw [if_pos c5] at H
      have c5b0 : (((rd_T48 l0 x6_1).f0) == a1) = true := beq_iff_eq.mpr c5
      have c5b1 : (((rd_T48 l0 x6_1).f0) != a1) = false := bne_eq_false_iff_eq.mpr c5
      clear c5
      simp only [Option.some.injEq, Prod.mk.injEq] at H
      obtain ⟨rfl, rfl⟩ := H
      have p277 : 0 ≤ (x6_1 : Int) := of_decide_eq_true (by first | (with_reducible assumption) | assumption)
      have q277 : x6_1 < (l0.length : Int) := of_decide_eq_true (by first | (with_reducible assumption) | assumption)
      obtain ⟨ad277, A277_1, c277_1, e277, hx277_0, hx277_1, hl277_1, hi277_1⟩ := at_T48 (Kd.V_reads' HO_0.out).2.2 x6_1 p277 q277
      cases e277
      obtain ⟨ce277, hce277, hMe277, hcc277⟩ := Kd.V_get HO_0.out z48 x6_1 p277 (by first | exact q277 | exact of_decide_eq_true (by first | (with_reducible assumption) | assumption) | (have e_ := (Kd.V_reads' HO_0.out).1; omega))
      obtain ⟨ua277_1, uc277_1, rfl, ul277_1, ge277_1⟩ := k48_openF hMe277
      have hv277_1 := hcc277 1 _ rfl
      rw [add_field _ _ 1 (by omega)] at hv277_1
      replace hv277_1 := Option.some.inj (hv277_1.symm.trans hx277_1)
      injection hv277_1 with hva_ hvn_ hvc_
      rw [hva_] at ge277_1
      rw [hvc_] at ul277_1
      have HL277_1 := Aside0.mk (show Kd.V (Kd.int .u8) 5 _ w.heap.size _ _ ((rd_T48 l0 x6_1).f1) from Kd.V_mk ul277_1 ge277_1)
      clear hva_ hvn_ hvc_ ge277_1 ul277_1
      clear hcc277 hce277
      have HR277_1 := Aside0.mk hi277_1
      have HC277_1 := Aside0.mk hl277_1
      clear hi277_1 hl277_1
      replace p277 := eq_true p277
      replace q277 := eq_true q277
      have p278 : 0 ≤ (x6_1 : Int) := of_decide_eq_true (by first | (with_reducible assumption) | assumption)
      have q278 : x6_1 < (l0.length : Int) := of_decide_eq_true (by first | (with_reducible assumption) | assumption)
      obtain ⟨ad278, A278_1, c278_1, e278, hx278_0, hx278_1, hl278_1, hi278_1⟩ := at_T48 (Kd.V_reads' HO_0.out).2.2 x6_1 p278 q278
      obtain rfl : ad277 = ad278 := (by injection e278)
      obtain ⟨ce278, hce278, hMe278, hcc278⟩ := Kd.V_get HO_0.out z48 x6_1 p278 (by first | exact q278 | exact of_decide_eq_true (by first | (with_reducible assumption) | assumption) | (have e_ := (Kd.V_reads' HO_0.out).1; omega))
      obtain ⟨ua278_1, uc278_1, rfl, ul278_1, ge278_1⟩ := k48_openF hMe278
      have hv278_1 := hcc278 1 _ rfl
      rw [add_field _ _ 1 (by omega)] at hv278_1
      replace hv278_1 := Option.some.inj (hv278_1.symm.trans hx278_1)
      injection hv278_1 with hva_ hvn_ hvc_
      rw [hva_] at ge278_1
      rw [hvc_] at ul278_1
      have HL278_1 := Aside0.mk (show Kd.V (Kd.int .u8) 5 _ w.heap.size _ _ ((rd_T48 l0 x6_1).f1) from Kd.V_mk ul278_1 ge278_1)
      clear hva_ hvn_ hvc_ ge278_1 ul278_1
      clear hcc278 hce278
      have HR278_1 := Aside0.mk hi278_1
      have HC278_1 := Aside0.mk hl278_1
      clear hi278_1 hl278_1
      replace p278 := eq_true p278
      replace q278 := eq_true q278
      have ea_ := Option.some.inj (hx277_1.symm.trans hx278_1)
      injection ea_ with ea_ en_ ec_
      subst ea_
      subst ec_
      clear en_
      go_wp2
      go_ret2
      exact ⟨_, by first | rfl | (simp [errW_none, errW_some] <;> rfl) | (simp [*, errW_none, errW_some] <;> rfl), by (with_reducible repeat (first | apply Kd.V_alloc | apply Kd.V_drewN | apply Kd.V_drew)); exact HL278_1.out, by repeat (first | (with_reducible first | exact HB.out | apply below_alloc | apply pw_below_drewN | apply below_drew1) | exact HB.out)⟩
     ·rw [if_neg c5] at H
      have c5b0 : (((rd_T48 l0 x6_1).f0) == a1) = false := beq_eq_false_iff_ne.mpr c5
      have c5b1 : (((rd_T48 l0 x6_1).f0) != a1) = true := bne_iff_ne.mpr c5
      have H' := Aside0.mk H
      clear H
      have p277 : 0 ≤ (x6_1 : Int) := of_decide_eq_true (by first | (with_reducible assumption) | assumption)
      have q277 : x6_1 < (l0.length : Int) := of_decide_eq_true (by first | (with_reducible assumption) | assumption)
      obtain ⟨ad277, A277_1, c277_1, e277, hx277_0, hx277_1, hl277_1, hi277_1⟩ := at_T48 (Kd.V_reads' HO_0.out).2.2 x6_1 p277 q277
      cases e277
      obtain ⟨ce277, hce277, hMe277, hcc277⟩ := Kd.V_get HO_0.out z48 x6_1 p277 (by first | exact q277 | exact of_decide_eq_true (by first | (with_reducible assumption) | assumption) | (have e_ := (Kd.V_reads' HO_0.out).1; omega))
      obtain ⟨ua277_1, uc277_1, rfl, ul277_1, ge277_1⟩ := k48_openF hMe277
      have hv277_1 := hcc277 1 _ rfl
      rw [add_field _ _ 1 (by omega)] at hv277_1
      replace hv277_1 := Option.some.inj (hv277_1.symm.trans hx277_1)
      injection hv277_1 with hva_ hvn_ hvc_
      rw [hva_] at ge277_1
      rw [hvc_] at ul277_1
      have HL277_1 := Aside0.mk (show Kd.V (Kd.int .u8) 5 _ w.heap.size _ _ ((rd_T48 l0 x6_1).f1) from Kd.V_mk ul277_1 ge277_1)
      clear hva_ hvn_ hvc_ ge277_1 ul277_1
      clear hcc277 hce277
      have HR277_1 := Aside0.mk hi277_1
      have HC277_1 := Aside0.mk hl277_1
      clear hi277_1 hl277_1
      replace p277 := eq_true p277
      replace q277 := eq_true q277
      go_wp2
      go_roundg k1
      case measure => have := HK1.out; omega
      case rel => exact ⟨(wrap64 (x6_1 + 1)), (by first | rfl | (simp; done) | (simp [*]; done)), H', ⟨by have := HK1.out; omega⟩, ⟨by (with_reducible repeat (first | apply Kd.V_alloc | apply Kd.V_drewN | apply Kd.V_drew)); exact HO_0.out⟩, ⟨by repeat (first | (with_reducible first | exact HB.out | apply below_alloc | apply pw_below_drewN | apply below_drew1) | exact HB.out)⟩⟩
    ·rw [if_neg c4] at H
     exact absurd H (by simp)
   ·rw [if_neg c3] at H
    have c3b0 : decide (x6_1 < (l0.length : Int)) = false := decide_eq_false c3
    clear c3
    simp only [Option.some.injEq, Prod.mk.injEq] at H
    obtain ⟨rfl, rfl⟩ := H
    go_wp2
    go_ret2
    exact ⟨_, by first | rfl | (simp [errW_none, errW_some] <;> rfl) | (simp [*, errW_none, errW_some] <;> rfl), (by first | exact Kd.V_nil _ _ _ _ _ | exact Kd.V_mono (Kd.R_V (by first | exact Kd.R_nil _ _ _ _ _ | exact Kd.N_nil _ _ _ _ _ | exact Kd.V_nil _ _ _ _ _ | exact Kd.Q_nil _ _ _ _ _ | exact Kd.S_nil _ _ _ _ _)) (fun k_ hk => by first | exact ⟨(.inr (hk.1)), hk.2⟩ | exact (.inr (hk)))), by repeat (first | (with_reducible first | exact HB.out | apply below_alloc | apply pw_below_drewN | apply below_drew1) | exact HB.out)⟩

end Go.Proofs.Ytnkajghemggaaaa.Pr
end

section
namespace Go.Proofs.Ytnkajghemggaaaa.PF
open Go.RowKit Go.Proofs.Ytnkajghemggaaaa Go.Proofs.Ytnkajghemggaaaa.Pr Go.Proofs.Ytnkajghemggaaaa.PO Go.Proofs.YtnkajghemggaaaaW.PrintWords Go.Proofs.YtnkajghemggaaaaW.PrintLast Go.Proofs.YtnkajghemggaaaaW.PrintMore
set_option linter.unusedVariables false
set_option linter.unusedSimpArgs false

theorem find_eq {l : List Opt} (hf : ∀ x ∈ l, x.f1.length ≤ 1000) (code : Int) : option_Find.f l code = some (opFind l code) := by
  unfold option_Find.f
  rw [if_pos (fun x hx => by have := hf x hx; omega)]
theorem opFind_drop {l : List Opt} {i : Nat} (h : i < l.length) (code : Int) : opFind (l.drop i) code = if l[i].f0 = code then (l[i].f1, true) else opFind (l.drop (i + 1)) code := by
  unfold opFind
  rw [List.drop_eq_getElem_cons h, List.find?_cons]
  by_cases c : l[i].f0 = code
  · rw [if_pos c, show (l[i].f0 == code) = true from beq_iff_eq.2 c]
  · rw [if_neg c, show (l[i].f0 == code) = false from beq_eq_false_iff_ne.2 c]
theorem ref_find_loop (l : List Opt) (hl : l.length ≤ 1000000) (code : Int) : ∀ (d i k : Nat), l.length ≤ i + d → i ≤ l.length → d < k → lessorref02_Find.l0 k l code (i : Int) = some (opFind (l.drop i) code) := by
  intro d
  induction d with
  | zero =>
    intro i k h1 h2 hk
    obtain ⟨k, rfl⟩ : ∃ m, k = m + 1 := ⟨k - 1, by omega⟩
    simp only [lessorref02_Find.l0]
    rw [if_neg (by omega), List.drop_of_length_le (by omega)]
    rfl
  | succ d ih =>
    intro i k h1 h2 hk
    obtain ⟨k, rfl⟩ : ∃ m, k = m + 1 := ⟨k - 1, by omega⟩
    by_cases h : i < l.length
    · simp only [lessorref02_Find.l0]
      rw [if_pos (by omega), if_pos (by omega), rd_at l h, opFind_drop h]
      by_cases c : l[i].f0 = code
      · rw [if_pos c, if_pos c]
      · rw [if_neg c, if_neg c, show wrap64 ((i : Int) + 1) = ((i + 1 : Nat) : Int) from by unfold wrap64; omega]
        exact ih (i + 1) k (by omega) (by omega) (by omega)
    · obtain rfl : i = l.length := by omega
      simp only [lessorref02_Find.l0]
      rw [if_neg (by omega), List.drop_of_length_le (by omega)]
      rfl
theorem ref_find_eq (l : List Opt) (hl : l.length ≤ 1000000) (code : Int) (k : Nat) (hk : l.length < k) : lessorref02_Find.f k l code = some (opFind l code) := by
  have := ref_find_loop l hl code l.length 0 k (by omega) (by omega) hk
  rwa [List.drop_zero] at this
theorem opFind_of {l : List Opt} {p : List Int → Prop} (h : ∀ x ∈ l, p x.f1) (h0 : p []) (code : Int) : p (opFind l code).1 := by
  unfold opFind
  cases e : l.find? (fun x => x.f0 == code) with
  | none => exact h0
  | some x => exact h x (List.mem_of_find?_eq_some e)

/-! ### Same -/
theorem same_loop (l : List Opt) (hl : l.length ≤ 1000000) : ∀ (d i k : Nat), l.length ≤ i + d → i ≤ l.length → d < k → lessorref02_Same.l0 k l l (i : Int) = some true := by
  intro d
  induction d with
  | zero =>
    intro i k h1 h2 hk
    obtain ⟨k, rfl⟩ : ∃ m, k = m + 1 := ⟨k - 1, by omega⟩
    simp only [lessorref02_Same.l0]
    rw [if_neg (by omega)]
  | succ d ih =>
    intro i k h1 h2 hk
    obtain ⟨k, rfl⟩ : ∃ m, k = m + 1 := ⟨k - 1, by omega⟩
    by_cases h : i < l.length
    · simp only [lessorref02_Same.l0]
      rw [if_pos (by omega), if_pos (by omega), if_pos (by omega)]
      simp only [if_true]
      rw [show wrap64 ((i : Int) + 1) = ((i + 1 : Nat) : Int) from by unfold wrap64; omega]
      exact ih (i + 1) k (by omega) (by omega) (by omega)
    · obtain rfl : i = l.length := by omega
      simp only [lessorref02_Same.l0]
      rw [if_neg (by omega)]
theorem same_refl (l : List Opt) (hl : l.length ≤ 1000000) (k : Nat) (hk : l.length < k) : lessorref02_Same.f k l l = some true := by
  unfold lessorref02_Same.f
  rw [if_pos rfl]
  exact same_loop l hl l.length 0 k (by omega) (by omega) hk
end Go.Proofs.Ytnkajghemggaaaa.PF
end
