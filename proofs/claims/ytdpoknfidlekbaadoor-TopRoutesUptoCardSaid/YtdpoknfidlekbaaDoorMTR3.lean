/-
  Printed: PrF15.
  Printed: PrF5.
  Printed: PrF24.
  Printed: PrF23.
  packet.Encode: a packet as bytes.
  Options as bytes, over lists: what option.Encode and the reference's Encode compute of few options.
-/
import Derived.Test.YtdpoknfidlekbaaDoorMTR1
import Derived.Test.YtdpoknfidlekbaaDoorMTR2
import Derived.Lib.Hide
import Derived.Deep.DeepCutAuto
import Derived.Deep.CutBlock
import Derived.Laws.BitsLemmas

section
-- written by a program of this session (wip/tools/gen.py) over the kit's print
namespace Go.Proofs.YtdpoknfidlekbaaDoor.Pr
open Go.RowKit Go.Proofs.YtdpoknfidlekbaaDoorW.PrintWords Go.Proofs.YtdpoknfidlekbaaDoorW.PrintLast Go.Proofs.YtdpoknfidlekbaaDoorW.PrintMore
attribute [local go_sem] max2_int min2_int max_two min_two max_three min_three max_four min_four   -- for this text's walks alone
set_option linter.unusedVariables false
set_option linter.unusedSimpArgs false

/-! ### option_Encode: function 15 -/
def option_Encode.l0 : Nat → List Int → List (S53) → Int → Int → Option (List Int × Int)
 | 0, _, _, _, _ => none
 | k + 1, x5, x11, x12, x13 => if x13 < x12 then (if 0 ≤ x13 then (if x13 < (x11.length : Int) then ((some (([((rd_T53 x11 x13).f0) % 256, ((((rd_T53 x11 x13).f1).length : Int)) % 256] : List Int) : List Int)).bind fun y108 => (if x5.length + y108.length < 140737488355328 then ((some (x5 ++ y108 : List Int)).bind fun y111 => (if y111.length + ((rd_T53 x11 x13).f1).length < 140737488355328 then (option_Encode.l0 k (y111 ++ ((rd_T53 x11 x13).f1)) x11 x12 (wrap64 (x13 + 1))) else (none))) else (none))) else (none)) else (none)) else (if x5.length < 140737488355328 then ((some (x5 ++ [255] : List Int)).bind fun y117 => (if (y117.length : Int) > 1024 then (some (([] : List Int), 3)) else (some (y117, 0)))) else (none))
def option_Encode.f (k : Nat) (l0 : List (S53)) : Option (List Int × Int) := (slices_ContainsFunc.f k l0 420028).bind fun t105 => (if t105 = true then (some (([] : List Int), 1)) else (option_Encode.l0 k ([] : List Int) l0 (l0.length : Int) 0))
theorem option_Encode.mono_l : ∀ k, (∀ y0 y1 y2 y3, LeO (option_Encode.l0 k y0 y1 y2 y3) (option_Encode.l0 (k + 1) y0 y1 y2 y3))
 | 0 => fun _ _ _ _ r h => by simp [option_Encode.l0] at h
 | k + 1 => by
  have ih0 := option_Encode.mono_l k
  ·intro y0 y1 y2 y3
   unfold option_Encode.l0
   repeat' first
   | (with_reducible exact ih0 _ _ _ _)
   | (with_reducible exact slices_ContainsFunc.mono _ _ _)
   | (with_reducible exact LeO.refl _)
   | (with_reducible exact LeO.none _)
   | (with_reducible refine LeO.ite ?_ ?_)
   | (with_reducible refine LeO.bind ?_ (fun _ => ?_))
   | exact ih0 _ _ _ _
   | exact slices_ContainsFunc.mono _ _ _
   | exact LeO.none _
   | refine LeO.ite ?_ ?_
   | refine LeO.bind ?_ (fun _ => ?_)
theorem option_Encode.mono : ∀ a0 k, LeO (option_Encode.f k a0) (option_Encode.f (k + 1) a0) := by
 intro a0 k
 have ih0 := option_Encode.mono_l k
 unfold option_Encode.f
 repeat' first
   | (with_reducible exact ih0 _ _ _ _)
   | (with_reducible exact slices_ContainsFunc.mono _ _ _)
   | (with_reducible exact LeO.refl _)
   | (with_reducible exact LeO.none _)
   | (with_reducible refine LeO.ite ?_ ?_)
   | (with_reducible refine LeO.bind ?_ (fun _ => ?_))
   | exact ih0 _ _ _ _
   | exact slices_ContainsFunc.mono _ _ _
   | exact LeO.none _
   | refine LeO.ite ?_ ?_
   | refine LeO.bind ?_ (fun _ => ?_)
def option_Encode.T8 : Bool × List (List Nat × List Nat) := (true, [([], []), ([], []), ([1], [1]), ([2], [2]), ([], []), ([4], [4]), ([5], [5]), ([6], [6]), ([3, 7], [3, 7]), ([0, 8], [0, 8]), ([], []), ([10], [10]), ([9, 11, 9], [9, 11]), ([12, 12, 0, 1, 2, 3, 4, 5, 6, 7, 8, 9, 10, 11, 12], [0, 12])])
def option_Encode.B8 : List Nat := [0, 0, 2, 6, 0, 16, 48, 112, 254, 511, 0, 1024, 4095, 8191]
theorem option_Encode.tab8 : rtab .any (opsOf Tryd.f15 8) = option_Encode.T8 := by kernel_rfl
theorem option_Encode.bits8 : waitsOk option_Encode.T8.2 option_Encode.B8 = true := by kernel_rfl
set_option maxHeartbeats 8000000 in
set_option maxRecDepth 100000 in
theorem option_Encode.calls (k : Nat) (A0 : Option Addr) (c0 : Nat) (l0 : List (S53)) (r1 : List Int) (r2 : Int) (w : World) (hr0 : Kd.C k53 w A0 l0.length l0) (hc0 : l0.length ≤ c0) (h : option_Encode.f k l0 = some (r1, r2)) :
  Calls Tryd.prog 15 #[.slice A0 l0.length c0] w fun e w' => ∃ v0_ : Value, e = .returned (.tuple #[v0_, .int .i64 r2]) ∧ Kd.R (Kd.int .u8) 5 w' w.heap.size (fun _ => True) v0_ r1 ∧ Below w.heap.size w w' := by
 have hu53 := Tryd.underlying53
 have HR0 := Aside0.mk hr0
 have HC0 := Aside0.mk hc0
 clear hr0 hc0
 have HB := Aside0.mk (Below.refl w.heap.size w)
 have H : ((slices_ContainsFunc.f k l0 420028).bind fun t105 => (if t105 = true then (some (([] : List Int), 1)) else (option_Encode.l0 k ([] : List Int) l0 (l0.length : Int) 0))) = some (r1, r2) := h
 clear h
 replace H := Option.bind_eq_some_iff.mp H
 obtain ⟨t105, A20, H⟩ := H
 replace H : (if t105 = true then (some (([] : List Int), 1)) else (option_Encode.l0 k ([] : List Int) l0 (l0.length : Int) 0)) = some (r1, r2) := H
 have A2 := Aside0.mk A20
 clear A20
 by_cases c3 : t105 = true
 ·subst c3
  have H1 : (some (([] : List Int), 1)) = some (r1, r2) := by rw [if_pos rfl] at H; exact H
  clear H
  have H := H1
  clear H1
  simp only [Option.some.injEq, Prod.mk.injEq] at H
  obtain ⟨rfl, rfl⟩ := H
  go_enter Tryd.func15, Tryd.ntmps15
  go_wp2_with (first | ((with_reducible refine gate_callee (f := 29) rfl ?_); refine goesL_ (some 10) rfl rfl Tryd.func29 (by kernel_rfl) rfl #[.slice A0 l0.length c0, .func (.func 28) #[] #[]] rfl (by (try simp only [List.map_toArray, List.map_cons, List.map_nil]); first | done | rfl | (simp only [List.length_drop, List.length_take]; rfl)) ?_; (with_reducible refine (slices_ContainsFunc.calls k _ _ l0 420028 true _ ?side1_1 ?side2_1 A2.out).mono ?_); (case side1_1 => repeat (first | exact HR0.out | (with_reducible refine Kd.C_alloc ?_ _) | (with_reducible refine Kd.C_drewN ?_ _) | (with_reducible refine Kd.C_drew ?_))); (case side2_1 => exact HC0.out); rintro e w4 ⟨rfl, hb⟩; refine ⟨_, rfl, ?_⟩; have n0_ := Aside0.mk (below_step (by repeat (first | (with_reducible first | exact HB.out | apply below_alloc | apply pw_below_drewN | apply below_drew1) | exact HB.out)) hb); clear HB; have HB := n0_; clear n0_; (try clear hb); (try clear hb2); (try clear hk); (try clear hi)))
  go_ret2
  exact ⟨_, by first | rfl | (simp [errW_none, errW_some] <;> rfl) | (simp [*, errW_none, errW_some] <;> rfl), by first | exact Kd.R_nil _ _ _ _ _ | exact Kd.N_nil _ _ _ _ _ | exact Kd.V_nil _ _ _ _ _ | exact Kd.Q_nil _ _ _ _ _ | exact Kd.S_nil _ _ _ _ _, by repeat (first | (with_reducible first | exact HB.out | apply below_alloc | apply pw_below_drewN | apply below_drew1) | exact HB.out)⟩
 ·replace c3 := Bool.eq_false_iff.mpr c3
  subst c3
  have H1 : (option_Encode.l0 k ([] : List Int) l0 (l0.length : Int) 0) = some (r1, r2) := by rw [if_neg (show ¬ (false = true) by decide)] at H; exact H
  clear H
  have H := H1
  clear H1
  have H' := Aside0.mk H
  clear H
  go_enter Tryd.func15, Tryd.ntmps15
  go_wp2_with (first | ((with_reducible refine gate_callee (f := 29) rfl ?_); refine goesL_ (some 10) rfl rfl Tryd.func29 (by kernel_rfl) rfl #[.slice A0 l0.length c0, .func (.func 28) #[] #[]] rfl (by (try simp only [List.map_toArray, List.map_cons, List.map_nil]); first | done | rfl | (simp only [List.length_drop, List.length_take]; rfl)) ?_; (with_reducible refine (slices_ContainsFunc.calls k _ _ l0 420028 false _ ?side1_2 ?side2_2 A2.out).mono ?_); (case side1_2 => repeat (first | exact HR0.out | (with_reducible refine Kd.C_alloc ?_ _) | (with_reducible refine Kd.C_drewN ?_ _) | (with_reducible refine Kd.C_drew ?_))); (case side2_2 => exact HC0.out); rintro e w5 ⟨rfl, hb⟩; refine ⟨_, rfl, ?_⟩; have n0_ := Aside0.mk (below_step (by repeat (first | (with_reducible first | exact HB.out | apply below_alloc | apply pw_below_drewN | apply below_drew1) | exact HB.out)) hb); clear HB; have HB := n0_; clear n0_; (try clear hb); (try clear hb2); (try clear hk); (try clear hi)))
  go_loopg [5, 13] k (fun kq v5 v13 w' => ∃ (x5_1 : List Int) (x13_1 : Int), v13 = .int .i64 x13_1 ∧ Aside0 (option_Encode.l0 kq x5_1 l0 (l0.length : Int) x13_1 = some (r1, r2)) ∧ Aside0 (kq ≤ k) ∧ Aside0 (Kd.R (Kd.int .u8) 5 w' w.heap.size (fun _ => True) v5 x5_1) ∧ Aside0 (Below w.heap.size w w'))
  case atStart => exact ⟨(([] : List Int)), (0), (by first | rfl | (simp; done) | (simp [*]; done)), H', ⟨Nat.le_refl _⟩, ⟨by first | exact Kd.R_nil _ _ _ _ _ | exact Kd.N_nil _ _ _ _ _ | exact Kd.V_nil _ _ _ _ _ | exact Kd.Q_nil _ _ _ _ _ | exact Kd.S_nil _ _ _ _ _⟩, ⟨by repeat (first | (with_reducible first | exact HB.out | apply below_alloc | apply pw_below_drewN | apply below_drew1) | exact HB.out)⟩⟩
  case round =>
   clear H'
   try clear c1
   try clear c2
   try clear p2
   try clear c3
   obtain ⟨x5_1, x13_1, rfl, HA, HK1, HO_5, HB⟩ := hrel
   cases gk with
   | zero => exact absurd HA.out (by simp [option_Encode.l0])
   | succ k1 =>
    have H := HA.out
    clear HA
    simp only [option_Encode.l0] at H
    by_cases c6 : x13_1 < (l0.length : Int)
    ·rw [if_pos c6] at H
     have c6b0 : decide (x13_1 < (l0.length : Int)) = true := decide_eq_true c6
     clear c6
     by_cases c7 : 0 ≤ x13_1
     ·rw [if_pos c7] at H
      have c7b0 : decide (0 ≤ x13_1) = true := decide_eq_true c7
      clear c7
      by_cases c8 : x13_1 < (l0.length : Int)
      ·rw [if_pos c8] at H
       have c8b0 : decide (x13_1 < (l0.length : Int)) = true := decide_eq_true c8
       clear c8
       obtain ⟨y108, hy108⟩ : ∃ y_ : List Int, y_ = (([((rd_T53 l0 x13_1).f0) % 256, ((((rd_T53 l0 x13_1).f1).length : Int)) % 256] : List Int)) := ⟨_, rfl⟩
       replace H : (if x5_1.length + y108.length < 140737488355328 then ((some (x5_1 ++ y108 : List Int)).bind fun y111 => (if y111.length + ((rd_T53 l0 x13_1).f1).length < 140737488355328 then (option_Encode.l0 k1 (y111 ++ ((rd_T53 l0 x13_1).f1)) l0 (l0.length : Int) (wrap64 (x13_1 + 1))) else (none))) else (none)) = some (r1, r2) := by first | (rw [hy108]; with_reducible exact H) | (have H2_ := (Option.bind_some _ _).symm.trans H; rw [hy108]; with_reducible exact H2_) | (have H2_ := (Option.bind_some _ _).symm.trans H; with_reducible exact H2_) | with_reducible exact H | (rw [hy108]; exact H) | exact H
       have Ny108 := Aside0.mk hy108
       clear hy108
       by_cases c9 : x5_1.length + y108.length < 140737488355328
       ·rw [if_pos c9] at H
        have LMc9 := Aside0.mk c9
        clear c9
        obtain ⟨y111, hy111⟩ : ∃ y_ : List Int, y_ = (x5_1 ++ y108) := ⟨_, rfl⟩
        replace H : (if y111.length + ((rd_T53 l0 x13_1).f1).length < 140737488355328 then (option_Encode.l0 k1 (y111 ++ ((rd_T53 l0 x13_1).f1)) l0 (l0.length : Int) (wrap64 (x13_1 + 1))) else (none)) = some (r1, r2) := by first | (rw [hy111]; with_reducible exact H) | (have H2_ := (Option.bind_some _ _).symm.trans H; rw [hy111]; with_reducible exact H2_) | (have H2_ := (Option.bind_some _ _).symm.trans H; with_reducible exact H2_) | with_reducible exact H | (rw [hy111]; exact H) | exact H
        have Ny111 := Aside0.mk hy111
        clear hy111
        by_cases c10 : y111.length + ((rd_T53 l0 x13_1).f1).length < 140737488355328
        ·rw [if_pos c10] at H
         have LMc10 := Aside0.mk c10
         clear c10
         obtain ⟨y114, hy114⟩ : ∃ y_ : List Int, y_ = (y111 ++ ((rd_T53 l0 x13_1).f1)) := ⟨_, rfl⟩
         replace H : (option_Encode.l0 k1 y114 l0 (l0.length : Int) (wrap64 (x13_1 + 1))) = some (r1, r2) := by first | (rw [hy114]; with_reducible exact H) | (have H2_ := (Option.bind_some _ _).symm.trans H; rw [hy114]; with_reducible exact H2_) | (have H2_ := (Option.bind_some _ _).symm.trans H; with_reducible exact H2_) | with_reducible exact H | (rw [hy114]; exact H) | exact H
         have Ny114 := Aside0.mk hy114
         clear hy114
         have H' := Aside0.mk H
         clear H
         have p106 : 0 ≤ (x13_1 : Int) := of_decide_eq_true (by first | (with_reducible assumption) | assumption)
         have q106 : x13_1 < (l0.length : Int) := of_decide_eq_true (by first | (with_reducible assumption) | assumption)
         obtain ⟨ad106, A106_1, c106_1, e106, hx106_0, hx106_1, hl106_1, hi106_1⟩ := at_T53 HR0.out x13_1 p106 q106
         cases e106
         replace hx106_0 := (HB.out.cell (World.block_lt_of_cell? w _ hx106_0)).trans hx106_0
         replace hx106_1 := (HB.out.cell (World.block_lt_of_cell? w _ hx106_1)).trans hx106_1
         have HR106_1 := Aside0.mk hi106_1
         have HC106_1 := Aside0.mk hl106_1
         clear hi106_1 hl106_1
         replace p106 := eq_true p106
         replace q106 := eq_true q106
         try go_wp2_with (first | ((with_reducible refine gate_dst (N := 7) rfl ?_); refine box_event ?hg_3 (N := 7) ?hd_3 (cs := #[.int .i64 0, .slice none 0 0]) (t := 53) ?hr_3 ?_; (case hd_3 => rfl); (case hg_3 => rfl); (case hr_3 => first | (go_simp; done) | (go_simp; rfl)); intro gb107 hg w11 hbox hb; have n0_ := Aside0.mk (Kd.R_below (by (with_reducible repeat (first | apply Kd.R_alloc | apply Kd.R_drewN | apply Kd.R_drew)); exact HO_5.out) hb); have n1_ := Aside0.mk (below_step (by repeat (first | (with_reducible first | exact HB.out | apply below_alloc | apply pw_below_drewN | apply below_drew1) | exact HB.out)) hb); have n2_ := Aside0.mk (hbox); have n3_ := Aside0.mk ((by rw [hg]; exact (below_size (by repeat (first | (with_reducible first | exact HB.out | apply below_alloc | apply pw_below_drewN | apply below_drew1) | exact HB.out))) : w.heap.size ≤ gb107)); have n4_ := Aside0.mk ((by rw [hg]; exact (below_size (by repeat (first | (with_reducible first | exact HB.out | apply below_alloc | apply pw_below_drewN | apply below_drew1) | exact HB.out))) : w.heap.size ≤ gb107)); clear HO_5; clear HB; have HO_5 := n0_; have HB := n1_; have BK107 := n2_; have GW107 := n3_; have GE107 := n4_; clear n0_ n1_ n2_ n3_ n4_; clear hb hbox hg; have hcz12_0 : w11.cell? ⟨gb107, 0, none⟩ = some (.int .i64 0) := (blk_cell BK107.out 0).trans rfl; have hcz12_1 : w11.cell? ⟨gb107, 1, none⟩ = some (.slice none 0 0) := (blk_cell BK107.out 1).trans rfl; have hfz12_0 := blk_frozen BK107.out 0; have hfz12_1 := blk_frozen BK107.out 1))
         have n0_ : Aside0 (Kd.R (Kd.int .u8) 5 ((w11.setCell ⟨gb107, 0, none⟩ (.int .i64 ((rd_T53 l0 x13_1).f0))).setCell ⟨gb107, 1, none⟩ (.slice A106_1 ((rd_T53 l0 x13_1).f1).length c106_1)) w.heap.size (fun _ => True) u5 x5_1) := ⟨by (with_reducible repeat (first | apply Kd.R_alloc | apply Kd.R_drewN | apply Kd.R_drew)); exact Kd.R_mono (Kd.R_far (p := ⟨gb107, 1, none⟩) (Kd.R_far (p := ⟨gb107, 0, none⟩) (Kd.R_types HO_5.out BK107.out (by decide)) (fun _ hk => hk.2) (.int .i64 ((rd_T53 l0 x13_1).f0))) (fun _ hk => hk.2) (.slice A106_1 ((rd_T53 l0 x13_1).f1).length c106_1)) (fun _ hk => trivial)⟩
         have n1_ : Aside0 (((w11.setCell ⟨gb107, 0, none⟩ (.int .i64 ((rd_T53 l0 x13_1).f0))).setCell ⟨gb107, 1, none⟩ (.slice A106_1 ((rd_T53 l0 x13_1).f1).length c106_1)).heap[gb107]? = some (.cells #[.int .i64 ((rd_T53 l0 x13_1).f0), .slice A106_1 ((rd_T53 l0 x13_1).f1).length c106_1] 53 (0, 0))) := ⟨by (with_reducible repeat (first | refine blk_drewN ?_ _ | refine blk_drew ?_ | refine blk_alloc ?_ _)); refine blk_put (cs := #[.int .i64 ((rd_T53 l0 x13_1).f0), .slice none 0 0]) ?_ 1 _ rfl; (with_reducible repeat (first | refine blk_drewN ?_ _ | refine blk_drew ?_ | refine blk_alloc ?_ _)); refine blk_put (cs := #[.int .i64 0, .slice none 0 0]) ?_ 0 _ rfl; (with_reducible repeat (first | refine blk_drewN ?_ _ | refine blk_drew ?_ | refine blk_alloc ?_ _)); exact BK107.out⟩
         have n2_ : Aside0 (Below w.heap.size w ((w11.setCell ⟨gb107, 0, none⟩ (.int .i64 ((rd_T53 l0 x13_1).f0))).setCell ⟨gb107, 1, none⟩ (.slice A106_1 ((rd_T53 l0 x13_1).f1).length c106_1))) := ⟨by repeat (first | (with_reducible first | exact HB.out | apply below_alloc | apply pw_below_drewN | apply below_drew1 | refine below_set ?_ GE107.out) | exact HB.out)⟩
         (try clear HO_5)
         (try clear BK107)
         (try clear HB)
         generalize ((w11.setCell ⟨gb107, 0, none⟩ (.int .i64 ((rd_T53 l0 x13_1).f0))).setCell ⟨gb107, 1, none⟩ (.slice A106_1 ((rd_T53 l0 x13_1).f1).length c106_1)) = w13 at n0_ n1_ n2_ ⊢
         have HO_5 := n0_
         have BK107 := n1_
         have HB := n2_
         clear n0_ n1_ n2_
         have n0_ := Aside0.mk (Kd.R_drew HO_5.out)
         have n1_ := Aside0.mk (blk_drew BK107.out)
         have n2_ := Aside0.mk (below_drew1 HB.out)
         clear HO_5
         clear BK107
         clear HB
         have HO_5 := n0_
         have BK107 := n1_
         have HB := n2_
         clear n0_ n1_ n2_
         refine start_ (n := 14) (S := fun w' => w'.cell? ⟨gb107, 0, none⟩ = some (.int .i64 ((rd_T53 l0 x13_1).f0)) ∧ w'.cell? ⟨gb107, 1, none⟩ = some (.slice A106_1 ((rd_T53 l0 x13_1).f1).length c106_1)) (ds := []) #[false, false, false, false, false, false, false, false, false, false, false, false, false, false] (by kernel_rfl) rfl rfl ⟨(blk_cell BK107.out 0).trans rfl, (blk_cell BK107.out 1).trans rfl⟩ (fun hHeld => ?_); refine with_tabW option_Encode.tab8 option_Encode.bits8 (fun HT_ HW_ => ?_)
         generalize w13.drew = w14 at HO_5 BK107 HB hHeld ⊢
         refine pure_ (i := 0) (N := some 17) (v := ?_) (a' := ?_) #[true, false, false, false, false, false, false, false, false, false, false, false, false, false] rfl rfl (any_of HT_.out (by kernel_rfl)) (fun _ _ _ h => h) (Or.inl ⟨by rfl, ?_⟩) ?_ ?_
         rotate_left
         ·intro w'
          go_simp
          with_reducible rfl
         rotate_left
         ·simp only [Act.put, List.setIfInBounds_toArray, List.set_cons_zero, List.set_cons_succ, i64_w, i32_w]
          rfl
         refine pure_ (i := 1) (N := some 18) (v := ?_) (a' := ?_) #[true, true, false, false, false, false, false, false, false, false, false, false, false, false] rfl rfl (any_of HT_.out (by kernel_rfl)) (fun _ _ _ h => h) (Or.inl ⟨by rfl, ?_⟩) ?_ ?_
         rotate_left
         ·intro w'
          go_simp
          with_reducible rfl
         rotate_left
         ·simp only [Act.put, List.setIfInBounds_toArray, List.set_cons_zero, List.set_cons_succ, i64_w, i32_w]
          rfl
         refine pure_ (i := 4) (N := some 21) (v := ?_) (a' := ?_) #[true, true, false, false, true, false, false, false, false, false, false, false, false, false] rfl rfl (any_of HT_.out (by kernel_rfl)) (fun _ _ _ h => h) (Or.inl ⟨by rfl, ?_⟩) ?_ ?_
         rotate_left
         ·intro w'
          go_simp
          with_reducible rfl
         rotate_left
         ·simp only [Act.put, List.setIfInBounds_toArray, List.set_cons_zero, List.set_cons_succ, i64_w, i32_w]
          rfl
         refine pure_ (i := 10) (N := some 27) (v := ?_) (a' := ?_) #[true, true, false, false, true, false, false, false, false, false, true, false, false, false] rfl rfl (any_of HT_.out (by kernel_rfl)) (fun _ _ _ h => h) (Or.inl ⟨by rfl, ?_⟩) ?_ ?_
         rotate_left
         ·intro w'
          go_simp
          with_reducible rfl
         rotate_left
         ·simp only [Act.put, List.setIfInBounds_toArray, List.set_cons_zero, List.set_cons_succ, i64_w, i32_w]
          rfl
         refine take_ (i := 2) (N := some 19) (v := ?_) (a' := ?_) #[true, true, true, false, true, false, false, false, false, false, true, false, false, false] rfl rfl (take_ofW HT_.out HW_.out (by kernel_rfl)) (fun _ _ _ h => h) (Or.inl ⟨by rfl, ?_⟩) hHeld ?_ ?_
         rotate_left
         ·rintro w' ⟨s0, s1⟩
          go_simp
          with_reducible rfl
         rotate_left
         ·simp only [Act.put, List.setIfInBounds_toArray, List.set_cons_zero, List.set_cons_succ, i64_w, i32_w]
          rfl
         refine pure_ (i := 3) (N := some 20) (v := ?_) (a' := ?_) #[true, true, true, true, true, false, false, false, false, false, true, false, false, false] rfl rfl (any_of HT_.out (by kernel_rfl)) (fun _ _ _ h => h) (Or.inl ⟨by rfl, ?_⟩) ?_ ?_
         rotate_left
         ·intro w'
          go_simp
          with_reducible rfl
         rotate_left
         ·simp only [Act.put, List.setIfInBounds_toArray, List.set_cons_zero, List.set_cons_succ, i64_w, i32_w]
          rfl
         refine take_ (i := 5) (N := some 22) (v := ?_) (a' := ?_) #[true, true, true, true, true, true, false, false, false, false, true, false, false, false] rfl rfl (take_ofW HT_.out HW_.out (by kernel_rfl)) (fun _ _ _ h => h) (Or.inl ⟨by rfl, ?_⟩) hHeld ?_ ?_
         rotate_left
         ·rintro w' ⟨s0, s1⟩
          go_simp
          with_reducible rfl
         rotate_left
         ·simp only [Act.put, List.setIfInBounds_toArray, List.set_cons_zero, List.set_cons_succ, i64_w, i32_w]
          rfl
         refine pure_ (i := 6) (N := some 23) (v := ?_) (a' := ?_) #[true, true, true, true, true, true, true, false, false, false, true, false, false, false] rfl rfl (any_of HT_.out (by kernel_rfl)) (fun _ _ _ h => h) (Or.inl ⟨by rfl, ?_⟩) ?_ ?_
         rotate_left
         ·intro w'
          go_simp
          with_reducible rfl
         rotate_left
         ·simp only [Act.put, List.setIfInBounds_toArray, List.set_cons_zero, List.set_cons_succ, i64_w, i32_w]
          rfl
         refine pure_ (i := 7) (N := some 24) (v := ?_) (a' := ?_) #[true, true, true, true, true, true, true, true, false, false, true, false, false, false] rfl rfl (any_of HT_.out (by kernel_rfl)) (fun _ _ _ h => h) (Or.inl ⟨by rfl, ?_⟩) ?_ ?_
         rotate_left
         ·intro w'
          go_simp
          with_reducible rfl
         rotate_left
         ·simp only [Act.put, List.setIfInBounds_toArray, List.set_cons_zero, List.set_cons_succ, i64_w, i32_w]
          rfl
         refine take_ (i := 11) (N := some 28) (v := ?_) (a' := ?_) #[true, true, true, true, true, true, true, true, false, false, true, true, false, false] rfl rfl (take_ofW HT_.out HW_.out (by kernel_rfl)) (fun _ _ _ h => h) (Or.inl ⟨by rfl, ?_⟩) hHeld ?_ ?_
         rotate_left
         ·rintro w' ⟨s0, s1⟩
          go_simp
          with_reducible rfl
         rotate_left
         ·simp only [Act.put, List.setIfInBounds_toArray, List.set_cons_zero, List.set_cons_succ, i64_w, i32_w]
          rfl
         refine one_ (i := 8) (N := some 25) #[true, true, true, true, true, true, true, true, true, false, true, true, false, false] rfl rfl (one_of HT_.out (by kernel_rfl)) (by decide) (fun K hK => ?_)
         refine Kd.R_lit_step (Kd.int .u8) _ 5 ?hg_4 (N := 25) ?hd_4 (xs := ([((rd_T53 l0 x13_1).f0) % 256, ((((rd_T53 l0 x13_1).f1).length : Int)) % 256] : List Int)) (inner := [.int .u8 (((rd_T53 l0 x13_1).f0) % 256), .int .u8 (((((rd_T53 l0 x13_1).f1).length : Int)) % 256)]) (ok := fun _ => True) (okp := fun _ => True) ?hr_4 ?hp_4 (fun _ hk => hk) trivial (Below.refl _ _) (Nat.le_refl _) (by simp) ?_; (case hd_4 => rfl); (case hg_4 => rfl); (case hr_4 => first | (go_simp; done) | (go_simp; rfl)); (case hp_4 => exact (Reps.one (show Kd.M (Kd.int .u8) _ _ _ (((rd_T53 l0 x13_1).f0) % 256) [.int .u8 (((rd_T53 l0 x13_1).f0) % 256)] from rfl) (Reps.one (show Kd.M (Kd.int .u8) _ _ _ (((((rd_T53 l0 x13_1).f1).length : Int)) % 256) [.int .u8 (((((rd_T53 l0 x13_1).f1).length : Int)) % 256)] from rfl) (Reps.none _ _))))
         intro v109 w15 ho16 hb hg_ hnew_
         clear hg_ hnew_
         (first | rw [← Ny108.out] at ho16 | (simp only [Int.reduceToNat] at ho16; rw [← Ny108.out] at ho16))
         have n0_ := Aside0.mk (Kd.R_elder' (by (with_reducible repeat (first | apply Kd.R_alloc | apply Kd.R_drewN | apply Kd.R_drew)); exact HO_5.out) (Kd.R_base ho16) hb)
         have n1_ := Aside0.mk (Kd.R_lower (Kd.R_new' ho16 (Kd.R_lt (by (with_reducible repeat (first | apply Kd.R_alloc | apply Kd.R_drewN | apply Kd.R_drew)); exact HO_5.out))) (below_size (by repeat (first | (with_reducible first | exact HB.out | apply below_alloc | apply pw_below_drewN | apply below_drew1 | refine below_set ?_ GE107.out) | exact HB.out))))
         have n2_ := Aside0.mk (blk_below (g := gb107) (o := .cells #[.int .i64 ((rd_T53 l0 x13_1).f0), .slice A106_1 ((rd_T53 l0 x13_1).f1).length c106_1] 53 (0, 0)) (by (with_reducible repeat (first | refine blk_drewN ?_ _ | refine blk_drew ?_ | refine blk_alloc ?_ _)); exact BK107.out) hb)
         have n3_ := Aside0.mk (below_step (by repeat (first | (with_reducible first | exact HB.out | apply below_alloc | apply pw_below_drewN | apply below_drew1 | refine below_set ?_ GE107.out) | exact HB.out)) hb)
         clear HO_5
         clear BK107
         clear HB
         have HO_5 := n0_
         have HO110 := n1_
         have BK107 := n2_
         have HB := n3_
         clear n0_ n1_ n2_ n3_
         clear hb ho16
         obtain ⟨Ao18, co18, eo18⟩ := Kd.R_slice HO110.out
         (first | subst eo18 | (injection eo18 with f1_ f2_ f3_; have f4_ := f1_.symm; have f5_ := f3_.symm; clear f1_ f2_ f3_; subst f4_; subst f5_))
         refine hK.out _ _ ⟨(blk_cell BK107.out 0).trans rfl, (blk_cell BK107.out 1).trans rfl⟩ (fun hHeld => ?_)
         clear hK K
         refine norm_ (a' := ?_) ?_ ?_
         rotate_left
         ·show Act.put _ (some 25) _ = _
          simp only [Act.put, List.setIfInBounds_toArray, List.set_cons_zero, List.set_cons_succ, i64_w, i32_w]
          rfl
         refine one_ (i := 9) (N := some 26) #[true, true, true, true, true, true, true, true, true, true, true, true, false, false] rfl rfl (one_of HT_.out (by kernel_rfl)) (by decide) (fun K hK => ?_)
         refine Kd.R_append_rows_step (Kd.int .u8) (w0 := w) w.heap.size (by rfl) (.tmp 17) (.tmp 25) 24 5 (.int .u8 0) 1 rfl Tryd.underlying24 info5 rfl (by decide) (by omega) u5 x5_1 y108 _ _ _ (fun k_ => some k_ ≠ (.slice Ao18 y108.length co18 : Value).ownBlock) (fun _ => False) rfl rfl ?aO_5 ?aR_5 (fun _ _ h => h) (fun _ h => h.elim) ?aF_5 ?aB_5 ?aS_5 ?aL_5 ?_
         (case aR_5 => repeat (first | exact (Kd.R_reads' HO110.out).2.2 | (with_reducible refine Kd.C_alloc ?_ _) | (with_reducible refine Kd.C_drewN ?_ _) | (with_reducible refine Kd.C_drew ?_)))
         (case aB_5 => exact (by repeat (first | (with_reducible first | exact HB.out | apply below_alloc | apply pw_below_drewN | apply below_drew1 | refine below_set ?_ GE107.out) | exact HB.out)))
         (case aF_5 => exact (fun k_ hk => Kd.fresh' (Kd.R_lt (by (with_reducible repeat (first | apply Kd.R_alloc | apply Kd.R_drewN | apply Kd.R_drew)); exact HO110.out)) k_ hk))
         (case aO_5 => exact (by (with_reducible repeat (first | apply Kd.R_alloc | apply Kd.R_drewN | apply Kd.R_drew)); exact Kd.R_mono HO_5.out (fun _ hk => hk.2)))
         (case aS_5 => exact (below_size (by repeat (first | (with_reducible first | exact HB.out | apply below_alloc | apply pw_below_drewN | apply below_drew1 | refine below_set ?_ GE107.out) | exact HB.out))))
         (case aL_5 => have := LMc9.out; omega)
         intro v112 w17 ho hb hg hat
         rw [← Ny111.out] at ho
         have n0_ := Aside0.mk (blk_grown (g := gb107) (o := .cells #[.int .i64 ((rd_T53 l0 x13_1).f0), .slice A106_1 ((rd_T53 l0 x13_1).f1).length c106_1] 53 (0, 0)) (by (with_reducible repeat (first | refine blk_drewN ?_ _ | refine blk_drew ?_ | refine blk_alloc ?_ _)); exact BK107.out) hg (Kd.R_ne HO_5.out BK107.out (by decide)))
         have n1_ := Aside0.mk (Kd.R_after (ok := (fun _ => True)) (by (with_reducible repeat (first | apply Kd.R_alloc | apply Kd.R_drewN | apply Kd.R_drew)); exact HO110.out) hg hat)
         have n2_ := Aside0.mk (hb)
         have n3_ := Aside0.mk (ho)
         clear BK107
         clear HO110
         clear HB
         clear HO_5
         have BK107 := n0_
         have HO110 := n1_
         have HB := n2_
         have HO113 := n3_
         clear n0_ n1_ n2_ n3_
         clear ho hb hg hat
         refine hK.out _ _ ⟨(blk_cell BK107.out 0).trans rfl, (blk_cell BK107.out 1).trans rfl⟩ (fun hHeld => ?_)
         clear hK K
         refine norm_ (a' := ?_) ?_ ?_
         rotate_left
         ·show Act.put _ (some 26) _ = _
          simp only [Act.put, List.setIfInBounds_toArray, List.set_cons_zero, List.set_cons_succ, i64_w, i32_w]
          rfl
         refine one_ (i := 12) (N := some 29) #[true, true, true, true, true, true, true, true, true, true, true, true, true, false] rfl rfl (one_of HT_.out (by kernel_rfl)) (by decide) (fun K hK => ?_)
         refine Kd.R_append_rows_step (Kd.int .u8) (w0 := w) w.heap.size (by rfl) (.tmp 26) (.tmp 28) 24 5 (.int .u8 0) 1 rfl Tryd.underlying24 info5 rfl (by decide) (by omega) v112 y111 ((rd_T53 l0 x13_1).f1) _ _ _ (fun k_ => some k_ ≠ (.slice Ao18 y108.length co18 : Value).ownBlock) (fun _ => False) rfl rfl ?aO_6 ?aR_6 (fun _ _ h => h) (fun _ h => h.elim) ?aF_6 ?aB_6 ?aS_6 ?aL_6 ?_
         (case aR_6 => repeat (first | exact (Kd.C_below HR106_1.out HB.out) | exact (Kd.C_below (Aside0.out (by assumption)) HB.out) | (with_reducible refine Kd.C_alloc ?_ _) | (with_reducible refine Kd.C_drewN ?_ _) | (with_reducible refine Kd.C_drew ?_)))
         (case aB_6 => exact (by repeat (first | (with_reducible first | exact HB.out | apply below_alloc | apply pw_below_drewN | apply below_drew1 | refine below_set ?_ GE107.out) | exact HB.out)))
         (case aF_6 => exact (fun k_ hk => Kd.fresh' (Kd.R_lt (by (with_reducible repeat (first | apply Kd.R_alloc | apply Kd.R_drewN | apply Kd.R_drew)); exact HO110.out)) k_ hk))
         (case aO_6 => exact (by (with_reducible repeat (first | apply Kd.R_alloc | apply Kd.R_drewN | apply Kd.R_drew)); exact HO113.out))
         (case aS_6 => exact (below_size (by repeat (first | (with_reducible first | exact HB.out | apply below_alloc | apply pw_below_drewN | apply below_drew1 | refine below_set ?_ GE107.out) | exact HB.out))))
         (case aL_6 => have := LMc10.out; omega)
         intro v115 w19 ho hb hg hat
         rw [← Ny114.out] at ho
         have n0_ := Aside0.mk (blk_grown (g := gb107) (o := .cells #[.int .i64 ((rd_T53 l0 x13_1).f0), .slice A106_1 ((rd_T53 l0 x13_1).f1).length c106_1] 53 (0, 0)) (by (with_reducible repeat (first | refine blk_drewN ?_ _ | refine blk_drew ?_ | refine blk_alloc ?_ _)); exact BK107.out) hg (Kd.R_ne HO113.out BK107.out (by decide)))
         have n1_ := Aside0.mk (Kd.R_after (ok := (fun _ => True)) (by (with_reducible repeat (first | apply Kd.R_alloc | apply Kd.R_drewN | apply Kd.R_drew)); exact HO110.out) hg hat)
         have n2_ := Aside0.mk (hb)
         have n3_ := Aside0.mk (ho)
         clear BK107
         clear HO110
         clear HB
         clear HO113
         have BK107 := n0_
         have HO110 := n1_
         have HB := n2_
         have HO116 := n3_
         clear n0_ n1_ n2_ n3_
         clear ho hb hg hat
         refine hK.out _ _ ⟨(blk_cell BK107.out 0).trans rfl, (blk_cell BK107.out 1).trans rfl⟩ (fun hHeld => ?_)
         clear hK K
         refine norm_ (a' := ?_) ?_ ?_
         rotate_left
         ·show Act.put _ (some 29) _ = _
          simp only [Act.put, List.setIfInBounds_toArray, List.set_cons_zero, List.set_cons_succ, i64_w, i32_w]
          rfl
         refine pure_ (i := 13) (N := some 5) (v := ?_) (a' := ?_) #[true, true, true, true, true, true, true, true, true, true, true, true, true, true] rfl rfl (any_of HT_.out (by kernel_rfl)) (fun _ _ _ h => h) (Or.inl ⟨by rfl, ?_⟩) ?_ ?_
         rotate_left
         ·intro w'
          go_simp
          with_reducible rfl
         rotate_left
         ·simp only [Act.put, List.setIfInBounds_toArray, List.set_cons_zero, List.set_cons_succ, i64_w, i32_w]
          rfl
         refine done_ (done_of HT_.out (by kernel_rfl)) ?_
         try go_wp2
         go_roundg k1
         case measure => have := HK1.out; omega
         case rel => exact ⟨(y114), (wrap64 (x13_1 + 1)), (by first | rfl | (simp; done) | (simp [*]; done)), H', ⟨by have := HK1.out; omega⟩, ⟨by (with_reducible repeat (first | apply Kd.R_alloc | apply Kd.R_drewN | apply Kd.R_drew)); exact Kd.R_mono HO116.out (fun _ hk => trivial)⟩, ⟨by repeat (first | (with_reducible first | exact HB.out | apply below_alloc | apply pw_below_drewN | apply below_drew1 | refine below_set ?_ GE107.out) | exact HB.out)⟩⟩
        ·rw [if_neg c10] at H
         exact absurd H (by simp)
       ·rw [if_neg c9] at H
        exact absurd H (by simp)
      ·rw [if_neg c8] at H
       exact absurd H (by simp)
     ·rw [if_neg c7] at H
      exact absurd H (by simp)
    ·rw [if_neg c6] at H
     have c6b0 : decide (x13_1 < (l0.length : Int)) = false := decide_eq_false c6
     clear c6
     by_cases c20 : x5_1.length < 140737488355328
     ·rw [if_pos c20] at H
      have LMc20 := Aside0.mk c20
      clear c20
      obtain ⟨y117, hy117⟩ : ∃ y_ : List Int, y_ = (x5_1 ++ [255]) := ⟨_, rfl⟩
      replace H : (if (y117.length : Int) > 1024 then (some (([] : List Int), 3)) else (some (y117, 0))) = some (r1, r2) := by first | (rw [hy117]; with_reducible exact H) | (have H2_ := (Option.bind_some _ _).symm.trans H; rw [hy117]; with_reducible exact H2_) | (have H2_ := (Option.bind_some _ _).symm.trans H; with_reducible exact H2_) | with_reducible exact H | (rw [hy117]; exact H) | exact H
      have Ny117 := Aside0.mk hy117
      clear hy117
      by_cases c21 : (y117.length : Int) > 1024
      ·rw [if_pos c21] at H
       have c21b0 : decide (1024 < (y117.length : Int)) = true := decide_eq_true c21
       have c21b1 : decide (1024 < y117.length) = true := decide_eq_true (by omega)
       clear c21
       simp only [Option.some.injEq, Prod.mk.injEq] at H
       obtain ⟨rfl, rfl⟩ := H
       go_wp2_with (first | ((with_reducible refine gate_builtin (b := .append) (xs := #[.tmp 31, .tmp 32]) rfl ?_); at_builtin; refine Kd.R_append (Kd.int .u8) (w0 := w) w.heap.size rfl (.tmp 31) (.tmp 32) 24 5 (.int .u8 0) 1 rfl Tryd.underlying24 info5 rfl (by decide) (by omega) u5 x5_1 255 [.int .u8 255] (fun _ => True) (fun _ => False) rfl rfl ?aP_7 (fun _ hk => hk.elim) ?aF_7 ?aO_7 ?aB_7 ?aS_7 ?aL_7 ?_; (case aP_7 => exact rfl); (case aB_7 => exact (by repeat (first | (with_reducible first | exact HB.out | apply below_alloc | apply pw_below_drewN | apply below_drew1) | exact HB.out))); (case aF_7 => exact (fun _ _ => trivial)); (case aO_7 => exact (by (with_reducible repeat (first | apply Kd.R_alloc | apply Kd.R_drewN | apply Kd.R_drew)); exact HO_5.out)); (case aS_7 => exact (below_size (by repeat (first | (with_reducible first | exact HB.out | apply below_alloc | apply pw_below_drewN | apply below_drew1) | exact HB.out)))); (case aL_7 => have := LMc20.out; omega); intro v118 w22 ho hb hg hat; rw [← Ny117.out] at ho; have n0_ := Aside0.mk (hb); have n1_ := Aside0.mk (ho); clear HB; clear HO_5; have HB := n0_; have HO119 := n1_; clear n0_ n1_; clear ho hb hg hat; obtain ⟨Ao23, co23, eo23⟩ := Kd.R_slice HO119.out; subst eo23))
       go_ret2
       exact ⟨_, by first | rfl | (simp [errW_none, errW_some] <;> rfl) | (simp [*, errW_none, errW_some] <;> rfl), by first | exact Kd.R_nil _ _ _ _ _ | exact Kd.N_nil _ _ _ _ _ | exact Kd.V_nil _ _ _ _ _ | exact Kd.Q_nil _ _ _ _ _ | exact Kd.S_nil _ _ _ _ _, by repeat (first | (with_reducible first | exact HB.out | apply below_alloc | apply pw_below_drewN | apply below_drew1) | exact HB.out)⟩
      ·rw [if_neg c21] at H
       have c21b0 : decide (1024 < (y117.length : Int)) = false := decide_eq_false c21
       have c21b1 : decide (1024 < y117.length) = false := decide_eq_false (by omega)
       clear c21
       simp only [Option.some.injEq, Prod.mk.injEq] at H
       obtain ⟨rfl, rfl⟩ := H
       go_wp2_with (first | ((with_reducible refine gate_builtin (b := .append) (xs := #[.tmp 31, .tmp 32]) rfl ?_); at_builtin; refine Kd.R_append (Kd.int .u8) (w0 := w) w.heap.size rfl (.tmp 31) (.tmp 32) 24 5 (.int .u8 0) 1 rfl Tryd.underlying24 info5 rfl (by decide) (by omega) u5 x5_1 255 [.int .u8 255] (fun _ => True) (fun _ => False) rfl rfl ?aP_8 (fun _ hk => hk.elim) ?aF_8 ?aO_8 ?aB_8 ?aS_8 ?aL_8 ?_; (case aP_8 => exact rfl); (case aB_8 => exact (by repeat (first | (with_reducible first | exact HB.out | apply below_alloc | apply pw_below_drewN | apply below_drew1) | exact HB.out))); (case aF_8 => exact (fun _ _ => trivial)); (case aO_8 => exact (by (with_reducible repeat (first | apply Kd.R_alloc | apply Kd.R_drewN | apply Kd.R_drew)); exact HO_5.out)); (case aS_8 => exact (below_size (by repeat (first | (with_reducible first | exact HB.out | apply below_alloc | apply pw_below_drewN | apply below_drew1) | exact HB.out)))); (case aL_8 => have := LMc20.out; omega); intro v118 w24 ho hb hg hat; rw [← Ny117.out] at ho; have n0_ := Aside0.mk (hb); have n1_ := Aside0.mk (ho); clear HB; clear HO_5; have HB := n0_; have HO119 := n1_; clear n0_ n1_; clear ho hb hg hat; obtain ⟨Ao25, co25, eo25⟩ := Kd.R_slice HO119.out; subst eo25))
       go_ret2
       exact ⟨_, by first | rfl | (simp [errW_none, errW_some] <;> rfl) | (simp [*, errW_none, errW_some] <;> rfl), by (with_reducible repeat (first | apply Kd.R_alloc | apply Kd.R_drewN | apply Kd.R_drew)); exact HO119.out, by repeat (first | (with_reducible first | exact HB.out | apply below_alloc | apply pw_below_drewN | apply below_drew1) | exact HB.out)⟩
     ·rw [if_neg c20] at H
      exact absurd H (by simp)

end Go.Proofs.YtdpoknfidlekbaaDoor.Pr
end

section
-- written by a program of this session (wip/tools/gen.py) over the kit's print
namespace Go.Proofs.YtdpoknfidlekbaaDoor.Pr
open Go.RowKit Go.Proofs.YtdpoknfidlekbaaDoorW.PrintWords Go.Proofs.YtdpoknfidlekbaaDoorW.PrintLast Go.Proofs.YtdpoknfidlekbaaDoorW.PrintMore
attribute [local go_sem] max2_int min2_int max_two min_two max_three min_three max_four min_four   -- for this text's walks alone
set_option linter.unusedVariables false
set_option linter.unusedSimpArgs false

/-! ### packet_Right: function 5 -/
def packet_Right.j0 : Nat → Int → Bool → Int → Int → Int → Int → Int → Int → Int → Int → List Int → List (S53) → Option (Bool)
 | 0, _, _, _, _, _, _, _, _, _, _, _, _ => none
 | k + 1, x4, x11, x121000, x121001, x121002, x121003, x121004, x121005, x121006, x121007, x121008, x121009 => if x11 = true then (some false) else (if (x121008.length : Int) < 1 then (some false) else (if (x121008.length : Int) > 16 then (some false) else (if x121002 ≥ 0 then (if x121002 ≤ 65535 then (if x121003 ≥ 0 then (if x121003 ≤ 65535 then (some (x4 == 0)) else (some false)) else (some false)) else (some false)) else (some false))))
def packet_Right.f (k : Nat) (a0_0 : Int) (a0_1 : Int) (a0_2 : Int) (a0_3 : Int) (a0_4 : Int) (a0_5 : Int) (a0_6 : Int) (a0_7 : Int) (l0_8 : List Int) (l0_9 : List (S53)) : Option (Bool) := (option_Encode.f k l0_9).bind fun bt121 => (if a0_0 = 1 then (packet_Right.j0 k bt121.2 false a0_0 a0_1 a0_2 a0_3 a0_4 a0_5 a0_6 a0_7 l0_8 l0_9) else (packet_Right.j0 k bt121.2 (a0_0 != 2) a0_0 a0_1 a0_2 a0_3 a0_4 a0_5 a0_6 a0_7 l0_8 l0_9))
theorem packet_Right.mono_l : ∀ k, (∀ y0 y1 y2 y3 y4 y5 y6 y7 y8 y9 y10 y11, LeO (packet_Right.j0 k y0 y1 y2 y3 y4 y5 y6 y7 y8 y9 y10 y11) (packet_Right.j0 (k + 1) y0 y1 y2 y3 y4 y5 y6 y7 y8 y9 y10 y11))
 | 0 => fun _ _ _ _ _ _ _ _ _ _ _ _ r h => by simp [packet_Right.j0] at h
 | k + 1 => by
  have ih0 := packet_Right.mono_l k
  ·intro y0 y1 y2 y3 y4 y5 y6 y7 y8 y9 y10 y11
   unfold packet_Right.j0
   repeat' first
   | (with_reducible exact ih0 _ _ _ _ _ _ _ _ _ _ _ _)
   | (with_reducible exact option_Encode.mono _ _)
   | (with_reducible exact LeO.refl _)
   | (with_reducible exact LeO.none _)
   | (with_reducible refine LeO.ite ?_ ?_)
   | (with_reducible refine LeO.bind ?_ (fun _ => ?_))
   | exact ih0 _ _ _ _ _ _ _ _ _ _ _ _
   | exact option_Encode.mono _ _
   | exact LeO.none _
   | refine LeO.ite ?_ ?_
   | refine LeO.bind ?_ (fun _ => ?_)
theorem packet_Right.mono : ∀ a0 a1 a2 a3 a4 a5 a6 a7 a8 a9 k, LeO (packet_Right.f k a0 a1 a2 a3 a4 a5 a6 a7 a8 a9) (packet_Right.f (k + 1) a0 a1 a2 a3 a4 a5 a6 a7 a8 a9) := by
 intro a0 a1 a2 a3 a4 a5 a6 a7 a8 a9 k
 have ih0 := packet_Right.mono_l k
 unfold packet_Right.f
 repeat' first
   | (with_reducible exact ih0 _ _ _ _ _ _ _ _ _ _ _ _)
   | (with_reducible exact option_Encode.mono _ _)
   | (with_reducible exact LeO.refl _)
   | (with_reducible exact LeO.none _)
   | (with_reducible refine LeO.ite ?_ ?_)
   | (with_reducible refine LeO.bind ?_ (fun _ => ?_))
   | exact ih0 _ _ _ _ _ _ _ _ _ _ _ _
   | exact option_Encode.mono _ _
   | exact LeO.none _
   | refine LeO.ite ?_ ?_
   | refine LeO.bind ?_ (fun _ => ?_)
set_option maxHeartbeats 8000000 in
set_option maxRecDepth 100000 in
theorem packet_Right.calls (k : Nat) (a0_0 : Int) (a0_1 : Int) (a0_2 : Int) (a0_3 : Int) (a0_4 : Int) (a0_5 : Int) (a0_6 : Int) (a0_7 : Int) (A0_8 : Option Addr) (c0_8 : Nat) (l0_8 : List Int) (A0_9 : Option Addr) (c0_9 : Nat) (l0_9 : List (S53)) (r : Bool) (w : World) (hr0_8 : Kd.C (Kd.int .u8) w A0_8 l0_8.length l0_8) (hc0_8 : l0_8.length ≤ c0_8) (hr0_9 : Kd.C k53 w A0_9 l0_9.length l0_9) (hc0_9 : l0_9.length ≤ c0_9) (h : packet_Right.f k a0_0 a0_1 a0_2 a0_3 a0_4 a0_5 a0_6 a0_7 l0_8 l0_9 = some r) :
  Calls Tryd.prog 5 #[.agg #[.int .i64 a0_0, .int .u32 a0_1, .int .i64 a0_2, .int .i64 a0_3, .int .u32 a0_4, .int .u32 a0_5, .int .u32 a0_6, .int .u32 a0_7, .slice A0_8 l0_8.length c0_8, .slice A0_9 l0_9.length c0_9]] w fun e w' => e = .returned (.bool r) ∧ Below w.heap.size w w' := by
 have hu27 := Tryd.underlying27
 have HR0_8 := Aside0.mk hr0_8
 have HC0_8 := Aside0.mk hc0_8
 clear hr0_8 hc0_8
 have HR0_9 := Aside0.mk hr0_9
 have HC0_9 := Aside0.mk hc0_9
 clear hr0_9 hc0_9
 have HB := Aside0.mk (Below.refl w.heap.size w)
 have H : ((option_Encode.f k l0_9).bind fun bt121 => (if a0_0 = 1 then (packet_Right.j0 k bt121.2 false a0_0 a0_1 a0_2 a0_3 a0_4 a0_5 a0_6 a0_7 l0_8 l0_9) else (packet_Right.j0 k bt121.2 (a0_0 != 2) a0_0 a0_1 a0_2 a0_3 a0_4 a0_5 a0_6 a0_7 l0_8 l0_9))) = some r := h
 clear h
 replace H := Option.bind_eq_some_iff.mp H
 obtain ⟨⟨t121, t122⟩, A20, H⟩ := H
 replace H : (if a0_0 = 1 then (packet_Right.j0 k t122 false a0_0 a0_1 a0_2 a0_3 a0_4 a0_5 a0_6 a0_7 l0_8 l0_9) else (packet_Right.j0 k t122 (a0_0 != 2) a0_0 a0_1 a0_2 a0_3 a0_4 a0_5 a0_6 a0_7 l0_8 l0_9)) = some r := H
 have A2 := Aside0.mk A20
 clear A20
 have HC3 := Aside0.mk H
 clear H
 go_enter Tryd.func5, Tryd.ntmps5
 go_upto_region 2 with (first | ((with_reducible refine gate_dst (N := 1) rfl ?_); (try (refine gate_guard (by rfl) ?_; dsimp only)); refine box_event ?hg_1 (N := 1) ?hd_1 (cs := #[.int .i64 a0_0, .int .u32 a0_1, .int .i64 a0_2, .int .i64 a0_3, .int .u32 a0_4, .int .u32 a0_5, .int .u32 a0_6, .int .u32 a0_7, .slice A0_8 l0_8.length c0_8, .slice A0_9 l0_9.length c0_9]) (t := 27) ?hr_1 ?_; (case hd_1 => rfl); (case hg_1 => rfl); (case hr_1 => first | (go_simp; done) | (go_simp; rfl)); intro gb120 hg w4 hbox hb; have n0_ := Aside0.mk (below_step (by repeat (first | (with_reducible first | exact HB.out | apply below_alloc | apply pw_below_drewN | apply below_drew1) | exact HB.out)) hb); have n1_ := Aside0.mk (hbox); have n2_ := Aside0.mk ((by rw [hg]; exact (below_size (by repeat (first | (with_reducible first | exact HB.out | apply below_alloc | apply pw_below_drewN | apply below_drew1) | exact HB.out))) : w.heap.size ≤ gb120)); have n3_ := Aside0.mk ((by rw [hg]; exact (below_size (by repeat (first | (with_reducible first | exact HB.out | apply below_alloc | apply pw_below_drewN | apply below_drew1) | exact HB.out))) : w.heap.size ≤ gb120)); clear HB; have HB := n0_; have BK120 := n1_; have GW120 := n2_; have GE120 := n3_; clear n0_ n1_ n2_ n3_; clear hb hbox hg; have hcz5_0 : w4.cell? ⟨gb120, 0, none⟩ = some (.int .i64 a0_0) := (blk_cell BK120.out 0).trans rfl; have hcz5_1 : w4.cell? ⟨gb120, 1, none⟩ = some (.int .u32 a0_1) := (blk_cell BK120.out 1).trans rfl; have hcz5_2 : w4.cell? ⟨gb120, 2, none⟩ = some (.int .i64 a0_2) := (blk_cell BK120.out 2).trans rfl; have hcz5_3 : w4.cell? ⟨gb120, 3, none⟩ = some (.int .i64 a0_3) := (blk_cell BK120.out 3).trans rfl; have hcz5_4 : w4.cell? ⟨gb120, 4, none⟩ = some (.int .u32 a0_4) := (blk_cell BK120.out 4).trans rfl; have hcz5_5 : w4.cell? ⟨gb120, 5, none⟩ = some (.int .u32 a0_5) := (blk_cell BK120.out 5).trans rfl; have hcz5_6 : w4.cell? ⟨gb120, 6, none⟩ = some (.int .u32 a0_6) := (blk_cell BK120.out 6).trans rfl; have hcz5_7 : w4.cell? ⟨gb120, 7, none⟩ = some (.int .u32 a0_7) := (blk_cell BK120.out 7).trans rfl; have hcz5_8 : w4.cell? ⟨gb120, 8, none⟩ = some (.slice A0_8 l0_8.length c0_8) := (blk_cell BK120.out 8).trans rfl; have hcz5_9 : w4.cell? ⟨gb120, 9, none⟩ = some (.slice A0_9 l0_9.length c0_9) := (blk_cell BK120.out 9).trans rfl; have hfz5_0 := blk_frozen BK120.out 0; have hfz5_1 := blk_frozen BK120.out 1; have hfz5_2 := blk_frozen BK120.out 2; have hfz5_3 := blk_frozen BK120.out 3; have hfz5_4 := blk_frozen BK120.out 4; have hfz5_5 := blk_frozen BK120.out 5; have hfz5_6 := blk_frozen BK120.out 6; have hfz5_7 := blk_frozen BK120.out 7; have hfz5_8 := blk_frozen BK120.out 8; have hfz5_9 := blk_frozen BK120.out 9) | ((with_reducible refine gate_callee (f := 15) rfl ?_); refine goesL_ (some 8) rfl rfl Tryd.func15 (by kernel_rfl) rfl #[.slice A0_9 l0_9.length c0_9] rfl (by (try simp only [List.map_toArray, List.map_cons, List.map_nil]); first | done | rfl | (simp only [List.length_drop, List.length_take]; rfl)) ?_; (with_reducible refine (option_Encode.calls k _ _ l0_9 t121 t122 _ ?side1_2 ?side2_2 A2.out).mono ?_); (case side1_2 => repeat (first | exact (Kd.C_below HR0_9.out HB.out) | exact (Kd.C_below (Aside0.out (by assumption)) HB.out) | (with_reducible refine Kd.C_alloc ?_ _) | (with_reducible refine Kd.C_drewN ?_ _) | (with_reducible refine Kd.C_drew ?_))); (case side2_2 => exact HC0_9.out); rintro e w6 ⟨v123, rfl, ho0, hb⟩; refine ⟨_, rfl, ?_⟩; have n0_ := Aside0.mk (Kd.R_lower ho0 (below_size (by repeat (first | (with_reducible first | exact HB.out | apply below_alloc | apply pw_below_drewN | apply below_drew1 | refine below_set ?_ GE120.out) | exact HB.out)))); have n1_ := Aside0.mk (blk_below (g := gb120) (o := .cells #[.int .i64 a0_0, .int .u32 a0_1, .int .i64 a0_2, .int .i64 a0_3, .int .u32 a0_4, .int .u32 a0_5, .int .u32 a0_6, .int .u32 a0_7, .slice A0_8 l0_8.length c0_8, .slice A0_9 l0_9.length c0_9] 27 (0, 0)) (by (with_reducible repeat (first | refine blk_drewN ?_ _ | refine blk_drew ?_ | refine blk_alloc ?_ _)); exact BK120.out) hb); have n2_ := Aside0.mk (below_step (by repeat (first | (with_reducible first | exact HB.out | apply below_alloc | apply pw_below_drewN | apply below_drew1 | refine below_set ?_ GE120.out) | exact HB.out)) hb); clear BK120; clear HB; have HO124 := n0_; have BK120 := n1_; have HB := n2_; clear n0_ n1_ n2_; (try clear hb); (try clear hb2); (try clear hk); (try clear hi); (try clear ho0)))
 (try simp only [Act.put, List.setIfInBounds_toArray, List.set_cons_zero, List.set_cons_succ])
 go_cut [11] (fun v11 wc => ∃ (kq : Nat) (x11_2 : Bool), v11 = .bool x11_2 ∧ Aside0 (packet_Right.j0 kq t122 x11_2 a0_0 a0_1 a0_2 a0_3 a0_4 a0_5 a0_6 a0_7 l0_8 l0_9 = some r) ∧ Aside0 (kq ≤ k) ∧ Aside0 (wc.heap[gb120]? = some (.cells #[.int .i64 a0_0, .int .u32 a0_1, .int .i64 a0_2, .int .i64 a0_3, .int .u32 a0_4, .int .u32 a0_5, .int .u32 a0_6, .int .u32 a0_7, (.slice A0_8 l0_8.length c0_8), (.slice A0_9 l0_9.length c0_9)] 27 (0, 0))) ∧ Aside0 (Below w.heap.size w wc))
 case first =>
  have H := HC3.out
  clear HC3
  by_cases c7 : a0_0 = 1
  ·rw [if_pos c7] at H
   have c7b0 : (a0_0 == 1) = true := beq_iff_eq.mpr c7
   have c7b1 : (a0_0 != 1) = false := bne_eq_false_iff_eq.mpr c7
   clear c7
   (first | rw [c7b0] | (simp only [i64_w, i32_w]; rw [c7b0]) | skip)
   have H' := Aside0.mk H
   clear H
   have hcz8_0 : w6.cell? ⟨gb120, 0, none⟩ = some (.int .i64 a0_0) := (blk_cell BK120.out 0).trans rfl
   have hcz8_1 : w6.cell? ⟨gb120, 1, none⟩ = some (.int .u32 a0_1) := (blk_cell BK120.out 1).trans rfl
   have hcz8_2 : w6.cell? ⟨gb120, 2, none⟩ = some (.int .i64 a0_2) := (blk_cell BK120.out 2).trans rfl
   have hcz8_3 : w6.cell? ⟨gb120, 3, none⟩ = some (.int .i64 a0_3) := (blk_cell BK120.out 3).trans rfl
   have hcz8_4 : w6.cell? ⟨gb120, 4, none⟩ = some (.int .u32 a0_4) := (blk_cell BK120.out 4).trans rfl
   have hcz8_5 : w6.cell? ⟨gb120, 5, none⟩ = some (.int .u32 a0_5) := (blk_cell BK120.out 5).trans rfl
   have hcz8_6 : w6.cell? ⟨gb120, 6, none⟩ = some (.int .u32 a0_6) := (blk_cell BK120.out 6).trans rfl
   have hcz8_7 : w6.cell? ⟨gb120, 7, none⟩ = some (.int .u32 a0_7) := (blk_cell BK120.out 7).trans rfl
   have hcz8_8 : w6.cell? ⟨gb120, 8, none⟩ = some (.slice A0_8 l0_8.length c0_8) := (blk_cell BK120.out 8).trans rfl
   have hcz8_9 : w6.cell? ⟨gb120, 9, none⟩ = some (.slice A0_9 l0_9.length c0_9) := (blk_cell BK120.out 9).trans rfl
   have hfz8_0 := blk_frozen BK120.out 0
   have hfz8_1 := blk_frozen BK120.out 1
   have hfz8_2 := blk_frozen BK120.out 2
   have hfz8_3 := blk_frozen BK120.out 3
   have hfz8_4 := blk_frozen BK120.out 4
   have hfz8_5 := blk_frozen BK120.out 5
   have hfz8_6 := blk_frozen BK120.out 6
   have hfz8_7 := blk_frozen BK120.out 7
   have hfz8_8 := blk_frozen BK120.out 8
   have hfz8_9 := blk_frozen BK120.out 9
   go_wp2
   go_meet
   case rel => exact ⟨_, (false), (by first | rfl | (simp; done) | (simp [*]; done)), H', ⟨by first | omega | exact Nat.le_refl _⟩, ⟨by (with_reducible repeat (first | refine blk_drewN ?_ _ | refine blk_drew ?_ | refine blk_alloc ?_ _)); exact BK120.out⟩, ⟨by repeat (first | (with_reducible first | exact HB.out | apply below_alloc | apply pw_below_drewN | apply below_drew1 | refine below_set ?_ GE120.out) | exact HB.out)⟩⟩
  ·rw [if_neg c7] at H
   have c7b0 : (a0_0 == 1) = false := beq_eq_false_iff_ne.mpr c7
   have c7b1 : (a0_0 != 1) = true := bne_iff_ne.mpr c7
   (first | rw [c7b0] | (simp only [i64_w, i32_w]; rw [c7b0]) | skip)
   have H' := Aside0.mk H
   clear H
   have hcz9_0 : w6.cell? ⟨gb120, 0, none⟩ = some (.int .i64 a0_0) := (blk_cell BK120.out 0).trans rfl
   have hcz9_1 : w6.cell? ⟨gb120, 1, none⟩ = some (.int .u32 a0_1) := (blk_cell BK120.out 1).trans rfl
   have hcz9_2 : w6.cell? ⟨gb120, 2, none⟩ = some (.int .i64 a0_2) := (blk_cell BK120.out 2).trans rfl
   have hcz9_3 : w6.cell? ⟨gb120, 3, none⟩ = some (.int .i64 a0_3) := (blk_cell BK120.out 3).trans rfl
   have hcz9_4 : w6.cell? ⟨gb120, 4, none⟩ = some (.int .u32 a0_4) := (blk_cell BK120.out 4).trans rfl
   have hcz9_5 : w6.cell? ⟨gb120, 5, none⟩ = some (.int .u32 a0_5) := (blk_cell BK120.out 5).trans rfl
   have hcz9_6 : w6.cell? ⟨gb120, 6, none⟩ = some (.int .u32 a0_6) := (blk_cell BK120.out 6).trans rfl
   have hcz9_7 : w6.cell? ⟨gb120, 7, none⟩ = some (.int .u32 a0_7) := (blk_cell BK120.out 7).trans rfl
   have hcz9_8 : w6.cell? ⟨gb120, 8, none⟩ = some (.slice A0_8 l0_8.length c0_8) := (blk_cell BK120.out 8).trans rfl
   have hcz9_9 : w6.cell? ⟨gb120, 9, none⟩ = some (.slice A0_9 l0_9.length c0_9) := (blk_cell BK120.out 9).trans rfl
   have hfz9_0 := blk_frozen BK120.out 0
   have hfz9_1 := blk_frozen BK120.out 1
   have hfz9_2 := blk_frozen BK120.out 2
   have hfz9_3 := blk_frozen BK120.out 3
   have hfz9_4 := blk_frozen BK120.out 4
   have hfz9_5 := blk_frozen BK120.out 5
   have hfz9_6 := blk_frozen BK120.out 6
   have hfz9_7 := blk_frozen BK120.out 7
   have hfz9_8 := blk_frozen BK120.out 8
   have hfz9_9 := blk_frozen BK120.out 9
   go_wp2
   go_meet
   case rel => exact ⟨_, ((a0_0 != 2)), (by first | rfl | (simp; done) | (simp [*]; done)), H', ⟨by first | omega | exact Nat.le_refl _⟩, ⟨by (with_reducible repeat (first | refine blk_drewN ?_ _ | refine blk_drew ?_ | refine blk_alloc ?_ _)); exact BK120.out⟩, ⟨by repeat (first | (with_reducible first | exact HB.out | apply below_alloc | apply pw_below_drewN | apply below_drew1 | refine below_set ?_ GE120.out) | exact HB.out)⟩⟩
 case rest =>
  clear HC3
  try clear c1
  try clear p2
  try clear c5
  try clear c7
  try clear c7b0
  try clear c7b1
  try clear hcz5_0
  try clear hcz5_1
  try clear hcz5_2
  try clear hcz5_3
  try clear hcz5_4
  try clear hcz5_5
  try clear hcz5_6
  try clear hcz5_7
  try clear hcz5_8
  try clear hcz5_9
  try clear hcz8_0
  try clear hcz8_1
  try clear hcz8_2
  try clear hcz8_3
  try clear hcz8_4
  try clear hcz8_5
  try clear hcz8_6
  try clear hcz8_7
  try clear hcz8_8
  try clear hcz8_9
  try clear hcz9_0
  try clear hcz9_1
  try clear hcz9_2
  try clear hcz9_3
  try clear hcz9_4
  try clear hcz9_5
  try clear hcz9_6
  try clear hcz9_7
  try clear hcz9_8
  try clear hcz9_9
  try clear hfz5_0
  try clear hfz5_1
  try clear hfz5_2
  try clear hfz5_3
  try clear hfz5_4
  try clear hfz5_5
  try clear hfz5_6
  try clear hfz5_7
  try clear hfz5_8
  try clear hfz5_9
  try clear hfz8_0
  try clear hfz8_1
  try clear hfz8_2
  try clear hfz8_3
  try clear hfz8_4
  try clear hfz8_5
  try clear hfz8_6
  try clear hfz8_7
  try clear hfz8_8
  try clear hfz8_9
  try clear hfz9_0
  try clear hfz9_1
  try clear hfz9_2
  try clear hfz9_3
  try clear hfz9_4
  try clear hfz9_5
  try clear hfz9_6
  try clear hfz9_7
  try clear hfz9_8
  try clear hfz9_9
  obtain ⟨kq, x11_2, rfl, HA, HJ2, BK120, HB⟩ := hcut
  cases kq with
  | zero => exact absurd HA.out (by simp [packet_Right.j0])
  | succ kj2 =>
   have H := HA.out
   clear HA
   simp only [packet_Right.j0] at H
   by_cases c10 : x11_2 = true
   ·subst c10
    have H1 : (some false) = some r := by rw [if_pos rfl] at H; exact H
    clear H
    have H := H1
    clear H1
    obtain rfl := Option.some.inj H
    go_wp2
    go_ret
    exact ⟨by first | rfl | (simp [errW_none, errW_some] <;> rfl) | (simp [*, errW_none, errW_some] <;> rfl), by repeat (first | (with_reducible first | exact HB.out | apply below_alloc | apply pw_below_drewN | apply below_drew1 | refine below_set ?_ GE120.out) | exact HB.out)⟩
   ·replace c10 := Bool.eq_false_iff.mpr c10
    subst c10
    have H1 : (if (l0_8.length : Int) < 1 then (some false) else (if (l0_8.length : Int) > 16 then (some false) else (if a0_2 ≥ 0 then (if a0_2 ≤ 65535 then (if a0_3 ≥ 0 then (if a0_3 ≤ 65535 then (some (t122 == 0)) else (some false)) else (some false)) else (some false)) else (some false)))) = some r := by rw [if_neg (show ¬ (false = true) by decide)] at H; exact H
    clear H
    have H := H1
    clear H1
    by_cases c11 : (l0_8.length : Int) < 1
    ·rw [if_pos c11] at H
     have c11b0 : decide ((l0_8.length : Int) < 1) = true := decide_eq_true c11
     have c11b1 : decide (l0_8.length < 1) = true := decide_eq_true (by omega)
     clear c11
     obtain rfl := Option.some.inj H
     have hcz12_0 : wc.cell? ⟨gb120, 0, none⟩ = some (.int .i64 a0_0) := (blk_cell BK120.out 0).trans rfl
     have hcz12_1 : wc.cell? ⟨gb120, 1, none⟩ = some (.int .u32 a0_1) := (blk_cell BK120.out 1).trans rfl
     have hcz12_2 : wc.cell? ⟨gb120, 2, none⟩ = some (.int .i64 a0_2) := (blk_cell BK120.out 2).trans rfl
     have hcz12_3 : wc.cell? ⟨gb120, 3, none⟩ = some (.int .i64 a0_3) := (blk_cell BK120.out 3).trans rfl
     have hcz12_4 : wc.cell? ⟨gb120, 4, none⟩ = some (.int .u32 a0_4) := (blk_cell BK120.out 4).trans rfl
     have hcz12_5 : wc.cell? ⟨gb120, 5, none⟩ = some (.int .u32 a0_5) := (blk_cell BK120.out 5).trans rfl
     have hcz12_6 : wc.cell? ⟨gb120, 6, none⟩ = some (.int .u32 a0_6) := (blk_cell BK120.out 6).trans rfl
     have hcz12_7 : wc.cell? ⟨gb120, 7, none⟩ = some (.int .u32 a0_7) := (blk_cell BK120.out 7).trans rfl
     have hcz12_8 : wc.cell? ⟨gb120, 8, none⟩ = some (.slice A0_8 l0_8.length c0_8) := (blk_cell BK120.out 8).trans rfl
     have hcz12_9 : wc.cell? ⟨gb120, 9, none⟩ = some (.slice A0_9 l0_9.length c0_9) := (blk_cell BK120.out 9).trans rfl
     have hfz12_0 := blk_frozen BK120.out 0
     have hfz12_1 := blk_frozen BK120.out 1
     have hfz12_2 := blk_frozen BK120.out 2
     have hfz12_3 := blk_frozen BK120.out 3
     have hfz12_4 := blk_frozen BK120.out 4
     have hfz12_5 := blk_frozen BK120.out 5
     have hfz12_6 := blk_frozen BK120.out 6
     have hfz12_7 := blk_frozen BK120.out 7
     have hfz12_8 := blk_frozen BK120.out 8
     have hfz12_9 := blk_frozen BK120.out 9
     go_wp2
     go_ret
     exact ⟨by first | rfl | (simp [errW_none, errW_some] <;> rfl) | (simp [*, errW_none, errW_some] <;> rfl), by repeat (first | (with_reducible first | exact HB.out | apply below_alloc | apply pw_below_drewN | apply below_drew1 | refine below_set ?_ GE120.out) | exact HB.out)⟩
    ·rw [if_neg c11] at H
     have c11b0 : decide ((l0_8.length : Int) < 1) = false := decide_eq_false c11
     have c11b1 : decide (l0_8.length < 1) = false := decide_eq_false (by omega)
     clear c11
     by_cases c13 : (l0_8.length : Int) > 16
     ·rw [if_pos c13] at H
      have c13b0 : decide (16 < (l0_8.length : Int)) = true := decide_eq_true c13
      have c13b1 : decide (16 < l0_8.length) = true := decide_eq_true (by omega)
      clear c13
      obtain rfl := Option.some.inj H
      have hcz14_0 : wc.cell? ⟨gb120, 0, none⟩ = some (.int .i64 a0_0) := (blk_cell BK120.out 0).trans rfl
      have hcz14_1 : wc.cell? ⟨gb120, 1, none⟩ = some (.int .u32 a0_1) := (blk_cell BK120.out 1).trans rfl
      have hcz14_2 : wc.cell? ⟨gb120, 2, none⟩ = some (.int .i64 a0_2) := (blk_cell BK120.out 2).trans rfl
      have hcz14_3 : wc.cell? ⟨gb120, 3, none⟩ = some (.int .i64 a0_3) := (blk_cell BK120.out 3).trans rfl
      have hcz14_4 : wc.cell? ⟨gb120, 4, none⟩ = some (.int .u32 a0_4) := (blk_cell BK120.out 4).trans rfl
      have hcz14_5 : wc.cell? ⟨gb120, 5, none⟩ = some (.int .u32 a0_5) := (blk_cell BK120.out 5).trans rfl
      have hcz14_6 : wc.cell? ⟨gb120, 6, none⟩ = some (.int .u32 a0_6) := (blk_cell BK120.out 6).trans rfl
      have hcz14_7 : wc.cell? ⟨gb120, 7, none⟩ = some (.int .u32 a0_7) := (blk_cell BK120.out 7).trans rfl
      have hcz14_8 : wc.cell? ⟨gb120, 8, none⟩ = some (.slice A0_8 l0_8.length c0_8) := (blk_cell BK120.out 8).trans rfl
      have hcz14_9 : wc.cell? ⟨gb120, 9, none⟩ = some (.slice A0_9 l0_9.length c0_9) := (blk_cell BK120.out 9).trans rfl
      have hfz14_0 := blk_frozen BK120.out 0
      have hfz14_1 := blk_frozen BK120.out 1
      have hfz14_2 := blk_frozen BK120.out 2
      have hfz14_3 := blk_frozen BK120.out 3
      have hfz14_4 := blk_frozen BK120.out 4
      have hfz14_5 := blk_frozen BK120.out 5
      have hfz14_6 := blk_frozen BK120.out 6
      have hfz14_7 := blk_frozen BK120.out 7
      have hfz14_8 := blk_frozen BK120.out 8
      have hfz14_9 := blk_frozen BK120.out 9
      go_wp2
      go_ret
      exact ⟨by first | rfl | (simp [errW_none, errW_some] <;> rfl) | (simp [*, errW_none, errW_some] <;> rfl), by repeat (first | (with_reducible first | exact HB.out | apply below_alloc | apply pw_below_drewN | apply below_drew1 | refine below_set ?_ GE120.out) | exact HB.out)⟩
     ·rw [if_neg c13] at H
      have c13b0 : decide (16 < (l0_8.length : Int)) = false := decide_eq_false c13
      have c13b1 : decide (16 < l0_8.length) = false := decide_eq_false (by omega)
      clear c13
      by_cases c15 : a0_2 ≥ 0
      ·rw [if_pos c15] at H
       have c15b0 : decide (0 ≤ a0_2) = true := decide_eq_true c15
       clear c15
       by_cases c16 : a0_2 ≤ 65535
       ·rw [if_pos c16] at H
        have c16b0 : decide (a0_2 ≤ 65535) = true := decide_eq_true c16
        clear c16
        by_cases c17 : a0_3 ≥ 0
        ·rw [if_pos c17] at H
         have c17b0 : decide (0 ≤ a0_3) = true := decide_eq_true c17
         clear c17
         by_cases c18 : a0_3 ≤ 65535
         ·rw [if_pos c18] at H
          have c18b0 : decide (a0_3 ≤ 65535) = true := decide_eq_true c18
          clear c18
          obtain rfl := Option.some.inj H
          have hcz19_0 : wc.cell? ⟨gb120, 0, none⟩ = some (.int .i64 a0_0) := (blk_cell BK120.out 0).trans rfl
          have hcz19_1 : wc.cell? ⟨gb120, 1, none⟩ = some (.int .u32 a0_1) := (blk_cell BK120.out 1).trans rfl
          have hcz19_2 : wc.cell? ⟨gb120, 2, none⟩ = some (.int .i64 a0_2) := (blk_cell BK120.out 2).trans rfl
          have hcz19_3 : wc.cell? ⟨gb120, 3, none⟩ = some (.int .i64 a0_3) := (blk_cell BK120.out 3).trans rfl
          have hcz19_4 : wc.cell? ⟨gb120, 4, none⟩ = some (.int .u32 a0_4) := (blk_cell BK120.out 4).trans rfl
          have hcz19_5 : wc.cell? ⟨gb120, 5, none⟩ = some (.int .u32 a0_5) := (blk_cell BK120.out 5).trans rfl
          have hcz19_6 : wc.cell? ⟨gb120, 6, none⟩ = some (.int .u32 a0_6) := (blk_cell BK120.out 6).trans rfl
          have hcz19_7 : wc.cell? ⟨gb120, 7, none⟩ = some (.int .u32 a0_7) := (blk_cell BK120.out 7).trans rfl
          have hcz19_8 : wc.cell? ⟨gb120, 8, none⟩ = some (.slice A0_8 l0_8.length c0_8) := (blk_cell BK120.out 8).trans rfl
          have hcz19_9 : wc.cell? ⟨gb120, 9, none⟩ = some (.slice A0_9 l0_9.length c0_9) := (blk_cell BK120.out 9).trans rfl
          have hfz19_0 := blk_frozen BK120.out 0
          have hfz19_1 := blk_frozen BK120.out 1
          have hfz19_2 := blk_frozen BK120.out 2
          have hfz19_3 := blk_frozen BK120.out 3
          have hfz19_4 := blk_frozen BK120.out 4
          have hfz19_5 := blk_frozen BK120.out 5
          have hfz19_6 := blk_frozen BK120.out 6
          have hfz19_7 := blk_frozen BK120.out 7
          have hfz19_8 := blk_frozen BK120.out 8
          have hfz19_9 := blk_frozen BK120.out 9
          go_wp2
          go_ret
          exact ⟨by first | rfl | (simp [errW_none, errW_some] <;> rfl) | (simp [*, errW_none, errW_some] <;> rfl), by repeat (first | (with_reducible first | exact HB.out | apply below_alloc | apply pw_below_drewN | apply below_drew1 | refine below_set ?_ GE120.out) | exact HB.out)⟩
         ·rw [if_neg c18] at H
          have c18b0 : decide (a0_3 ≤ 65535) = false := decide_eq_false c18
          clear c18
          obtain rfl := Option.some.inj H
          have hcz20_0 : wc.cell? ⟨gb120, 0, none⟩ = some (.int .i64 a0_0) := (blk_cell BK120.out 0).trans rfl
          have hcz20_1 : wc.cell? ⟨gb120, 1, none⟩ = some (.int .u32 a0_1) := (blk_cell BK120.out 1).trans rfl
          have hcz20_2 : wc.cell? ⟨gb120, 2, none⟩ = some (.int .i64 a0_2) := (blk_cell BK120.out 2).trans rfl
          have hcz20_3 : wc.cell? ⟨gb120, 3, none⟩ = some (.int .i64 a0_3) := (blk_cell BK120.out 3).trans rfl
          have hcz20_4 : wc.cell? ⟨gb120, 4, none⟩ = some (.int .u32 a0_4) := (blk_cell BK120.out 4).trans rfl
          have hcz20_5 : wc.cell? ⟨gb120, 5, none⟩ = some (.int .u32 a0_5) := (blk_cell BK120.out 5).trans rfl
          have hcz20_6 : wc.cell? ⟨gb120, 6, none⟩ = some (.int .u32 a0_6) := (blk_cell BK120.out 6).trans rfl
          have hcz20_7 : wc.cell? ⟨gb120, 7, none⟩ = some (.int .u32 a0_7) := (blk_cell BK120.out 7).trans rfl
          have hcz20_8 : wc.cell? ⟨gb120, 8, none⟩ = some (.slice A0_8 l0_8.length c0_8) := (blk_cell BK120.out 8).trans rfl
          have hcz20_9 : wc.cell? ⟨gb120, 9, none⟩ = some (.slice A0_9 l0_9.length c0_9) := (blk_cell BK120.out 9).trans rfl
          have hfz20_0 := blk_frozen BK120.out 0
          have hfz20_1 := blk_frozen BK120.out 1
          have hfz20_2 := blk_frozen BK120.out 2
          have hfz20_3 := blk_frozen BK120.out 3
          have hfz20_4 := blk_frozen BK120.out 4
          have hfz20_5 := blk_frozen BK120.out 5
          have hfz20_6 := blk_frozen BK120.out 6
          have hfz20_7 := blk_frozen BK120.out 7
          have hfz20_8 := blk_frozen BK120.out 8
          have hfz20_9 := blk_frozen BK120.out 9
          go_wp2
          go_ret
          exact ⟨by first | rfl | (simp [errW_none, errW_some] <;> rfl) | (simp [*, errW_none, errW_some] <;> rfl), by repeat (first | (with_reducible first | exact HB.out | apply below_alloc | apply pw_below_drewN | apply below_drew1 | refine below_set ?_ GE120.out) | exact HB.out)⟩
        ·rw [if_neg c17] at H
         have c17b0 : decide (0 ≤ a0_3) = false := decide_eq_false c17
         clear c17
         obtain rfl := Option.some.inj H
         have hcz21_0 : wc.cell? ⟨gb120, 0, none⟩ = some (.int .i64 a0_0) := (blk_cell BK120.out 0).trans rfl
         have hcz21_1 : wc.cell? ⟨gb120, 1, none⟩ = some (.int .u32 a0_1) := (blk_cell BK120.out 1).trans rfl
         have hcz21_2 : wc.cell? ⟨gb120, 2, none⟩ = some (.int .i64 a0_2) := (blk_cell BK120.out 2).trans rfl
         have hcz21_3 : wc.cell? ⟨gb120, 3, none⟩ = some (.int .i64 a0_3) := (blk_cell BK120.out 3).trans rfl
         have hcz21_4 : wc.cell? ⟨gb120, 4, none⟩ = some (.int .u32 a0_4) := (blk_cell BK120.out 4).trans rfl
         have hcz21_5 : wc.cell? ⟨gb120, 5, none⟩ = some (.int .u32 a0_5) := (blk_cell BK120.out 5).trans rfl
         have hcz21_6 : wc.cell? ⟨gb120, 6, none⟩ = some (.int .u32 a0_6) := (blk_cell BK120.out 6).trans rfl
         have hcz21_7 : wc.cell? ⟨gb120, 7, none⟩ = some (.int .u32 a0_7) := (blk_cell BK120.out 7).trans rfl
         have hcz21_8 : wc.cell? ⟨gb120, 8, none⟩ = some (.slice A0_8 l0_8.length c0_8) := (blk_cell BK120.out 8).trans rfl
         have hcz21_9 : wc.cell? ⟨gb120, 9, none⟩ = some (.slice A0_9 l0_9.length c0_9) := (blk_cell BK120.out 9).trans rfl
         have hfz21_0 := blk_frozen BK120.out 0
         have hfz21_1 := blk_frozen BK120.out 1
         have hfz21_2 := blk_frozen BK120.out 2
         have hfz21_3 := blk_frozen BK120.out 3
         have hfz21_4 := blk_frozen BK120.out 4
         have hfz21_5 := blk_frozen BK120.out 5
         have hfz21_6 := blk_frozen BK120.out 6
         have hfz21_7 := blk_frozen BK120.out 7
         have hfz21_8 := blk_frozen BK120.out 8
         have hfz21_9 := blk_frozen BK120.out 9
         go_wp2
         go_ret
         exact ⟨by first | rfl | (simp [errW_none, errW_some] <;> rfl) | (simp [*, errW_none, errW_some] <;> rfl), by repeat (first | (with_reducible first | exact HB.out | apply below_alloc | apply pw_below_drewN | apply below_drew1 | refine below_set ?_ GE120.out) | exact HB.out)⟩
       ·rw [if_neg c16] at H
        have c16b0 : decide (a0_2 ≤ 65535) = false := decide_eq_false c16
        clear c16
        obtain rfl := Option.some.inj H
        have hcz22_0 : wc.cell? ⟨gb120, 0, none⟩ = some (.int .i64 a0_0) := (blk_cell BK120.out 0).trans rfl
        have hcz22_1 : wc.cell? ⟨gb120, 1, none⟩ = some (.int .u32 a0_1) := (blk_cell BK120.out 1).trans rfl
        have hcz22_2 : wc.cell? ⟨gb120, 2, none⟩ = some (.int .i64 a0_2) := (blk_cell BK120.out 2).trans rfl
        have hcz22_3 : wc.cell? ⟨gb120, 3, none⟩ = some (.int .i64 a0_3) := (blk_cell BK120.out 3).trans rfl
        have hcz22_4 : wc.cell? ⟨gb120, 4, none⟩ = some (.int .u32 a0_4) := (blk_cell BK120.out 4).trans rfl
        have hcz22_5 : wc.cell? ⟨gb120, 5, none⟩ = some (.int .u32 a0_5) := (blk_cell BK120.out 5).trans rfl
        have hcz22_6 : wc.cell? ⟨gb120, 6, none⟩ = some (.int .u32 a0_6) := (blk_cell BK120.out 6).trans rfl
        have hcz22_7 : wc.cell? ⟨gb120, 7, none⟩ = some (.int .u32 a0_7) := (blk_cell BK120.out 7).trans rfl
        have hcz22_8 : wc.cell? ⟨gb120, 8, none⟩ = some (.slice A0_8 l0_8.length c0_8) := (blk_cell BK120.out 8).trans rfl
        have hcz22_9 : wc.cell? ⟨gb120, 9, none⟩ = some (.slice A0_9 l0_9.length c0_9) := (blk_cell BK120.out 9).trans rfl
        have hfz22_0 := blk_frozen BK120.out 0
        have hfz22_1 := blk_frozen BK120.out 1
        have hfz22_2 := blk_frozen BK120.out 2
        have hfz22_3 := blk_frozen BK120.out 3
        have hfz22_4 := blk_frozen BK120.out 4
        have hfz22_5 := blk_frozen BK120.out 5
        have hfz22_6 := blk_frozen BK120.out 6
        have hfz22_7 := blk_frozen BK120.out 7
        have hfz22_8 := blk_frozen BK120.out 8
        have hfz22_9 := blk_frozen BK120.out 9
        go_wp2
        go_ret
        exact ⟨by first | rfl | (simp [errW_none, errW_some] <;> rfl) | (simp [*, errW_none, errW_some] <;> rfl), by repeat (first | (with_reducible first | exact HB.out | apply below_alloc | apply pw_below_drewN | apply below_drew1 | refine below_set ?_ GE120.out) | exact HB.out)⟩
      ·rw [if_neg c15] at H
       have c15b0 : decide (0 ≤ a0_2) = false := decide_eq_false c15
       clear c15
       obtain rfl := Option.some.inj H
       have hcz23_0 : wc.cell? ⟨gb120, 0, none⟩ = some (.int .i64 a0_0) := (blk_cell BK120.out 0).trans rfl
       have hcz23_1 : wc.cell? ⟨gb120, 1, none⟩ = some (.int .u32 a0_1) := (blk_cell BK120.out 1).trans rfl
       have hcz23_2 : wc.cell? ⟨gb120, 2, none⟩ = some (.int .i64 a0_2) := (blk_cell BK120.out 2).trans rfl
       have hcz23_3 : wc.cell? ⟨gb120, 3, none⟩ = some (.int .i64 a0_3) := (blk_cell BK120.out 3).trans rfl
       have hcz23_4 : wc.cell? ⟨gb120, 4, none⟩ = some (.int .u32 a0_4) := (blk_cell BK120.out 4).trans rfl
       have hcz23_5 : wc.cell? ⟨gb120, 5, none⟩ = some (.int .u32 a0_5) := (blk_cell BK120.out 5).trans rfl
       have hcz23_6 : wc.cell? ⟨gb120, 6, none⟩ = some (.int .u32 a0_6) := (blk_cell BK120.out 6).trans rfl
       have hcz23_7 : wc.cell? ⟨gb120, 7, none⟩ = some (.int .u32 a0_7) := (blk_cell BK120.out 7).trans rfl
       have hcz23_8 : wc.cell? ⟨gb120, 8, none⟩ = some (.slice A0_8 l0_8.length c0_8) := (blk_cell BK120.out 8).trans rfl
       have hcz23_9 : wc.cell? ⟨gb120, 9, none⟩ = some (.slice A0_9 l0_9.length c0_9) := (blk_cell BK120.out 9).trans rfl
       have hfz23_0 := blk_frozen BK120.out 0
       have hfz23_1 := blk_frozen BK120.out 1
       have hfz23_2 := blk_frozen BK120.out 2
       have hfz23_3 := blk_frozen BK120.out 3
       have hfz23_4 := blk_frozen BK120.out 4
       have hfz23_5 := blk_frozen BK120.out 5
       have hfz23_6 := blk_frozen BK120.out 6
       have hfz23_7 := blk_frozen BK120.out 7
       have hfz23_8 := blk_frozen BK120.out 8
       have hfz23_9 := blk_frozen BK120.out 9
       go_wp2
       go_ret
       exact ⟨by first | rfl | (simp [errW_none, errW_some] <;> rfl) | (simp [*, errW_none, errW_some] <;> rfl), by repeat (first | (with_reducible first | exact HB.out | apply below_alloc | apply pw_below_drewN | apply below_drew1 | refine below_set ?_ GE120.out) | exact HB.out)⟩

end Go.Proofs.YtdpoknfidlekbaaDoor.Pr
end

section
-- written by a program of this session (wip/tools/gen.py) over the kit's print
namespace Go.Proofs.YtdpoknfidlekbaaDoor.Pr
open Go.RowKit Go.Proofs.YtdpoknfidlekbaaDoorW.PrintWords Go.Proofs.YtdpoknfidlekbaaDoorW.PrintLast Go.Proofs.YtdpoknfidlekbaaDoorW.PrintMore
attribute [local go_sem] max2_int min2_int max_two min_two max_three min_three max_four min_four   -- for this text's walks alone
set_option linter.unusedVariables false
set_option linter.unusedSimpArgs false

/-! ### packet_short: function 24 -/
def packet_short.f (l0 : List Int) (a1 : Int) : Option (List Int) := (some (([(a1 / 256) % 256, (a1) % 256] : List Int) : List Int)).bind fun y125 => (if l0.length + y125.length < 140737488355328 then (some (l0 ++ y125)) else (none))
set_option maxHeartbeats 8000000 in
set_option maxRecDepth 100000 in
theorem packet_short.calls (P0_ : Nat → Prop) (u9000_ : Value) (l0 : List Int) (a1 : Int) (r : List Int) (w0 w : World) (hB : Below w0.heap.size w0 w) (ho0 : Kd.R (Kd.int .u8) 5 w w0.heap.size P0_ u9000_ l0) (h : packet_short.f l0 a1 = some r) :
  Calls Tryd.prog 24 #[u9000_, .int .i64 a1] w fun e w' => ∃ v0_ : Value, e = .returned (v0_) ∧ Kd.R (Kd.int .u8) 5 w' w0.heap.size (fun k_ => (P0_ k_ ∨ w.heap.size ≤ k_)) v0_ r ∧ Below w0.heap.size w0 w' ∧ Kept w w' (fun k_ => P0_ k_) := by
 have HO0 := Aside0.mk (show Kd.R (Kd.int .u8) 5 w w0.heap.size (fun k_ => (P0_ k_ ∨ w.heap.size ≤ k_)) u9000_ l0 from Kd.R_mono ho0 (fun k_ hk => (.inl hk)))
 have HK := Aside0.mk (Kept.refl w (fun k_ => P0_ k_))
 have HW0 := Aside0.mk hB.size
 have HB := Aside0.mk hB
 clear hB
 have H : ((some (([(a1 / 256) % 256, (a1) % 256] : List Int) : List Int)).bind fun y125 => (if l0.length + y125.length < 140737488355328 then (some (l0 ++ y125)) else (none))) = some r := h
 clear h
 obtain ⟨y125, hy125⟩ : ∃ y_ : List Int, y_ = (([(a1 / 256) % 256, (a1) % 256] : List Int)) := ⟨_, rfl⟩
 replace H : (if l0.length + y125.length < 140737488355328 then (some (l0 ++ y125)) else (none)) = some r := by first | (rw [hy125]; with_reducible exact H) | (have H2_ := (Option.bind_some _ _).symm.trans H; rw [hy125]; with_reducible exact H2_) | (have H2_ := (Option.bind_some _ _).symm.trans H; with_reducible exact H2_) | with_reducible exact H | (rw [hy125]; exact H) | exact H
 have Ny125 := Aside0.mk hy125
 clear hy125
 by_cases c3 : l0.length + y125.length < 140737488355328
 ·rw [if_pos c3] at H
  have LMc3 := Aside0.mk c3
  clear c3
  obtain ⟨y128, hy128⟩ : ∃ y_ : List Int, y_ = (l0 ++ y125) := ⟨_, rfl⟩
  replace H : (some y128) = some r := by first | (rw [hy128]; with_reducible exact H) | (have H2_ := (Option.bind_some _ _).symm.trans H; rw [hy128]; with_reducible exact H2_) | (have H2_ := (Option.bind_some _ _).symm.trans H; with_reducible exact H2_) | with_reducible exact H | (rw [hy128]; exact H) | exact H
  have Ny128 := Aside0.mk hy128
  clear hy128
  obtain rfl := Option.some.inj H
  go_enter Tryd.func24, Tryd.ntmps24
  go_wp2_with (first | ((with_reducible refine gate_dst (N := 11) rfl ?_); refine Kd.R_lit (Kd.int .u8) _ 5 ?hg_1 (N := 11) ?hd_1 (xs := ([(a1 / 256) % 256, (a1) % 256] : List Int)) (inner := [.int .u8 ((a1 / 256) % 256), .int .u8 ((a1) % 256)]) (ok := fun _ => True) (okp := fun _ => True) ?hr_1 ?hp_1 (fun _ hk => hk) trivial (Below.refl _ _) (Nat.le_refl _) (by simp) ?_; (case hd_1 => rfl); (case hg_1 => rfl); (case hr_1 => first | (go_simp; done) | (go_simp; rfl)); (case hp_1 => exact (Reps.one (show Kd.M (Kd.int .u8) _ _ _ ((a1 / 256) % 256) [.int .u8 ((a1 / 256) % 256)] from rfl) (Reps.one (show Kd.M (Kd.int .u8) _ _ _ ((a1) % 256) [.int .u8 ((a1) % 256)] from rfl) (Reps.none _ _)))); intro v126 w4 ho5 hb hg_ hnew_; clear hg_ hnew_; (first | rw [← Ny125.out] at ho5 | (simp only [Int.reduceToNat] at ho5; rw [← Ny125.out] at ho5)); have n0_ := Aside0.mk (Kd.R_elder' (by (with_reducible repeat (first | apply Kd.R_alloc | apply Kd.R_drewN | apply Kd.R_drew)); exact HO0.out) (Kd.R_base ho5) hb); have n1_ := Aside0.mk (Kd.R_lower (Kd.R_new' (Kd.R_newM (M := fun k_ => (P0_ k_ ∨ w.heap.size ≤ k_)) ho5 (by first | exact HK.out.1 | exact (show Kept w _ (fun k_ => P0_ k_) from by repeat (first | (with_reducible first | exact HK.out | apply Kept.alloc | apply Kept.drewN | apply Kept.drew) | exact HK.out)).1) (fun k_ h_ => .inr h_)) (Kd.R_lt (by (with_reducible repeat (first | apply Kd.R_alloc | apply Kd.R_drewN | apply Kd.R_drew)); exact HO0.out))) (below_size (by repeat (first | (with_reducible first | exact HB.out | apply below_alloc | apply pw_below_drewN | apply below_drew1) | exact HB.out)))); have n2_ := Aside0.mk (Kept.below (S := (fun k_ => P0_ k_)) (by repeat (first | (with_reducible first | exact HK.out | apply Kept.alloc | apply Kept.drewN | apply Kept.drew) | exact HK.out)) hb); have n3_ := Aside0.mk (below_step (by repeat (first | (with_reducible first | exact HB.out | apply below_alloc | apply pw_below_drewN | apply below_drew1) | exact HB.out)) hb); clear HO0; clear HK; clear HB; have HO0 := n0_; have HO127 := n1_; have HK := n2_; have HB := n3_; clear n0_ n1_ n2_ n3_; clear hb ho5; obtain ⟨Ao7, co7, eo7⟩ := Kd.R_slice HO127.out; subst eo7) | ((with_reducible refine gate_builtin (b := .append) (xs := #[.tmp 5, .tmp 11]) rfl ?_); at_builtin; refine Kd.R_append_rows (Kd.int .u8) (w0 := w0) w0.heap.size rfl (.tmp 5) (.tmp 11) 24 5 (.int .u8 0) 1 rfl Tryd.underlying24 info5 rfl (by decide) (by omega) u9000_ l0 y125 _ _ _ (fun k_ => (P0_ k_ ∨ w.heap.size ≤ k_) ∧ some k_ ≠ (.slice Ao7 y125.length co7 : Value).ownBlock) (fun _ => False) rfl rfl ?aO_2 ?aR_2 (fun _ _ h => h) (fun _ h => h.elim) ?aF_2 ?aB_2 ?aS_2 ?aL_2 ?_; (case aR_2 => repeat (first | exact (Kd.R_reads' HO127.out).2.2 | (with_reducible refine Kd.C_alloc ?_ _) | (with_reducible refine Kd.C_drewN ?_ _) | (with_reducible refine Kd.C_drew ?_))); (case aB_2 => exact (by repeat (first | (with_reducible first | exact HB.out | apply below_alloc | apply pw_below_drewN | apply below_drew1) | exact HB.out))); (case aF_2 => exact (fun k_ hk => ⟨(.inr (Nat.le_trans (by first | exact HK.out.1 | exact (show Kept w _ (fun k_ => P0_ k_) from by repeat (first | (with_reducible first | exact HK.out | apply Kept.alloc | apply Kept.drewN | apply Kept.drew) | exact HK.out)).1) hk)), Kd.fresh' (Kd.R_lt (by (with_reducible repeat (first | apply Kd.R_alloc | apply Kd.R_drewN | apply Kd.R_drew)); exact HO127.out)) k_ hk⟩)); (case aO_2 => exact (by (with_reducible repeat (first | apply Kd.R_alloc | apply Kd.R_drewN | apply Kd.R_drew)); exact HO0.out)); (case aS_2 => exact (below_size (by repeat (first | (with_reducible first | exact HB.out | apply below_alloc | apply pw_below_drewN | apply below_drew1) | exact HB.out)))); (case aL_2 => have := LMc3.out; omega); intro v129 w6 ho hb hg hat; rw [← Ny128.out] at ho; have n0_ := Aside0.mk (Kd.R_after (ok := (fun k_ => (P0_ k_ ∨ w.heap.size ≤ k_))) (by (with_reducible repeat (first | apply Kd.R_alloc | apply Kd.R_drewN | apply Kd.R_drew)); exact Kd.R_mono HO127.out (fun _ hk => ⟨hk.1.1, hk.2⟩)) hg hat); have n1_ := Aside0.mk (hb); have n2_ := Aside0.mk (Kept.of_grown (S := (fun k_ => P0_ k_)) hg (by repeat (first | (with_reducible first | exact HK.out | apply Kept.alloc | apply Kept.drewN | apply Kept.drew) | exact HK.out)) (fun k_ e_ => (HO0.out.1 k_ e_).1)); have n3_ := Aside0.mk (ho); clear HO127; clear HB; clear HK; clear HO0; have HO127 := n0_; have HB := n1_; have HK := n2_; have HO130 := n3_; clear n0_ n1_ n2_ n3_; clear ho hb hg hat))
  go_ret
  exact ⟨_, by first | rfl | (simp [errW_none, errW_some] <;> rfl) | (simp [*, errW_none, errW_some] <;> rfl), by (with_reducible repeat (first | apply Kd.R_alloc | apply Kd.R_drewN | apply Kd.R_drew)); exact Kd.R_mono HO130.out (fun _ hk => hk.1), by repeat (first | (with_reducible first | exact HB.out | apply below_alloc | apply pw_below_drewN | apply below_drew1) | exact HB.out), by repeat (first | (with_reducible first | exact HK.out | apply Kept.alloc | apply Kept.drewN | apply Kept.drew) | exact HK.out)⟩
 ·rw [if_neg c3] at H
  exact absurd H (by simp)

end Go.Proofs.YtdpoknfidlekbaaDoor.Pr
end

section
-- written by a program of this session (wip/tools/gen.py) over the kit's print
namespace Go.Proofs.YtdpoknfidlekbaaDoor.Pr
open Go.RowKit Go.Proofs.YtdpoknfidlekbaaDoorW.PrintWords Go.Proofs.YtdpoknfidlekbaaDoorW.PrintLast Go.Proofs.YtdpoknfidlekbaaDoorW.PrintMore
attribute [local go_sem] max2_int min2_int max_two min_two max_three min_three max_four min_four   -- for this text's walks alone
set_option linter.unusedVariables false
set_option linter.unusedSimpArgs false

/-! ### packet_long: function 23 -/
def packet_long.f (l0 : List Int) (a1 : Int) : Option (List Int) := (packet_short.f l0 (wrap64 (a1 / 65536))).bind fun t131 => ((packet_short.f t131 (wrap64 (Go.bits .and .u32 a1 65535))).bind fun t134 => (some t134))
set_option maxHeartbeats 8000000 in
set_option maxRecDepth 100000 in
theorem packet_long.calls (P0_ : Nat → Prop) (u9000_ : Value) (l0 : List Int) (a1 : Int) (r : List Int) (w0 w : World) (hB : Below w0.heap.size w0 w) (ho0 : Kd.R (Kd.int .u8) 5 w w0.heap.size P0_ u9000_ l0) (h : packet_long.f l0 a1 = some r) :
  Calls Tryd.prog 23 #[u9000_, .int .u32 a1] w fun e w' => ∃ v0_ : Value, e = .returned (v0_) ∧ Kd.R (Kd.int .u8) 5 w' w0.heap.size (fun k_ => (P0_ k_ ∨ w.heap.size ≤ k_)) v0_ r ∧ Below w0.heap.size w0 w' ∧ Kept w w' (fun k_ => P0_ k_) := by
 have HO0 := Aside0.mk (show Kd.R (Kd.int .u8) 5 w w0.heap.size (fun k_ => (P0_ k_ ∨ w.heap.size ≤ k_)) u9000_ l0 from Kd.R_mono ho0 (fun k_ hk => (.inl hk)))
 have HK := Aside0.mk (Kept.refl w (fun k_ => P0_ k_))
 have HW0 := Aside0.mk hB.size
 have HB := Aside0.mk hB
 clear hB
 have H : ((packet_short.f l0 (wrap64 (a1 / 65536))).bind fun t131 => ((packet_short.f t131 (wrap64 (Go.bits .and .u32 a1 65535))).bind fun t134 => (some t134))) = some r := h
 clear h
 replace H := Option.bind_eq_some_iff.mp H
 obtain ⟨t131, A30, H⟩ := H
 replace H : ((packet_short.f t131 (wrap64 (Go.bits .and .u32 a1 65535))).bind fun t134 => (some t134)) = some r := H
 have A3 := Aside0.mk A30
 clear A30
 replace H := Option.bind_eq_some_iff.mp H
 obtain ⟨t134, A40, H⟩ := H
 replace H : (some t134) = some r := H
 have A4 := Aside0.mk A40
 clear A40
 obtain rfl := Option.some.inj H
 obtain ⟨Ao5, co5, eo5⟩ := Kd.R_slice HO0.out
 subst eo5
 go_enter Tryd.func23, Tryd.ntmps23
 go_wp2_with (first | ((with_reducible refine gate_callee (f := 24) rfl ?_); refine goesL_ (some 9) rfl rfl Tryd.func24 (by kernel_rfl) rfl #[.slice Ao5 l0.length co5, .int .i64 (wrap64 (a1 / 65536))] rfl (by (try simp only [List.map_toArray, List.map_cons, List.map_nil]); first | done | rfl | (simp only [List.length_drop, List.length_take]; rfl)) ?_; (with_reducible refine (packet_short.calls (fun k_ => some k_ = (.slice Ao5 l0.length co5 : Value).ownBlock) (.slice Ao5 l0.length co5) l0 (wrap64 (a1 / 65536)) t131 w0 _ ?side1_1 ?side2_1 A3.out).mono ?_); (case side1_1 => repeat (first | (with_reducible first | exact HB.out | apply below_alloc | apply pw_below_drewN | apply below_drew1) | exact HB.out)); (case side2_1 => exact Kd.R_tight rfl HO0.out); rintro e w6 ⟨v132, rfl, ho0, hb, hkp⟩; refine ⟨_, rfl, ?_⟩; have n0_ := Aside0.mk (Kd.R_mono (ok' := fun k_ => (P0_ k_ ∨ w.heap.size ≤ k_)) ho0 (fun k_ hk_ => Or.elim hk_ (fun hs_ => (HO0.out.1 k_ (hs_).symm)) (fun hn_ => (.inr (Nat.le_trans (by first | exact HK.out.1 | exact (show Kept w _ (fun k_ => P0_ k_) from by repeat (first | (with_reducible first | exact HK.out | apply Kept.alloc | apply Kept.drewN | apply Kept.drew) | exact HK.out)).1) hn_))))); have n1_ := Aside0.mk (Kept.then_ (S := (fun k_ => P0_ k_)) (by repeat (first | (with_reducible first | exact HK.out | apply Kept.alloc | apply Kept.drewN | apply Kept.drew) | exact HK.out)) hkp (fun k_ hs_ => (fun e_ => (HO0.out.1 k_ e_.symm)) hs_)); have n2_ := Aside0.mk (hb); clear HK; clear HB; clear HO0; have HO133 := n0_; have HK := n1_; have HB := n2_; clear n0_ n1_ n2_; (try clear hb); (try clear hkp); (try clear ho0); obtain ⟨Ao7, co7, eo7⟩ := Kd.R_slice HO133.out; subst eo7) | ((with_reducible refine gate_callee (f := 24) rfl ?_); refine goesL_ (some 13) rfl rfl Tryd.func24 (by kernel_rfl) rfl #[.slice Ao7 t131.length co7, .int .i64 (wrap64 (Go.bits .and .u32 a1 65535))] rfl (by (try simp only [List.map_toArray, List.map_cons, List.map_nil]); first | done | rfl | (simp only [List.length_drop, List.length_take]; rfl)) ?_; (with_reducible refine (packet_short.calls (fun k_ => some k_ = (.slice Ao7 t131.length co7 : Value).ownBlock) (.slice Ao7 t131.length co7) t131 (wrap64 (Go.bits .and .u32 a1 65535)) t134 w0 _ ?side1_2 ?side2_2 A4.out).mono ?_); (case side1_2 => repeat (first | (with_reducible first | exact HB.out | apply below_alloc | apply pw_below_drewN | apply below_drew1) | exact HB.out)); (case side2_2 => exact Kd.R_tight rfl HO133.out); rintro e w8 ⟨v135, rfl, ho0, hb, hkp⟩; refine ⟨_, rfl, ?_⟩; have n0_ := Aside0.mk (Kd.R_mono (ok' := fun k_ => (P0_ k_ ∨ w.heap.size ≤ k_)) ho0 (fun k_ hk_ => Or.elim hk_ (fun hs_ => (HO133.out.1 k_ (hs_).symm)) (fun hn_ => (.inr (Nat.le_trans (by first | exact HK.out.1 | exact (show Kept w _ (fun k_ => P0_ k_) from by repeat (first | (with_reducible first | exact HK.out | apply Kept.alloc | apply Kept.drewN | apply Kept.drew) | exact HK.out)).1) hn_))))); have n1_ := Aside0.mk (Kept.then_ (S := (fun k_ => P0_ k_)) (by repeat (first | (with_reducible first | exact HK.out | apply Kept.alloc | apply Kept.drewN | apply Kept.drew) | exact HK.out)) hkp (fun k_ hs_ => (fun e_ => (HO133.out.1 k_ e_.symm)) hs_)); have n2_ := Aside0.mk (hb); clear HK; clear HB; clear HO133; have HO136 := n0_; have HK := n1_; have HB := n2_; clear n0_ n1_ n2_; (try clear hb); (try clear hkp); (try clear ho0)))
 go_ret
 exact ⟨_, by first | rfl | (simp [errW_none, errW_some] <;> rfl) | (simp [*, errW_none, errW_some] <;> rfl), by (with_reducible repeat (first | apply Kd.R_alloc | apply Kd.R_drewN | apply Kd.R_drew)); exact HO136.out, by repeat (first | (with_reducible first | exact HB.out | apply below_alloc | apply pw_below_drewN | apply below_drew1) | exact HB.out), by repeat (first | (with_reducible first | exact HK.out | apply Kept.alloc | apply Kept.drewN | apply Kept.drew) | exact HK.out)⟩

end Go.Proofs.YtdpoknfidlekbaaDoor.Pr
end

section
namespace Go.Proofs.YtdpoknfidlekbaaDoor
open Go.RowKit Go.Proofs.YtdpoknfidlekbaaDoor.Pr Go.Proofs.YtdpoknfidlekbaaDoorW.PrintWords Go.Proofs.YtdpoknfidlekbaaDoorW.PrintLast Go.Proofs.YtdpoknfidlekbaaDoorW.PrintMore
set_option linter.unusedVariables false
set_option linter.unusedSimpArgs false

/-! ### what it computes -/
def pk2 (n : Int) : List Int := [n / 256 % 256, n % 256]
def pk4 (a : Int) : List Int := pk2 (a / 65536) ++ pk2 (a % 65536)
theorem short_eq (xs : List Int) (n : Int) (hl : xs.length < 1099511627776) : packet_short.f xs n = some (xs ++ pk2 n) := by
  unfold packet_short.f
  simp only [Option.bind_some]
  rw [if_pos (by simp; omega)]
  rfl
theorem and16 (a : Int) (h0 : 0 ≤ a) (h1 : a < 4294967296) : Go.bits .and .u32 a 65535 = a % 65536 :=
  bits_mask .u32 32 (by decide) (fun n h0 h1 => by rw [IntKind.wrap_u32]; omega) 16 (by decide) a h0 (by omega)
theorem long_eq (xs : List Int) (a : Int) (h0 : 0 ≤ a) (h1 : a < 4294967296) (hl : xs.length < 1000000000000) : packet_long.f xs a = some (xs ++ pk4 a) := by
  unfold packet_long.f
  have e1 : wrap64 (a / 65536) = a / 65536 := by unfold wrap64; omega
  have e2 : wrap64 (Go.bits .and .u32 a 65535) = a % 65536 := by rw [and16 a h0 h1]; unfold wrap64; omega
  rw [e1, e2, short_eq xs _ (by omega)]
  simp only [Option.bind_some]
  rw [short_eq _ _ (by simp [pk2]; omega)]
  unfold pk4
  rw [List.append_assoc]
  rfl
def pkA (a0 a1 : Int) (l8 : List Int) : List Int := [a0 % 256, 1, (l8.length : Int) % 256, 0] ++ pk4 a1
def pkB (a0 a1 a2 a3 : Int) (l8 : List Int) : List Int := pkA a0 a1 l8 ++ pk2 a2 ++ pk2 a3
def pkC (a4 a5 a6 a7 : Int) (i : Nat) : List Int := (([a4, a5, a6, a7].take i).map pk4).flatten
def pkHead (a0 a1 a2 a3 a4 a5 a6 a7 : Int) (l8 : List Int) : List Int :=
  pkB a0 a1 a2 a3 l8 ++ pkC a4 a5 a6 a7 4 ++ l8 ++ List.replicate (208 - l8.length) 0 ++ pk4 1669485411
def pkOk (a1 a4 a5 a6 a7 : Int) : Prop := (0 ≤ a1 ∧ a1 < 4294967296) ∧ (0 ≤ a4 ∧ a4 < 4294967296) ∧ (0 ≤ a5 ∧ a5 < 4294967296) ∧ (0 ≤ a6 ∧ a6 < 4294967296) ∧ (0 ≤ a7 ∧ a7 < 4294967296)
instance (a1 a4 a5 a6 a7 : Int) : Decidable (pkOk a1 a4 a5 a6 a7) := by unfold pkOk; infer_instance
abbrev OptE := S53
def packet_Encode.f (k : Nat) (a0 a1 a2 a3 a4 a5 a6 a7 : Int) (l8 : List Int) (l9 : List OptE) : Option (List Int × Int) :=
  (packet_Right.f k a0 a1 a2 a3 a4 a5 a6 a7 l8 l9).bind fun t => if t = true then ((option_Encode.f k l9).bind fun r => if r.1.length ≤ 1099511627776 ∧ l8.length ≤ 16 ∧ pkOk a1 a4 a5 a6 a7 then some (pkHead a0 a1 a2 a3 a4 a5 a6 a7 l8 ++ r.1, 0) else none) else some ([], 1)
theorem packet_Encode.mono : ∀ a0 a1 a2 a3 a4 a5 a6 a7 l8 l9 k, LeO (packet_Encode.f k a0 a1 a2 a3 a4 a5 a6 a7 l8 l9) (packet_Encode.f (k + 1) a0 a1 a2 a3 a4 a5 a6 a7 l8 l9) := by
  intro a0 a1 a2 a3 a4 a5 a6 a7 l8 l9 k
  unfold packet_Encode.f
  refine LeO.bind (packet_Right.mono _ _ _ _ _ _ _ _ _ _ k) (fun t => ?_)
  refine LeO.ite ?_ (LeO.refl _)
  exact LeO.bind (option_Encode.mono _ k) (fun _ => LeO.refl _)
theorem pk4_len (a : Int) : (pk4 a).length = 4 := rfl
theorem pkC_len (a4 a5 a6 a7 : Int) (i : Nat) : (pkC a4 a5 a6 a7 i).length ≤ 16 := by
  have : i = 0 ∨ i = 1 ∨ i = 2 ∨ i = 3 ∨ 4 ≤ i := by omega
  rcases this with rfl | rfl | rfl | rfl | h
  · simp [pkC]
  · simp [pkC, pk4_len]
  · simp [pkC, pk4_len]
  · simp [pkC, pk4_len]
  · unfold pkC; rw [List.take_of_length_le (by simpa using h)]; simp [pk4_len]

/-! ### the numbers put behind a row of the walk's own, the packet's block apart -/
section
variable {gp : Nat} {cs : Array Value} {w w1 : World} {v : Value} {xs : List Int}
theorem longK (a : Int) (h0 : 0 ≤ a) (h1 : a < 4294967296) (hl : xs.length < 1000000000000) (HB : Below w.heap.size w w1) (HO : Kd.R (Kd.int .u8) 5 w1 w.heap.size (fun _ => True) v xs) (BK : w1.heap[gp]? = some (.cells cs 27 (0, 0))) :
    Calls Tryd.prog 23 #[v, .int .u32 a] w1 fun e w2 => ∃ v2, e = .returned v2 ∧ Kd.R (Kd.int .u8) 5 w2 w.heap.size (fun _ => True) v2 (xs ++ pk4 a) ∧ w2.heap[gp]? = some (.cells cs 27 (0, 0)) ∧ Below w.heap.size w w2 := by
  refine (packet_long.calls (fun k => k ≠ gp) v xs a _ w w1 HB (Kd.R_mono (Kd.R_far1 HO rfl (Kd.R_ne HO BK (by decide))) (fun k hk => hk.2)) (long_eq xs a h0 h1 hl)).mono ?_
  rintro e w2 ⟨v2, rfl, ho, hb, hk⟩
  exact ⟨v2, rfl, Kd.R_mono ho (fun _ _ => trivial), (hk.2 gp (blk_lt BK) (by simp)).trans BK, hb⟩
theorem shortK (a : Int) (hl : xs.length < 1000000000000) (HB : Below w.heap.size w w1) (HO : Kd.R (Kd.int .u8) 5 w1 w.heap.size (fun _ => True) v xs) (BK : w1.heap[gp]? = some (.cells cs 27 (0, 0))) :
    Calls Tryd.prog 24 #[v, .int .i64 a] w1 fun e w2 => ∃ v2, e = .returned v2 ∧ Kd.R (Kd.int .u8) 5 w2 w.heap.size (fun _ => True) v2 (xs ++ pk2 a) ∧ w2.heap[gp]? = some (.cells cs 27 (0, 0)) ∧ Below w.heap.size w w2 := by
  refine (packet_short.calls (fun k => k ≠ gp) v xs a _ w w1 HB (Kd.R_mono (Kd.R_far1 HO rfl (Kd.R_ne HO BK (by decide))) (fun k hk => hk.2)) (short_eq xs a (by omega))).mono ?_
  rintro e w2 ⟨v2, rfl, ho, hb, hk⟩
  exact ⟨v2, rfl, Kd.R_mono ho (fun _ _ => trivial), (hk.2 gp (blk_lt BK) (by simp)).trans BK, hb⟩
end
/-- The i-th of an array value of four. -/
theorem idx4 (a b c d : Int) (i : Nat) (hi : i < 4) (W : World) : (Instr.index 61 (.agg #[.int .u32 a, .int .u32 b, .int .u32 c, .int .u32 d]) (.int .i64 (i : Int))).run Tryd.prog W = .ok (.int .u32 (([a, b, c, d] : List Int).getD i 0)) W := by
  have hu : Tryd.prog.underlying 61 = some (.array 4 23) := by kernel_rfl
  have hs : (Tryd.prog.info? 23).map (fun i => (i.size, i.zero)) = some (1, some (.int .u32 0)) := by kernel_rfl
  obtain ⟨i0, h0, h1⟩ := Option.map_eq_some_iff.1 hs
  simp only [Prod.mk.injEq] at h1
  obtain rfl | rfl | rfl | rfl : i = 0 ∨ i = 1 ∨ i = 2 ∨ i = 3 := by omega
  all_goals simp [Instr.index, asIntOf, run_underlying hu, sizeOf, part, typeInfo, h0, h1.1, h1.2]
set_option maxHeartbeats 1000000 in
set_option maxRecDepth 100000 in
theorem packet_Encode.calls (k : Nat) (a0 a1 a2 a3 a4 a5 a6 a7 : Int) (A8 : Option Addr) (c8 : Nat) (l8 : List Int) (A9 : Option Addr) (c9 : Nat) (l9 : List OptE) (r1 : List Int) (r2 : Int) (w : World) (hr8 : Kd.C (Kd.int .u8) w A8 l8.length l8) (hc8 : l8.length ≤ c8) (hr9 : Kd.C k53 w A9 l9.length l9) (hc9 : l9.length ≤ c9) (h : packet_Encode.f k a0 a1 a2 a3 a4 a5 a6 a7 l8 l9 = some (r1, r2)) :
    Calls Tryd.prog 7 #[.agg #[.int .i64 a0, .int .u32 a1, .int .i64 a2, .int .i64 a3, .int .u32 a4, .int .u32 a5, .int .u32 a6, .int .u32 a7, .slice A8 l8.length c8, .slice A9 l9.length c9]] w fun e w' => ∃ v0_ : Value, e = .returned (.tuple #[v0_, .int .i64 r2]) ∧ Kd.R (Kd.int .u8) 5 w' w.heap.size (fun _ => True) v0_ r1 ∧ Below w.heap.size w w' := by
  have hu27 := Tryd.underlying27
  have HR8 := Aside0.mk hr8
  have HC8 := Aside0.mk hc8
  have HR9 := Aside0.mk hr9
  have HC9 := Aside0.mk hc9
  clear hr8 hc8 hr9 hc9
  have HB := Aside0.mk (Below.refl w.heap.size w)
  unfold packet_Encode.f at h
  obtain ⟨t, ht, h⟩ := Option.bind_eq_some_iff.mp h
  have HT := Aside0.mk ht
  clear ht
  cases t with
  | false =>
    rw [if_neg (by decide)] at h
    obtain ⟨rfl, rfl⟩ := Prod.mk.inj (Option.some.inj h)
    clear h
    go_enter Tryd.func7, Tryd.ntmps7
    go_wp2_with (first
      | (go_at_call 5; (with_reducible refine (packet_Right.calls k a0 a1 a2 a3 a4 a5 a6 a7 _ _ l8 _ _ l9 false _ ?s1 ?s2 ?s3 ?s4 HT.out).mono ?_); (case s1 => exact Kd.C_alloc HR8.out _); (case s2 => exact HC8.out); (case s3 => exact Kd.C_alloc HR9.out _); (case s4 => exact HC9.out); rintro e w2 ⟨rfl, hb⟩; have n1_ := Aside0.mk (below_step (below_alloc HB.out _) hb); clear hb HB; have HB := n1_; clear n1_)
      | fail)
    go_ret2
    exact ⟨_, by first | rfl | (simp; done), Kd.R_nil _ _ _ _ _, by repeat (first | (with_reducible first | exact HB.out | apply below_alloc | apply pw_below_drewN | apply below_drew1) | exact HB.out)⟩
  | true =>
    rw [if_pos rfl] at h
    obtain ⟨r, hr, h⟩ := Option.bind_eq_some_iff.mp h
    by_cases hg : r.1.length ≤ 1099511627776 ∧ l8.length ≤ 16 ∧ pkOk a1 a4 a5 a6 a7
    case neg => rw [if_neg hg] at h; cases h
    rw [if_pos hg] at h
    obtain ⟨rfl, rfl⟩ := Prod.mk.inj (Option.some.inj h)
    clear h
    obtain ⟨hg1, hg2, hu1, hu4, hu5, hu6, hu7⟩ := hg
    obtain ⟨ro, re⟩ := r
    have HRO := Aside0.mk hr
    clear hr
    have HG1 := Aside0.mk (show ro.length ≤ 1099511627776 from hg1)
    have HG2 := Aside0.mk hg2
    have HU1 := Aside0.mk hu1
    have HU4 := Aside0.mk hu4
    have HU5 := Aside0.mk hu5
    have HU6 := Aside0.mk hu6
    have HU7 := Aside0.mk hu7
    clear hg1 hg2 hu1 hu4 hu5 hu6 hu7
    go_enter Tryd.func7, Tryd.ntmps7
    go_wp2_with (first
      | (go_at_call 5; (with_reducible refine (packet_Right.calls k a0 a1 a2 a3 a4 a5 a6 a7 _ _ l8 _ _ l9 true _ ?s1 ?s2 ?s3 ?s4 HT.out).mono ?_); (case s1 => exact Kd.C_alloc HR8.out _); (case s2 => exact HC8.out); (case s3 => exact Kd.C_alloc HR9.out _); (case s4 => exact HC9.out); rintro e w2 ⟨rfl, hb⟩; have n1_ := Aside0.mk (below_step (below_alloc HB.out _) hb); have BK := Aside0.mk (blk_below (blk_new w (.cells #[.int .i64 a0, .int .u32 a1, .int .i64 a2, .int .i64 a3, .int .u32 a4, .int .u32 a5, .int .u32 a6, .int .u32 a7, .slice A8 l8.length c8, .slice A9 l9.length c9] 27 (0, 0))) hb); have GP := Aside0.mk (Nat.le_refl w.heap.size); clear hb HB; have HB := n1_; clear n1_; generalize hgp : w.heap.size = gp at BK GP ⊢; have hp0 : w2.cell? ⟨gp, 0, none⟩ = some (.int .i64 a0) := (blk_cell BK.out 0).trans rfl; have hp8 : w2.cell? ⟨gp, 8, none⟩ = some (.slice A8 l8.length c8) := (blk_cell BK.out 8).trans rfl)
      | ((with_reducible refine gate_dst (N := 19) rfl ?_); refine Kd.R_lit (Kd.int .u8) _ 5 ?hg_2 (N := 19) ?hd_2 (xs := ([a0 % 256, 1, (l8.length : Int) % 256, 0] : List Int)) (inner := [.int .u8 (a0 % 256), .int .u8 1, .int .u8 ((l8.length : Int) % 256), .int .u8 0]) (ok := fun _ => True) (okp := fun _ => True) ?hr_2 ?hp_2 (fun _ hk => hk) trivial (Below.refl _ _) (Nat.le_refl _) (by simp) ?_; (case hd_2 => rfl); (case hg_2 => rfl); (case hr_2 => first | (go_simp; done) | (go_simp; rfl)); (case hp_2 => exact (Reps.one (show Kd.M (Kd.int .u8) _ _ _ (a0 % 256) [.int .u8 (a0 % 256)] from rfl) (Reps.one (show Kd.M (Kd.int .u8) _ _ _ 1 [.int .u8 1] from rfl) (Reps.one (show Kd.M (Kd.int .u8) _ _ _ ((l8.length : Int) % 256) [.int .u8 ((l8.length : Int) % 256)] from rfl) (Reps.one (show Kd.M (Kd.int .u8) _ _ _ 0 [.int .u8 0] from rfl) (Reps.none _ _))))));
          intro v19 w3 ho hb hg_ hnew_; clear hg_ hnew_; have HO := Aside0.mk (Kd.R_lower ho (below_size HB.out)); have n1_ := Aside0.mk (below_step HB.out hb); have n2_ := Aside0.mk (blk_below BK.out hb); clear ho hb HB BK hp0 hp8; have HB := n1_; have BK := n2_; clear n1_ n2_; have hp1 : w3.cell? ⟨gp, 1, none⟩ = some (.int .u32 a1) := (blk_cell BK.out 1).trans rfl)
      | (go_at_call 23; (with_reducible refine (longK a1 HU1.out.1 HU1.out.2 (by simp) HB.out HO.out BK.out).mono ?_); rintro e w4 ⟨v23, rfl, ho, hk, hb⟩; clear HO HB BK hp1; have HO := Aside0.mk (show Kd.R (Kd.int .u8) 5 w4 w.heap.size (fun _ => True) v23 (pkA a0 a1 l8) from ho); have HB := Aside0.mk hb; have BK := Aside0.mk hk; clear ho hb hk)
      | fail)
    have n0_ := Aside0.mk (Kd.R_drew HO.out)
    have n1_ := Aside0.mk (below_drew1 HB.out)
    have n2_ := Aside0.mk (blk_drew BK.out)
    clear HO HB BK
    have HO := n0_
    have HB := n1_
    have BK := n2_
    clear n0_ n1_ n2_
    refine start_ (n := 8) (S := fun w' => w'.cell? ⟨gp, 2, none⟩ = some (.int .i64 a2) ∧ w'.cell? ⟨gp, 3, none⟩ = some (.int .i64 a3)) (ds := []) #[false, false, false, false, false, false, false, false] (by kernel_rfl) rfl rfl (⟨(blk_cell BK.out 2).trans rfl, (blk_cell BK.out 3).trans rfl⟩) (fun hHeld => ?_)
    try clear hp2
    refine pure_ (i := 0) (N := some 24) (v := ?_) (a' := ?_) #[true, false, false, false, false, false, false, false] rfl rfl (by kernel_rfl) (fun _ _ _ h => h) (Or.inl ⟨by rfl, ?_⟩) ?_ ?_
    rotate_left
    · intro w'
      go_simp
      with_reducible rfl
    rotate_left
    · simp only [Act.put, List.setIfInBounds_toArray, List.set_cons_zero, List.set_cons_succ, i64_w, i32_w]
      rfl
    refine pure_ (i := 1) (N := some 25) (v := ?_) (a' := ?_) #[true, true, false, false, false, false, false, false] rfl rfl (by kernel_rfl) (fun _ _ _ h => h) (Or.inl ⟨by rfl, ?_⟩) ?_ ?_
    rotate_left
    · intro w'
      go_simp
      with_reducible rfl
    rotate_left
    · simp only [Act.put, List.setIfInBounds_toArray, List.set_cons_zero, List.set_cons_succ, i64_w, i32_w]
      rfl
    refine pure_ (i := 4) (N := some 28) (v := ?_) (a' := ?_) #[true, true, false, false, true, false, false, false] rfl rfl (by kernel_rfl) (fun _ _ _ h => h) (Or.inl ⟨by rfl, ?_⟩) ?_ ?_
    rotate_left
    · intro w'
      go_simp
      with_reducible rfl
    rotate_left
    · simp only [Act.put, List.setIfInBounds_toArray, List.set_cons_zero, List.set_cons_succ, i64_w, i32_w]
      rfl
    refine take_ (i := 2) (N := some 26) (v := ?_) (a' := ?_) #[true, true, true, false, true, false, false, false] rfl rfl (by kernel_rfl) (fun _ _ _ h => h) (Or.inl ⟨by rfl, ?_⟩) hHeld ?_ ?_
    rotate_left
    · rintro w' ⟨s0, s1⟩
      go_simp
      with_reducible rfl
    rotate_left
    · simp only [Act.put, List.setIfInBounds_toArray, List.set_cons_zero, List.set_cons_succ, i64_w, i32_w]
      rfl
    refine take_ (i := 5) (N := some 29) (v := ?_) (a' := ?_) #[true, true, true, false, true, true, false, false] rfl rfl (by kernel_rfl) (fun _ _ _ h => h) (Or.inl ⟨by rfl, ?_⟩) hHeld ?_ ?_
    rotate_left
    · rintro w' ⟨s0, s1⟩
      go_simp
      with_reducible rfl
    rotate_left
    · simp only [Act.put, List.setIfInBounds_toArray, List.set_cons_zero, List.set_cons_succ, i64_w, i32_w]
      rfl
    refine one_ (i := 3) (N := some 27) #[true, true, true, true, true, true, false, false] rfl rfl (by kernel_rfl) (by decide) (fun K hK => ?_)
    refine goes_ Tryd.func24 (by kernel_rfl) rfl #[v23, .int .i64 a2] (by rfl) rfl rfl (by (try simp only [List.map_toArray, List.map_cons, List.map_nil]); rfl) ?_
    with_reducible refine (shortK a2 (by simp [pkA, pk4_len]) HB.out HO.out BK.out).mono ?_
    rintro e wn ⟨v27, rfl, ho, hk, hb⟩
    refine ⟨_, rfl, ?_⟩
    have HO := Aside0.mk ho
    have HB := Aside0.mk hb
    have BK := Aside0.mk hk
    clear ho hb hk
    refine hK.out _ _ (⟨(blk_cell BK.out 2).trans rfl, (blk_cell BK.out 3).trans rfl⟩) (fun hHeld => ?_)
    clear hK K
    refine norm_ (a' := ?_) ?_ ?_
    rotate_left
    · show Act.put _ (some 27) _ = _
      simp only [Act.put, List.setIfInBounds_toArray, List.set_cons_zero, List.set_cons_succ, i64_w, i32_w]
      rfl
    refine one_ (i := 6) (N := some 30) #[true, true, true, true, true, true, true, false] rfl rfl (by kernel_rfl) (by decide) (fun K hK => ?_)
    refine goes_ Tryd.func24 (by kernel_rfl) rfl #[v27, .int .i64 a3] (by rfl) rfl rfl (by (try simp only [List.map_toArray, List.map_cons, List.map_nil]); rfl) ?_
    with_reducible refine (shortK a3 (by simp [pkA, pk4_len, pk2]) HB.out HO.out BK.out).mono ?_
    rintro e wn ⟨v30, rfl, ho, hk, hb⟩
    refine ⟨_, rfl, ?_⟩
    have HO := Aside0.mk ho
    have HB := Aside0.mk hb
    have BK := Aside0.mk hk
    clear ho hb hk
    refine hK.out _ _ (⟨(blk_cell BK.out 2).trans rfl, (blk_cell BK.out 3).trans rfl⟩) (fun hHeld => ?_)
    clear hK K
    refine norm_ (a' := ?_) ?_ ?_
    rotate_left
    · show Act.put _ (some 30) _ = _
      simp only [Act.put, List.setIfInBounds_toArray, List.set_cons_zero, List.set_cons_succ, i64_w, i32_w]
      rfl
    refine pure_ (i := 7) (N := some 4) (v := ?_) (a' := ?_) #[true, true, true, true, true, true, true, true] rfl rfl (by kernel_rfl) (fun _ _ _ h => h) (Or.inl ⟨by rfl, ?_⟩) ?_ ?_
    rotate_left
    · intro w'
      go_simp
      with_reducible rfl
    rotate_left
    · simp only [Act.put, List.setIfInBounds_toArray, List.set_cons_zero, List.set_cons_succ, i64_w, i32_w]
      rfl
    refine done_ (by kernel_rfl) ?_
    clear hHeld
    have hp4 : wn.cell? ⟨gp, 4, none⟩ = some (.int .u32 a4) := (blk_cell BK.out 4).trans rfl
    have hp5 : wn.cell? ⟨gp, 5, none⟩ = some (.int .u32 a5) := (blk_cell BK.out 5).trans rfl
    have hp6 : wn.cell? ⟨gp, 6, none⟩ = some (.int .u32 a6) := (blk_cell BK.out 6).trans rfl
    have hp7 : wn.cell? ⟨gp, 7, none⟩ = some (.int .u32 a7) := (blk_cell BK.out 7).trans rfl
    go_wp2
    clear hp4 hp5 hp6 hp7
    go_loopg [4, 6, 40] 5 (fun kq v4 v6 v40 w' => ∃ (i : Nat), v40 = .int .i64 i ∧ Aside0 (i ≤ 4 ∧ 5 ≤ kq + i) ∧ Aside0 (Kd.R (Kd.int .u8) 5 w' w.heap.size (fun _ => True) v4 (pkB a0 a1 a2 a3 l8 ++ pkC a4 a5 a6 a7 i)) ∧ Aside0 (Below w.heap.size w w') ∧ Aside0 (w'.heap[gp]? = some (.cells #[.int .i64 a0, .int .u32 a1, .int .i64 a2, .int .i64 a3, .int .u32 a4, .int .u32 a5, .int .u32 a6, .int .u32 a7, .slice A8 l8.length c8, .slice A9 l9.length c9] 27 (0, 0))))
    case atStart => exact ⟨0, rfl, ⟨by omega, by omega⟩, ⟨by have h_ := HO.out; simp only [pkC, List.take_zero, List.map_nil, List.flatten_nil, List.append_nil]; exact h_⟩, HB, BK⟩
    case round =>
      clear HO HB BK
      obtain ⟨i, hv, hi, HO, HB, BK⟩ := hrel
      obtain ⟨k2, rfl⟩ : ∃ m, gk = m + 1 := ⟨gk - 1, by have := hi.out; omega⟩
      have hi4 : i = 0 ∨ i = 1 ∨ i = 2 ∨ i = 3 ∨ i = 4 := by have := hi.out; omega
      rcases hi4 with rfl | rfl | rfl | rfl | rfl
      · replace hv : u40 = .int .i64 0 := hv
        subst hv
        have hix : ∀ W : World, (Instr.index 61 (.agg #[.int .u32 a4, .int .u32 a5, .int .u32 a6, .int .u32 a7]) (.int .i64 0)).run Tryd.prog W = .ok (.int .u32 a4) W := idx4 a4 a5 a6 a7 0 (by decide)
        go_wp2_with (first
          | (go_at_call 23; (with_reducible refine (longK a4 HU4.out.1 HU4.out.2 (by have := pkC_len a4 a5 a6 a7 0; have := HG2.out; simp [pkB, pkA, pk4_len, pk2]; omega) HB.out HO.out BK.out).mono ?_); rintro e w5 ⟨v45, rfl, ho, hk, hb⟩; clear HO HB BK; have HO := Aside0.mk ho; have HB := Aside0.mk hb; have BK := Aside0.mk hk; clear ho hb hk)
          | fail)
        go_roundg k2
        case measure => omega
        case rel => exact ⟨1, by first | rfl | (simp; done), ⟨by omega, by have := hi.out; omega⟩, ⟨by have h_ := HO.out; rw [List.append_assoc] at h_; exact h_⟩, HB, BK⟩
      · replace hv : u40 = .int .i64 1 := hv
        subst hv
        have hix : ∀ W : World, (Instr.index 61 (.agg #[.int .u32 a4, .int .u32 a5, .int .u32 a6, .int .u32 a7]) (.int .i64 1)).run Tryd.prog W = .ok (.int .u32 a5) W := idx4 a4 a5 a6 a7 1 (by decide)
        go_wp2_with (first
          | (go_at_call 23; (with_reducible refine (longK a5 HU5.out.1 HU5.out.2 (by have := pkC_len a4 a5 a6 a7 1; have := HG2.out; simp [pkB, pkA, pk4_len, pk2]; omega) HB.out HO.out BK.out).mono ?_); rintro e w5 ⟨v45, rfl, ho, hk, hb⟩; clear HO HB BK; have HO := Aside0.mk ho; have HB := Aside0.mk hb; have BK := Aside0.mk hk; clear ho hb hk)
          | fail)
        go_roundg k2
        case measure => omega
        case rel => exact ⟨2, by first | rfl | (simp; done), ⟨by omega, by have := hi.out; omega⟩, ⟨by have h_ := HO.out; rw [List.append_assoc] at h_; exact h_⟩, HB, BK⟩
      · replace hv : u40 = .int .i64 2 := hv
        subst hv
        have hix : ∀ W : World, (Instr.index 61 (.agg #[.int .u32 a4, .int .u32 a5, .int .u32 a6, .int .u32 a7]) (.int .i64 2)).run Tryd.prog W = .ok (.int .u32 a6) W := idx4 a4 a5 a6 a7 2 (by decide)
        go_wp2_with (first
          | (go_at_call 23; (with_reducible refine (longK a6 HU6.out.1 HU6.out.2 (by have := pkC_len a4 a5 a6 a7 2; have := HG2.out; simp [pkB, pkA, pk4_len, pk2]; omega) HB.out HO.out BK.out).mono ?_); rintro e w5 ⟨v45, rfl, ho, hk, hb⟩; clear HO HB BK; have HO := Aside0.mk ho; have HB := Aside0.mk hb; have BK := Aside0.mk hk; clear ho hb hk)
          | fail)
        go_roundg k2
        case measure => omega
        case rel => exact ⟨3, by first | rfl | (simp; done), ⟨by omega, by have := hi.out; omega⟩, ⟨by have h_ := HO.out; rw [List.append_assoc] at h_; exact h_⟩, HB, BK⟩
      · replace hv : u40 = .int .i64 3 := hv
        subst hv
        have hix : ∀ W : World, (Instr.index 61 (.agg #[.int .u32 a4, .int .u32 a5, .int .u32 a6, .int .u32 a7]) (.int .i64 3)).run Tryd.prog W = .ok (.int .u32 a7) W := idx4 a4 a5 a6 a7 3 (by decide)
        go_wp2_with (first
          | (go_at_call 23; (with_reducible refine (longK a7 HU7.out.1 HU7.out.2 (by have := pkC_len a4 a5 a6 a7 3; have := HG2.out; simp [pkB, pkA, pk4_len, pk2]; omega) HB.out HO.out BK.out).mono ?_); rintro e w5 ⟨v45, rfl, ho, hk, hb⟩; clear HO HB BK; have HO := Aside0.mk ho; have HB := Aside0.mk hb; have BK := Aside0.mk hk; clear ho hb hk)
          | fail)
        go_roundg k2
        case measure => omega
        case rel => exact ⟨4, by first | rfl | (simp; done), ⟨by omega, by have := hi.out; omega⟩, ⟨by have h_ := HO.out; rw [List.append_assoc] at h_; exact h_⟩, HB, BK⟩
      · replace hv : u40 = .int .i64 4 := hv
        subst hv
        go_wp2
        have n0_ := Aside0.mk (Kd.R_drew HO.out)
        have n1_ := Aside0.mk (below_drew1 HB.out)
        have n2_ := Aside0.mk (blk_drew BK.out)
        clear HO HB BK
        have HO := n0_
        have HB := n1_
        have BK := n2_
        clear n0_ n1_ n2_
        refine start_ (n := 11) (S := fun w' => w'.cell? ⟨gp, 8, none⟩ = some (.slice A8 l8.length c8)) (ds := []) #[false, false, false, false, false, false, false, false, false, false, false] (by kernel_rfl) rfl rfl ((blk_cell BK.out 8).trans rfl) (fun hHeld => ?_)
        refine pure_ (i := 0) (N := some 47) (v := ?_) (a' := ?_) #[true, false, false, false, false, false, false, false, false, false, false] rfl rfl (by kernel_rfl) (fun _ _ _ h => h) (Or.inl ⟨by rfl, ?_⟩) ?_ ?_
        rotate_left
        · intro w'
          go_simp
          with_reducible rfl
        rotate_left
        · simp only [Act.put, List.setIfInBounds_toArray, List.set_cons_zero, List.set_cons_succ, i64_w, i32_w]
          rfl
        refine pure_ (i := 1) (N := some 48) (v := ?_) (a' := ?_) #[true, true, false, false, false, false, false, false, false, false, false] rfl rfl (by kernel_rfl) (fun _ _ _ h => h) (Or.inl ⟨by rfl, ?_⟩) ?_ ?_
        rotate_left
        · intro w'
          go_simp
          with_reducible rfl
        rotate_left
        · simp only [Act.put, List.setIfInBounds_toArray, List.set_cons_zero, List.set_cons_succ, i64_w, i32_w]
          rfl
        refine pure_ (i := 4) (N := some 51) (v := ?_) (a' := ?_) #[true, true, false, false, true, false, false, false, false, false, false] rfl rfl (by kernel_rfl) (fun _ _ _ h => h) (Or.inl ⟨by rfl, ?_⟩) ?_ ?_
        rotate_left
        · intro w'
          go_simp
          with_reducible rfl
        rotate_left
        · simp only [Act.put, List.setIfInBounds_toArray, List.set_cons_zero, List.set_cons_succ, i64_w, i32_w]
          rfl
        refine take_ (i := 2) (N := some 49) (v := ?_) (a' := ?_) #[true, true, true, false, true, false, false, false, false, false, false] rfl rfl (by kernel_rfl) (fun _ _ _ h => h) (Or.inl ⟨by rfl, ?_⟩) hHeld ?_ ?_
        rotate_left
        · intro w' s0
          go_simp
          with_reducible rfl
        rotate_left
        · simp only [Act.put, List.setIfInBounds_toArray, List.set_cons_zero, List.set_cons_succ, i64_w, i32_w]
          rfl
        refine take_ (i := 5) (N := some 52) (v := ?_) (a' := ?_) #[true, true, true, false, true, true, false, false, false, false, false] rfl rfl (by kernel_rfl) (fun _ _ _ h => h) (Or.inl ⟨by rfl, ?_⟩) hHeld ?_ ?_
        rotate_left
        · intro w' s0
          go_simp
          with_reducible rfl
        rotate_left
        · simp only [Act.put, List.setIfInBounds_toArray, List.set_cons_zero, List.set_cons_succ, i64_w, i32_w]
          rfl
        refine pure_ (i := 6) (N := some 53) (v := ?_) (a' := ?_) #[true, true, true, false, true, true, true, false, false, false, false] rfl rfl (by kernel_rfl) (fun _ _ _ h => h) (Or.inl ⟨by rfl, ?_⟩) ?_ ?_
        rotate_left
        · intro w'
          go_simp
          with_reducible rfl
        rotate_left
        · simp only [Act.put, List.setIfInBounds_toArray, List.set_cons_zero, List.set_cons_succ, i64_w, i32_w]
          rfl
        refine pure_ (i := 7) (N := some 54) (v := ?_) (a' := ?_) #[true, true, true, false, true, true, true, true, false, false, false] rfl rfl (by kernel_rfl) (fun _ _ _ h => h) (Or.inl ⟨by rfl, ?_⟩) ?_ ?_
        rotate_left
        · intro w'
          go_simp
          with_reducible rfl
        rotate_left
        · simp only [Act.put, List.setIfInBounds_toArray, List.set_cons_zero, List.set_cons_succ, i64_w, i32_w]
          rfl
        refine pure_ (i := 8) (N := some 55) (v := ?_) (a' := ?_) #[true, true, true, false, true, true, true, true, true, false, false] rfl rfl (by kernel_rfl) (fun _ _ _ h => h) (Or.inl ⟨by rfl, ?_⟩) ?_ ?_
        rotate_left
        · intro w'
          go_simp
          with_reducible rfl
        rotate_left
        · simp only [Act.put, List.setIfInBounds_toArray, List.set_cons_zero, List.set_cons_succ, i64_w, i32_w]
          rfl
        refine one_ (i := 3) (N := some 50) #[true, true, true, true, true, true, true, true, true, false, false] rfl rfl (by kernel_rfl) (by decide) (fun K hK => ?_)
        refine Kd.R_append_rows_step (Kd.int .u8) (w0 := w) w.heap.size (by rfl) (.tmp 47) (.tmp 49) 24 5 (.int .u8 0) 1 rfl Tryd.underlying24 info5 rfl (by decide) (by omega) u4 (pkB a0 a1 a2 a3 l8 ++ pkC a4 a5 a6 a7 4) l8 _ _ _ (fun _ => True) (fun _ => False) rfl rfl HO.out (Kd.C_below HR8.out HB.out) (fun _ _ h => h) (fun _ h => h.elim) (fun _ _ => trivial) HB.out (below_size HB.out) (by have := HG2.out; simp [pkB, pkA, pk4_len, pk2, pkC]; omega) ?_
        intro v50 wa ho hb hg hat
        have n0_ := Aside0.mk (blk_grown BK.out hg (Kd.R_ne HO.out BK.out (by decide)))
        clear HO HB BK hg hat
        have HO := Aside0.mk ho
        have HB := Aside0.mk hb
        have BK := n0_
        clear n0_ ho hb
        refine hK.out _ _ ((blk_cell BK.out 8).trans rfl) (fun hHeld => ?_)
        clear hK K
        refine norm_ (a' := ?_) ?_ ?_
        rotate_left
        · show Act.put _ (some 50) _ = _
          simp only [Act.put, List.setIfInBounds_toArray, List.set_cons_zero, List.set_cons_succ, i64_w, i32_w]
          rfl
        refine one_ (i := 9) (N := some 56) #[true, true, true, true, true, true, true, true, true, true, false] rfl rfl (by kernel_rfl) (by decide) (fun K hK => ?_)
        refine Kd.R_append_zeros_step (Kd.int .u8) (w0 := w) w.heap.size (by rfl) (.tmp 50) (.tmp 55) 24 3 5 (.int .u8 0) 1 rfl Tryd.underlying24 Tryd.underlying3 info5 rfl (by decide) (by omega) v50 (pkB a0 a1 a2 a3 l8 ++ pkC a4 a5 a6 a7 4 ++ l8) 0 (wrap64 (wrap64 (16 - (l8.length : Int)) + 192)) (fun _ => True) rfl rfl rfl (fun _ _ => trivial) HO.out (by have := HG2.out; unfold wrap64; omega) HB.out (below_size HB.out) (by have := HG2.out; have : (wrap64 (wrap64 (16 - (l8.length : Int)) + 192)).toNat ≤ 208 := (by unfold wrap64; omega); simp [pkB, pkA, pk4_len, pk2, pkC]; omega) ?_
        intro v56 wa ho hb hg hat
        have n0_ := Aside0.mk (blk_grown BK.out hg (Kd.R_ne HO.out BK.out (by decide)))
        clear HO HB BK hg hat
        have ez : (wrap64 (wrap64 (16 - (l8.length : Int)) + 192)).toNat = 208 - l8.length := by have := HG2.out; unfold wrap64; omega
        rw [ez] at ho
        clear ez
        have HO := Aside0.mk ho
        have HB := Aside0.mk hb
        have BK := n0_
        clear n0_ ho hb
        refine hK.out _ _ ((blk_cell BK.out 8).trans rfl) (fun hHeld => ?_)
        clear hK K
        refine norm_ (a' := ?_) ?_ ?_
        rotate_left
        · show Act.put _ (some 56) _ = _
          simp only [Act.put, List.setIfInBounds_toArray, List.set_cons_zero, List.set_cons_succ, i64_w, i32_w]
          rfl
        refine pure_ (i := 10) (N := some 4) (v := ?_) (a' := ?_) #[true, true, true, true, true, true, true, true, true, true, true] rfl rfl (by kernel_rfl) (fun _ _ _ h => h) (Or.inl ⟨by rfl, ?_⟩) ?_ ?_
        rotate_left
        · intro w'
          go_simp
          with_reducible rfl
        rotate_left
        · simp only [Act.put, List.setIfInBounds_toArray, List.set_cons_zero, List.set_cons_succ, i64_w, i32_w]
          rfl
        refine done_ (by kernel_rfl) ?_
        clear hHeld
        go_wp2_with (first
          | (go_at_call 23; (with_reducible refine (longK 1669485411 (by decide) (by decide) (by have := HG2.out; simp [pkB, pkA, pk4_len, pk2, pkC]; omega) HB.out HO.out BK.out).mono ?_); rintro e w6 ⟨v58, rfl, ho, hk, hb⟩; clear HO HB BK; have HO := Aside0.mk ho; have HB := Aside0.mk hb; have BK := Aside0.mk hk; clear ho hb hk; have hp9 : w6.cell? ⟨gp, 9, none⟩ = some (.slice A9 l9.length c9) := (blk_cell BK.out 9).trans rfl)
          | (go_at_call 15; (with_reducible refine (option_Encode.calls k _ _ l9 ro re _ ?q1 ?q2 HRO.out).mono ?_); (case q1 => exact Kd.C_below HR9.out HB.out); (case q2 => exact HC9.out); rintro e w7 ⟨v62, rfl, hro, hb⟩; obtain ⟨Al, cl, rfl⟩ := Kd.R_slice hro; have HL := Aside0.mk (Kd.R_reads' hro).2.2; have n0_ := Aside0.mk (Kd.R_below HO.out hb); have n1_ := Aside0.mk (below_step HB.out hb); clear HO HB BK hp9 hro hb; have HO := n0_; have HB := n1_; clear n0_ n1_)
          | ((with_reducible refine gate_builtin (b := .append) (xs := #[.tmp 65, .tmp 66]) rfl ?_); at_builtin; refine Kd.R_append_rows (Kd.int .u8) (w0 := w) w.heap.size rfl (.tmp 65) (.tmp 66) 24 5 (.int .u8 0) 1 rfl Tryd.underlying24 info5 rfl (by decide) (by omega) v58 (pkHead a0 a1 a2 a3 a4 a5 a6 a7 l8) ro _ _ _ (fun _ => True) (fun _ => False) rfl rfl HO.out HL.out (fun _ _ h => h) (fun _ h => h.elim) (fun _ _ => trivial) HB.out (below_size HB.out) (by have := HG1.out; have := HG2.out; simp [pkHead, pkB, pkA, pk4_len, pk2, pkC]; omega) ?_; intro v67 wz ho hb hg hat; clear HO HB HL hg hat; have HO := Aside0.mk ho; have HB := Aside0.mk hb; clear ho hb)
          | fail)
        go_ret2
        exact ⟨_, by first | rfl | (simp; done), HO.out, HB.out⟩
end Go.Proofs.YtdpoknfidlekbaaDoor
end

section
namespace Go.Proofs.YtdpoknfidlekbaaDoor.PO
open Go.RowKit Go.Proofs.YtdpoknfidlekbaaDoor Go.Proofs.YtdpoknfidlekbaaDoor.Pr Go.Proofs.YtdpoknfidlekbaaDoorW.PrintWords Go.Proofs.YtdpoknfidlekbaaDoorW.PrintLast Go.Proofs.YtdpoknfidlekbaaDoorW.PrintMore
set_option linter.unusedVariables false
set_option linter.unusedSimpArgs false

abbrev Opt := S53
theorem wrapO {x : Int} (h0 : 0 ≤ x) (h1 : x < 9223372036854775808) : wrap64 x = x := by unfold wrap64; omega
theorem rd_at (l : List Opt) {i : Nat} (h : i < l.length) : rd_T53 l (i : Int) = l[i] := by
  unfold rd_T53
  rw [Int.toNat_natCast, List.getD_eq_getElem?_getD, List.getElem?_eq_getElem h]
  rfl

def okOpt (x : Opt) : Prop := 1 ≤ x.f0 ∧ x.f0 ≤ 254 ∧ x.f1.length ≤ 255
instance (x : Opt) : Decidable (okOpt x) := by unfold okOpt; infer_instance
def enc1 (x : Opt) : List Int := [x.f0 % 256, (x.f1.length : Int) % 256] ++ x.f1
def enc (l : List Opt) : List Int := (l.map enc1).flatten
def encR (l : List Opt) : List Int × Int := if ∀ x ∈ l, okOpt x then (if 1024 ≤ (enc l).length then ([], 3) else (enc l ++ [255], 0)) else ([], 1)
def few (l : List Opt) : Prop := l.length ≤ 1048576 ∧ ∀ x ∈ l, x.f1.length ≤ 1048576
theorem enc_append (l m : List Opt) : enc (l ++ m) = enc l ++ enc m := by simp [enc]
theorem enc_one (x : Opt) : enc [x] = enc1 x := by simp [enc]
theorem enc1_len (x : Opt) : (enc1 x).length = x.f1.length + 2 := by simp [enc1]
theorem enc_len_le : ∀ (l : List Opt), (∀ x ∈ l, x.f1.length ≤ 1048576) → (enc l).length ≤ l.length * 1048578 := by
  intro l
  induction l with
  | nil => intro _; simp [enc]
  | cons x l ih =>
    intro h
    have h1 := ih (fun y hy => h y (by simp [hy]))
    have h2 := h x (by simp)
    have e : enc (x :: l) = enc1 x ++ enc l := by simp [enc]
    rw [e, List.length_append, enc1_len, List.length_cons]
    omega
theorem enc_take_le (l : List Opt) (i : Nat) : (enc (l.take i)).length ≤ (enc l).length := by
  have : enc l = enc (l.take i) ++ enc (l.drop i) := by rw [← enc_append, List.take_append_drop]
  rw [this, List.length_append]; omega

/-! ### option.Encode -/
theorem odd_eq (x : Opt) : option_Encode_1.f x.f0 x.f1 = some (!decide (okOpt x)) := by
  unfold option_Encode_1.f
  by_cases ok : okOpt x
  · rw [decide_eq_true ok]
    unfold okOpt at ok
    rw [if_neg (by omega), if_neg (by omega), decide_eq_false (by omega)]
    rfl
  · rw [decide_eq_false ok]
    unfold okOpt at ok
    split
    · rfl
    · split
      · rfl
      · rw [decide_eq_true (by omega)]
        rfl
theorem index_spec (l : List Opt) (hl : l.length ≤ 1048576000) : ∀ (d i k : Nat), l.length ≤ i + d → i ≤ l.length → d < k →
    ∃ r : Int, slices_IndexFunc.l0 k l (l.length : Int) (i : Int) = some r ∧ ((0 ≤ r ∧ ∃ x ∈ l.drop i, ¬ okOpt x) ∨ (r < 0 ∧ ∀ x ∈ l.drop i, okOpt x)) := by
  intro d
  induction d with
  | zero =>
    intro i k h1 h2 hk
    obtain ⟨k, rfl⟩ : ∃ m, k = m + 1 := ⟨k - 1, by omega⟩
    refine ⟨-1, ?_, .inr ⟨by omega, ?_⟩⟩
    · simp only [slices_IndexFunc.l0]; rw [if_neg (by omega)]
    · rw [List.drop_of_length_le (by omega)]; simp
  | succ d ih =>
    intro i k h1 h2 hk
    obtain ⟨k, rfl⟩ : ∃ m, k = m + 1 := ⟨k - 1, by omega⟩
    by_cases h : i < l.length
    · simp only [slices_IndexFunc.l0]
      rw [if_pos (by omega), if_pos (by omega), if_pos (by omega), rd_at l h, odd_eq]
      simp only [Option.bind_some]
      rw [List.drop_eq_getElem_cons h]
      by_cases ok : okOpt l[i]
      · rw [decide_eq_true ok, wrapO (by omega) (by omega)]
        obtain ⟨r, hr, hs⟩ := ih (i + 1) k (by omega) (by omega) (by omega)
        refine ⟨r, by simpa using (show slices_IndexFunc.l0 k l (l.length : Int) ((i : Int) + 1) = some r from hr), ?_⟩
        rcases hs with ⟨a, x, hx, b⟩ | ⟨a, b⟩
        · exact .inl ⟨a, x, List.mem_cons_of_mem _ hx, b⟩
        · exact .inr ⟨a, fun x hx => by
            rcases List.mem_cons.1 hx with rfl | hx
            · exact ok
            · exact b x hx⟩
      · rw [decide_eq_false ok]
        exact ⟨i, by simp, .inl ⟨by omega, l[i], List.mem_cons_self, ok⟩⟩
    · refine ⟨-1, ?_, .inr ⟨by omega, ?_⟩⟩
      · simp only [slices_IndexFunc.l0]; rw [if_neg (by omega)]
      · rw [List.drop_of_length_le (by omega)]; simp
theorem contains_eq (l : List Opt) (hl : l.length ≤ 1048576000) (a : Int) (k : Nat) (hk : l.length < k) : slices_ContainsFunc.f k l a = some (!decide (∀ x ∈ l, okOpt x)) := by
  obtain ⟨r, hr, hs⟩ := index_spec l hl l.length 0 k (by omega) (by omega) hk
  unfold slices_ContainsFunc.f slices_IndexFunc.f
  rw [show ((0 : Nat) : Int) = 0 from rfl] at hr
  rw [hr]
  simp only [Option.bind_some]
  rw [List.drop_zero] at hs
  rcases hs with ⟨h1, x, hx, h2⟩ | ⟨h1, h2⟩
  · rw [decide_eq_true (by omega), decide_eq_false (fun h => h2 (h x hx))]; rfl
  · rw [decide_eq_false (by omega), decide_eq_true h2]; rfl
theorem encode_loop (l : List Opt) (hf : few l) : ∀ (d i k : Nat), l.length ≤ i + d → i ≤ l.length → d < k →
    option_Encode.l0 k (enc (l.take i)) l (l.length : Int) (i : Int) = some (if 1024 ≤ (enc l).length then ([], 3) else (enc l ++ [255], 0)) := by
  obtain ⟨hn, hx⟩ := hf
  have hel := enc_len_le l hx
  have hel' : (enc l).length ≤ 1099513724928 := by omega
  intro d
  induction d with
  | zero =>
    intro i k h1 h2 hk
    obtain ⟨k, rfl⟩ : ∃ m, k = m + 1 := ⟨k - 1, by omega⟩
    simp only [option_Encode.l0]
    rw [if_neg (by omega), List.take_of_length_le (by omega), if_pos (by omega)]
    simp only [Option.bind_some]
    by_cases c : 1024 ≤ (enc l).length
    · rw [if_pos (by simp; omega), if_pos c]
    · rw [if_neg (by simp; omega), if_neg c]
  | succ d ih =>
    intro i k h1 h2 hk
    obtain ⟨k, rfl⟩ : ∃ m, k = m + 1 := ⟨k - 1, by omega⟩
    by_cases h : i < l.length
    · simp only [option_Encode.l0]
      have ht := enc_take_le l i
      have ht1 := enc_take_le l (i + 1)
      have hx1 := hx l[i] (List.getElem_mem h)
      rw [if_pos (by omega), if_pos (by omega), if_pos (by omega), rd_at l h]
      simp only [Option.bind_some]
      rw [if_pos (by simp; omega), if_pos (by simp; omega), wrapO (by omega) (by omega)]
      have e : enc (l.take i) ++ [l[i].f0 % 256, (l[i].f1.length : Int) % 256] ++ l[i].f1 = enc (l.take (i + 1)) := by
        rw [List.take_succ_eq_append_getElem h, enc_append, enc_one, enc1, List.append_assoc]
      rw [e]
      exact ih (i + 1) k (by omega) (by omega) (by omega)
    · obtain rfl : i = l.length := by omega
      simp only [option_Encode.l0]
      rw [if_neg (by omega), List.take_of_length_le (by omega), if_pos (by omega)]
      simp only [Option.bind_some]
      by_cases c : 1024 ≤ (enc l).length
      · rw [if_pos (by simp; omega), if_pos c]
      · rw [if_neg (by simp; omega), if_neg c]
theorem encode_eq (l : List Opt) (hf : few l) (k : Nat) (hk : 1048577 ≤ k) : option_Encode.f k l = some (encR l) := by
  have hn := hf.1
  unfold option_Encode.f encR
  rw [contains_eq l (by omega) _ k (by omega)]
  simp only [Option.bind_some]
  by_cases ok : ∀ x ∈ l, okOpt x
  · rw [decide_eq_true ok, if_neg (by decide), if_pos ok]
    exact encode_loop l hf l.length 0 k (by omega) (by omega) (by omega)
  · rw [decide_eq_false ok, if_pos (by decide), if_neg ok]

/-! ### the reference's -/
/-! ### few -/
end Go.Proofs.YtdpoknfidlekbaaDoor.PO
end
