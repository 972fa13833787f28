/-
  Printed: PrF32.
  Options as bytes, over lists: what option.Encode and the reference's Encode compute of few options.
-/
import Derived.Test.YtmbfdmceameghaaDoorMPD2
import Derived.Test.YtmbfdmceameghaaDoorMPD3

section
-- written by a program of this session (wip/tools/gen.py) over the kit's print
namespace Go.Proofs.YtmbfdmceameghaaDoor.Pr
open Go.RowKit Go.Proofs.YtmbfdmceameghaaDoorW.PrintWords Go.Proofs.YtmbfdmceameghaaDoorW.PrintLast Go.Proofs.YtmbfdmceameghaaDoorW.PrintMore
attribute [local go_sem] max2_int min2_int max_two min_two max_three min_three max_four min_four   -- for this text's walks alone
set_option linter.unusedVariables false
set_option linter.unusedSimpArgs false

/-! ### lessorref02_Encode: function 32 -/
mutual
def lessorref02_Encode.l0 : Nat → List (S39) → Int → Option (List Int × Int)
 | 0, _, _ => none
 | k + 1, x0, x4 => if x4 < (x0.length : Int) then (if 0 ≤ x4 then (if ((rd_T39 x0 x4).f0) < 1 then (some (([] : List Int), 1)) else (if ((rd_T39 x0 x4).f0) > 254 then (some (([] : List Int), 1)) else (if (((rd_T39 x0 x4).f1).length : Int) > 255 then (some (([] : List Int), 1)) else (lessorref02_Encode.l0 k x0 (wrap64 (x4 + 1)))))) else (none)) else (lessorref02_Encode.l1 k x0 ([] : List Int) 0)
def lessorref02_Encode.l1 : Nat → List (S39) → List Int → Int → Option (List Int × Int)
 | 0, _, _, _ => none
 | k + 1, x0, x5, x6 => if x6 < (x0.length : Int) then (if 0 ≤ x6 then ((some (([((rd_T39 x0 x6).f0) % 256, ((((rd_T39 x0 x6).f1).length : Int)) % 256] : List Int) : List Int)).bind fun y143 => (if x5.length + y143.length < 140737488355328 then ((some (x5 ++ y143 : List Int)).bind fun y146 => (if y146.length + ((rd_T39 x0 x6).f1).length < 140737488355328 then ((some (y146 ++ ((rd_T39 x0 x6).f1) : List Int)).bind fun y150 => (if (y150.length : Int) ≥ 1024 then (some (([] : List Int), 3)) else (lessorref02_Encode.l1 k x0 y150 (wrap64 (x6 + 1))))) else (none))) else (none))) else (none)) else (if x5.length < 140737488355328 then (some ((x5 ++ [255]), 0)) else (none))
end
def lessorref02_Encode.f (k : Nat) (l0 : List (S39)) : Option (List Int × Int) := lessorref02_Encode.l0 k l0 0
theorem lessorref02_Encode.mono_l : ∀ k, (∀ y0 y1, LeO (lessorref02_Encode.l0 k y0 y1) (lessorref02_Encode.l0 (k + 1) y0 y1)) ∧ (∀ y0 y1 y2, LeO (lessorref02_Encode.l1 k y0 y1 y2) (lessorref02_Encode.l1 (k + 1) y0 y1 y2))
 | 0 => ⟨fun _ _ r h => by simp [lessorref02_Encode.l0] at h, fun _ _ _ r h => by simp [lessorref02_Encode.l1] at h⟩
 | k + 1 => by
  obtain ⟨ih0, ih1⟩ := lessorref02_Encode.mono_l k
  refine ⟨?_, ?_⟩
  ·intro y0 y1
   unfold lessorref02_Encode.l0
   repeat' first
   | (with_reducible exact ih0 _ _)
   | (with_reducible exact ih1 _ _ _)
   | (with_reducible exact LeO.refl _)
   | (with_reducible exact LeO.none _)
   | (with_reducible refine LeO.ite ?_ ?_)
   | (with_reducible refine LeO.bind ?_ (fun _ => ?_))
   | exact ih0 _ _
   | exact ih1 _ _ _
   | exact LeO.none _
   | refine LeO.ite ?_ ?_
   | refine LeO.bind ?_ (fun _ => ?_)
  ·intro y0 y1 y2
   unfold lessorref02_Encode.l1
   repeat' first
   | (with_reducible exact ih0 _ _)
   | (with_reducible exact ih1 _ _ _)
   | (with_reducible exact LeO.refl _)
   | (with_reducible exact LeO.none _)
   | (with_reducible refine LeO.ite ?_ ?_)
   | (with_reducible refine LeO.bind ?_ (fun _ => ?_))
   | exact ih0 _ _
   | exact ih1 _ _ _
   | exact LeO.none _
   | refine LeO.ite ?_ ?_
   | refine LeO.bind ?_ (fun _ => ?_)
theorem lessorref02_Encode.mono : ∀ a0 k, LeO (lessorref02_Encode.f k a0) (lessorref02_Encode.f (k + 1) a0) := by
 intro a0 k
 obtain ⟨ih0, ih1⟩ := lessorref02_Encode.mono_l k
 unfold lessorref02_Encode.f
 repeat' first
   | (with_reducible exact ih0 _ _)
   | (with_reducible exact ih1 _ _ _)
   | (with_reducible exact LeO.refl _)
   | (with_reducible exact LeO.none _)
   | (with_reducible refine LeO.ite ?_ ?_)
   | (with_reducible refine LeO.bind ?_ (fun _ => ?_))
   | exact ih0 _ _
   | exact ih1 _ _ _
   | exact LeO.none _
   | refine LeO.ite ?_ ?_
   | refine LeO.bind ?_ (fun _ => ?_)
def lessorref02_Encode.T10 : Bool × List (List Nat × List Nat) := (true, [([], []), ([], []), ([], []), ([1, 2], [1, 2]), ([3], [3]), ([4], [4]), ([5], [5]), ([], []), ([], []), ([7, 8], [7, 8]), ([9], [9]), ([10], [10]), ([11], [11]), ([12], [12]), ([6, 13], [6, 13]), ([0, 14], [0, 14]), ([15, 15, 0, 1, 2, 3, 4, 5, 6, 7, 8, 9, 10, 11, 12, 13, 14, 15], [0, 15])])
def lessorref02_Encode.B10 : List Nat := [0, 0, 0, 6, 14, 30, 62, 0, 0, 384, 896, 1920, 3968, 8064, 16382, 32767, 65535]
theorem lessorref02_Encode.tab10 : rtab .any (opsOf Tryd.f32 10) = lessorref02_Encode.T10 := by kernel_rfl
theorem lessorref02_Encode.bits10 : waitsOk lessorref02_Encode.T10.2 lessorref02_Encode.B10 = true := by kernel_rfl
set_option maxHeartbeats 8000000 in
set_option maxRecDepth 100000 in
theorem lessorref02_Encode.calls (k : Nat) (A0 : Option Addr) (c0 : Nat) (l0 : List (S39)) (r1 : List Int) (r2 : Int) (w : World) (hr0 : Kd.C k39 w A0 l0.length l0) (hc0 : l0.length ≤ c0) (h : lessorref02_Encode.f k l0 = some (r1, r2)) :
  Calls Tryd.prog 32 #[.slice A0 l0.length c0] w fun e w' => ∃ v0_ : Value, e = .returned (.tuple #[v0_, .int .i64 r2]) ∧ Kd.R (Kd.int .u8) 5 w' w.heap.size (fun _ => True) v0_ r1 ∧ Below w.heap.size w w' := by
 have HR0 := Aside0.mk hr0
 have HC0 := Aside0.mk hc0
 clear hr0 hc0
 have HB := Aside0.mk (Below.refl w.heap.size w)
 have H : (lessorref02_Encode.l0 k l0 0) = some (r1, r2) := h
 clear h
 have H' := Aside0.mk H
 clear H
 go_enter Tryd.func32, Tryd.ntmps32
 go_wp2
 go_loopg [4] k (fun kq v4 w' => ∃ (x4_1 : Int), v4 = .int .i64 x4_1 ∧ Aside0 (lessorref02_Encode.l0 kq l0 x4_1 = some (r1, r2)) ∧ Aside0 (kq ≤ k) ∧ Aside0 (Below w.heap.size w w'))
 case atStart => exact ⟨(0), (by first | rfl | (simp; done) | (simp [*]; done)), H', ⟨Nat.le_refl _⟩, ⟨by repeat (first | (with_reducible first | exact HB.out | apply below_alloc | apply pw_below_drewN | apply below_drew1) | exact HB.out)⟩⟩
 case round =>
  clear H'
  obtain ⟨x4_1, rfl, HA, HK1, HB⟩ := hrel
  cases gk with
  | zero => exact absurd HA.out (by simp [lessorref02_Encode.l0])
  | succ k1 =>
   have H := HA.out
   clear HA
   simp only [lessorref02_Encode.l0] at H
   by_cases c2 : x4_1 < (l0.length : Int)
   ·rw [if_pos c2] at H
    have c2b0 : decide (x4_1 < (l0.length : Int)) = true := decide_eq_true c2
    clear c2
    by_cases c3 : 0 ≤ x4_1
    ·rw [if_pos c3] at H
     have c3b0 : decide (0 ≤ x4_1) = true := decide_eq_true c3
     clear c3
     by_cases c4 : ((rd_T39 l0 x4_1).f0) < 1
     ·rw [if_pos c4] at H
      have c4b0 : decide (((rd_T39 l0 x4_1).f0) < 1) = true := decide_eq_true c4
      clear c4
      simp only [Option.some.injEq, Prod.mk.injEq] at H
      obtain ⟨rfl, rfl⟩ := H
      have p138 : 0 ≤ (x4_1 : Int) := of_decide_eq_true (by first | (with_reducible assumption) | assumption)
      have q138 : x4_1 < (l0.length : Int) := of_decide_eq_true (by first | (with_reducible assumption) | assumption)
      obtain ⟨ad138, A138_1, c138_1, e138, hx138_0, hx138_1, hl138_1, hi138_1⟩ := at_T39 HR0.out x4_1 p138 q138
      cases e138
      replace hx138_0 := (HB.out.cell (World.block_lt_of_cell? w _ hx138_0)).trans hx138_0
      replace hx138_1 := (HB.out.cell (World.block_lt_of_cell? w _ hx138_1)).trans hx138_1
      have HR138_1 := Aside0.mk hi138_1
      have HC138_1 := Aside0.mk hl138_1
      clear hi138_1 hl138_1
      replace p138 := eq_true p138
      replace q138 := eq_true q138
      go_wp2
      go_ret2
      exact ⟨_, by first | rfl | (simp [errW_none, errW_some] <;> rfl) | (simp [*, errW_none, errW_some] <;> rfl), by first | exact Kd.R_nil _ _ _ _ _ | exact Kd.N_nil _ _ _ _ _ | exact Kd.V_nil _ _ _ _ _ | exact Kd.Q_nil _ _ _ _ _ | exact Kd.S_nil _ _ _ _ _, by repeat (first | (with_reducible first | exact HB.out | apply below_alloc | apply pw_below_drewN | apply below_drew1) | exact HB.out)⟩
     ·rw [if_neg c4] at H
      have c4b0 : decide (((rd_T39 l0 x4_1).f0) < 1) = false := decide_eq_false c4
      clear c4
      by_cases c5 : ((rd_T39 l0 x4_1).f0) > 254
      ·rw [if_pos c5] at H
       have c5b0 : decide (254 < ((rd_T39 l0 x4_1).f0)) = true := decide_eq_true c5
       clear c5
       simp only [Option.some.injEq, Prod.mk.injEq] at H
       obtain ⟨rfl, rfl⟩ := H
       have p138 : 0 ≤ (x4_1 : Int) := of_decide_eq_true (by first | (with_reducible assumption) | assumption)
       have q138 : x4_1 < (l0.length : Int) := of_decide_eq_true (by first | (with_reducible assumption) | assumption)
       obtain ⟨ad138, A138_1, c138_1, e138, hx138_0, hx138_1, hl138_1, hi138_1⟩ := at_T39 HR0.out x4_1 p138 q138
       cases e138
       replace hx138_0 := (HB.out.cell (World.block_lt_of_cell? w _ hx138_0)).trans hx138_0
       replace hx138_1 := (HB.out.cell (World.block_lt_of_cell? w _ hx138_1)).trans hx138_1
       have HR138_1 := Aside0.mk hi138_1
       have HC138_1 := Aside0.mk hl138_1
       clear hi138_1 hl138_1
       replace p138 := eq_true p138
       replace q138 := eq_true q138
       have p139 : 0 ≤ (x4_1 : Int) := of_decide_eq_true (by first | (with_reducible assumption) | assumption)
       have q139 : x4_1 < (l0.length : Int) := of_decide_eq_true (by first | (with_reducible assumption) | assumption)
       obtain ⟨ad139, A139_1, c139_1, e139, hx139_0, hx139_1, hl139_1, hi139_1⟩ := at_T39 HR0.out x4_1 p139 q139
       obtain rfl : ad138 = ad139 := (by injection e139)
       replace hx139_0 := (HB.out.cell (World.block_lt_of_cell? w _ hx139_0)).trans hx139_0
       replace hx139_1 := (HB.out.cell (World.block_lt_of_cell? w _ hx139_1)).trans hx139_1
       have HR139_1 := Aside0.mk hi139_1
       have HC139_1 := Aside0.mk hl139_1
       clear hi139_1 hl139_1
       replace p139 := eq_true p139
       replace q139 := eq_true q139
       have ea_ := Option.some.inj (hx138_1.symm.trans hx139_1)
       injection ea_ with ea_ en_ ec_
       subst ea_
       subst ec_
       clear en_
       go_wp2
       go_ret2
       exact ⟨_, by first | rfl | (simp [errW_none, errW_some] <;> rfl) | (simp [*, errW_none, errW_some] <;> rfl), by first | exact Kd.R_nil _ _ _ _ _ | exact Kd.N_nil _ _ _ _ _ | exact Kd.V_nil _ _ _ _ _ | exact Kd.Q_nil _ _ _ _ _ | exact Kd.S_nil _ _ _ _ _, by repeat (first | (with_reducible first | exact HB.out | apply below_alloc | apply pw_below_drewN | apply below_drew1) | exact HB.out)⟩
      ·rw [if_neg c5] at H
       have c5b0 : decide (254 < ((rd_T39 l0 x4_1).f0)) = false := decide_eq_false c5
       clear c5
       by_cases c6 : (((rd_T39 l0 x4_1).f1).length : Int) > 255
       ·rw [if_pos c6] at H
        have c6b0 : decide (255 < (((rd_T39 l0 x4_1).f1).length : Int)) = true := decide_eq_true c6
        have c6b1 : decide (255 < ((rd_T39 l0 x4_1).f1).length) = true := decide_eq_true (by omega)
        clear c6
        simp only [Option.some.injEq, Prod.mk.injEq] at H
        obtain ⟨rfl, rfl⟩ := H
        have p138 : 0 ≤ (x4_1 : Int) := of_decide_eq_true (by first | (with_reducible assumption) | assumption)
        have q138 : x4_1 < (l0.length : Int) := of_decide_eq_true (by first | (with_reducible assumption) | assumption)
        obtain ⟨ad138, A138_1, c138_1, e138, hx138_0, hx138_1, hl138_1, hi138_1⟩ := at_T39 HR0.out x4_1 p138 q138
        cases e138
        replace hx138_0 := (HB.out.cell (World.block_lt_of_cell? w _ hx138_0)).trans hx138_0
        replace hx138_1 := (HB.out.cell (World.block_lt_of_cell? w _ hx138_1)).trans hx138_1
        have HR138_1 := Aside0.mk hi138_1
        have HC138_1 := Aside0.mk hl138_1
        clear hi138_1 hl138_1
        replace p138 := eq_true p138
        replace q138 := eq_true q138
        have p139 : 0 ≤ (x4_1 : Int) := of_decide_eq_true (by first | (with_reducible assumption) | assumption)
        have q139 : x4_1 < (l0.length : Int) := of_decide_eq_true (by first | (with_reducible assumption) | assumption)
        obtain ⟨ad139, A139_1, c139_1, e139, hx139_0, hx139_1, hl139_1, hi139_1⟩ := at_T39 HR0.out x4_1 p139 q139
        obtain rfl : ad138 = ad139 := (by injection e139)
        replace hx139_0 := (HB.out.cell (World.block_lt_of_cell? w _ hx139_0)).trans hx139_0
        replace hx139_1 := (HB.out.cell (World.block_lt_of_cell? w _ hx139_1)).trans hx139_1
        have HR139_1 := Aside0.mk hi139_1
        have HC139_1 := Aside0.mk hl139_1
        clear hi139_1 hl139_1
        replace p139 := eq_true p139
        replace q139 := eq_true q139
        have ea_ := Option.some.inj (hx138_1.symm.trans hx139_1)
        injection ea_ with ea_ en_ ec_
        subst ea_
        subst ec_
        clear en_
        have p140 : 0 ≤ (x4_1 : Int) := of_decide_eq_true (by first | (with_reducible assumption) | assumption)
        have q140 : x4_1 < (l0.length : Int) := of_decide_eq_true (by first | (with_reducible assumption) | assumption)
        obtain ⟨ad140, A140_1, c140_1, e140, hx140_0, hx140_1, hl140_1, hi140_1⟩ := at_T39 HR0.out x4_1 p140 q140
        obtain rfl : ad138 = ad140 := (by injection e140)
        replace hx140_0 := (HB.out.cell (World.block_lt_of_cell? w _ hx140_0)).trans hx140_0
        replace hx140_1 := (HB.out.cell (World.block_lt_of_cell? w _ hx140_1)).trans hx140_1
        have HR140_1 := Aside0.mk hi140_1
        have HC140_1 := Aside0.mk hl140_1
        clear hi140_1 hl140_1
        replace p140 := eq_true p140
        replace q140 := eq_true q140
        have ea_ := Option.some.inj (hx138_1.symm.trans hx140_1)
        injection ea_ with ea_ en_ ec_
        subst ea_
        subst ec_
        clear en_
        go_wp2
        go_ret2
        exact ⟨_, by first | rfl | (simp [errW_none, errW_some] <;> rfl) | (simp [*, errW_none, errW_some] <;> rfl), by first | exact Kd.R_nil _ _ _ _ _ | exact Kd.N_nil _ _ _ _ _ | exact Kd.V_nil _ _ _ _ _ | exact Kd.Q_nil _ _ _ _ _ | exact Kd.S_nil _ _ _ _ _, by repeat (first | (with_reducible first | exact HB.out | apply below_alloc | apply pw_below_drewN | apply below_drew1) | exact HB.out)⟩
       ·rw [if_neg c6] at H
        have c6b0 : decide (255 < (((rd_T39 l0 x4_1).f1).length : Int)) = false := decide_eq_false c6
        have c6b1 : decide (255 < ((rd_T39 l0 x4_1).f1).length) = false := decide_eq_false (by omega)
        clear c6
        have H' := Aside0.mk H
        clear H
        have p138 : 0 ≤ (x4_1 : Int) := of_decide_eq_true (by first | (with_reducible assumption) | assumption)
        have q138 : x4_1 < (l0.length : Int) := of_decide_eq_true (by first | (with_reducible assumption) | assumption)
        obtain ⟨ad138, A138_1, c138_1, e138, hx138_0, hx138_1, hl138_1, hi138_1⟩ := at_T39 HR0.out x4_1 p138 q138
        cases e138
        replace hx138_0 := (HB.out.cell (World.block_lt_of_cell? w _ hx138_0)).trans hx138_0
        replace hx138_1 := (HB.out.cell (World.block_lt_of_cell? w _ hx138_1)).trans hx138_1
        have HR138_1 := Aside0.mk hi138_1
        have HC138_1 := Aside0.mk hl138_1
        clear hi138_1 hl138_1
        replace p138 := eq_true p138
        replace q138 := eq_true q138
        have p139 : 0 ≤ (x4_1 : Int) := of_decide_eq_true (by first | (with_reducible assumption) | assumption)
        have q139 : x4_1 < (l0.length : Int) := of_decide_eq_true (by first | (with_reducible assumption) | assumption)
        obtain ⟨ad139, A139_1, c139_1, e139, hx139_0, hx139_1, hl139_1, hi139_1⟩ := at_T39 HR0.out x4_1 p139 q139
        obtain rfl : ad138 = ad139 := (by injection e139)
        replace hx139_0 := (HB.out.cell (World.block_lt_of_cell? w _ hx139_0)).trans hx139_0
        replace hx139_1 := (HB.out.cell (World.block_lt_of_cell? w _ hx139_1)).trans hx139_1
        have HR139_1 := Aside0.mk hi139_1
        have HC139_1 := Aside0.mk hl139_1
        clear hi139_1 hl139_1
        replace p139 := eq_true p139
        replace q139 := eq_true q139
        have ea_ := Option.some.inj (hx138_1.symm.trans hx139_1)
        injection ea_ with ea_ en_ ec_
        subst ea_
        subst ec_
        clear en_
        have p140 : 0 ≤ (x4_1 : Int) := of_decide_eq_true (by first | (with_reducible assumption) | assumption)
        have q140 : x4_1 < (l0.length : Int) := of_decide_eq_true (by first | (with_reducible assumption) | assumption)
        obtain ⟨ad140, A140_1, c140_1, e140, hx140_0, hx140_1, hl140_1, hi140_1⟩ := at_T39 HR0.out x4_1 p140 q140
        obtain rfl : ad138 = ad140 := (by injection e140)
        replace hx140_0 := (HB.out.cell (World.block_lt_of_cell? w _ hx140_0)).trans hx140_0
        replace hx140_1 := (HB.out.cell (World.block_lt_of_cell? w _ hx140_1)).trans hx140_1
        have HR140_1 := Aside0.mk hi140_1
        have HC140_1 := Aside0.mk hl140_1
        clear hi140_1 hl140_1
        replace p140 := eq_true p140
        replace q140 := eq_true q140
        have ea_ := Option.some.inj (hx138_1.symm.trans hx140_1)
        injection ea_ with ea_ en_ ec_
        subst ea_
        subst ec_
        clear en_
        go_wp2
        go_roundg k1
        case measure => have := HK1.out; omega
        case rel => exact ⟨(wrap64 (x4_1 + 1)), (by first | rfl | (simp; done) | (simp [*]; done)), H', ⟨by have := HK1.out; omega⟩, ⟨by repeat (first | (with_reducible first | exact HB.out | apply below_alloc | apply pw_below_drewN | apply below_drew1) | exact HB.out)⟩⟩
    ·rw [if_neg c3] at H
     exact absurd H (by simp)
   ·rw [if_neg c2] at H
    have c2b0 : decide (x4_1 < (l0.length : Int)) = false := decide_eq_false c2
    clear c2
    have H' := Aside0.mk H
    clear H
    go_wp2
    go_loopg [5, 6] k1 (fun kq v5 v6 w' => ∃ (x5_2 : List Int) (x6_2 : Int), v6 = .int .i64 x6_2 ∧ Aside0 (lessorref02_Encode.l1 kq l0 x5_2 x6_2 = some (r1, r2)) ∧ Aside0 (kq ≤ k1) ∧ Aside0 (Kd.R (Kd.int .u8) 5 w' w.heap.size (fun _ => True) v5 x5_2) ∧ Aside0 (Below w.heap.size w w'))
    case atStart => exact ⟨(([] : List Int)), (0), (by first | rfl | (simp; done) | (simp [*]; done)), H', ⟨Nat.le_refl _⟩, ⟨by first | exact Kd.R_nil _ _ _ _ _ | exact Kd.N_nil _ _ _ _ _ | exact Kd.V_nil _ _ _ _ _ | exact Kd.Q_nil _ _ _ _ _ | exact Kd.S_nil _ _ _ _ _⟩, ⟨by repeat (first | (with_reducible first | exact HB.out | apply below_alloc | apply pw_below_drewN | apply below_drew1) | exact HB.out)⟩⟩
    case round =>
     clear H'
     try clear c1
     try clear p1
     try clear q1
     try clear hx1
     try clear c2
     try clear c2b0
     try clear p2
     try clear c3
     try clear c3b0
     try clear c4
     try clear c4b0
     try clear c5
     try clear c5b0
     try clear c6
     try clear c6b0
     try clear c6b1
     try clear p6
     try clear hx138_0
     try clear hx138_1
     try clear hx139_0
     try clear hx139_1
     try clear hx140_0
     try clear hx140_1
     try clear p138
     try clear p139
     try clear p140
     try clear q138
     try clear q139
     try clear q140
     obtain ⟨x5_2, x6_2, rfl, HA, HK2, HO_5, HB⟩ := hrel
     cases gk with
     | zero => exact absurd HA.out (by simp [lessorref02_Encode.l1])
     | succ k2 =>
      have H := HA.out
      clear HA
      simp only [lessorref02_Encode.l1] at H
      by_cases c7 : x6_2 < (l0.length : Int)
      ·rw [if_pos c7] at H
       have c7b0 : decide (x6_2 < (l0.length : Int)) = true := decide_eq_true c7
       clear c7
       by_cases c8 : 0 ≤ x6_2
       ·rw [if_pos c8] at H
        have c8b0 : decide (0 ≤ x6_2) = true := decide_eq_true c8
        clear c8
        obtain ⟨y143, hy143⟩ : ∃ y_ : List Int, y_ = (([((rd_T39 l0 x6_2).f0) % 256, ((((rd_T39 l0 x6_2).f1).length : Int)) % 256] : List Int)) := ⟨_, rfl⟩
        replace H : (if x5_2.length + y143.length < 140737488355328 then ((some (x5_2 ++ y143 : List Int)).bind fun y146 => (if y146.length + ((rd_T39 l0 x6_2).f1).length < 140737488355328 then ((some (y146 ++ ((rd_T39 l0 x6_2).f1) : List Int)).bind fun y150 => (if (y150.length : Int) ≥ 1024 then (some (([] : List Int), 3)) else (lessorref02_Encode.l1 k2 l0 y150 (wrap64 (x6_2 + 1))))) else (none))) else (none)) = some (r1, r2) := by first | (rw [hy143]; with_reducible exact H) | (have H2_ := (Option.bind_some _ _).symm.trans H; rw [hy143]; with_reducible exact H2_) | (have H2_ := (Option.bind_some _ _).symm.trans H; with_reducible exact H2_) | with_reducible exact H | (rw [hy143]; exact H) | exact H
        have Ny143 := Aside0.mk hy143
        clear hy143
        by_cases c9 : x5_2.length + y143.length < 140737488355328
        ·rw [if_pos c9] at H
         have LMc9 := Aside0.mk c9
         clear c9
         obtain ⟨y146, hy146⟩ : ∃ y_ : List Int, y_ = (x5_2 ++ y143) := ⟨_, rfl⟩
         replace H : (if y146.length + ((rd_T39 l0 x6_2).f1).length < 140737488355328 then ((some (y146 ++ ((rd_T39 l0 x6_2).f1) : List Int)).bind fun y150 => (if (y150.length : Int) ≥ 1024 then (some (([] : List Int), 3)) else (lessorref02_Encode.l1 k2 l0 y150 (wrap64 (x6_2 + 1))))) else (none)) = some (r1, r2) := by first | (rw [hy146]; with_reducible exact H) | (have H2_ := (Option.bind_some _ _).symm.trans H; rw [hy146]; with_reducible exact H2_) | (have H2_ := (Option.bind_some _ _).symm.trans H; with_reducible exact H2_) | with_reducible exact H | (rw [hy146]; exact H) | exact H
         have Ny146 := Aside0.mk hy146
         clear hy146
         by_cases c10 : y146.length + ((rd_T39 l0 x6_2).f1).length < 140737488355328
         ·rw [if_pos c10] at H
          have LMc10 := Aside0.mk c10
          clear c10
          obtain ⟨y150, hy150⟩ : ∃ y_ : List Int, y_ = (y146 ++ ((rd_T39 l0 x6_2).f1)) := ⟨_, rfl⟩
          replace H : (if (y150.length : Int) ≥ 1024 then (some (([] : List Int), 3)) else (lessorref02_Encode.l1 k2 l0 y150 (wrap64 (x6_2 + 1)))) = some (r1, r2) := by first | (rw [hy150]; with_reducible exact H) | (have H2_ := (Option.bind_some _ _).symm.trans H; rw [hy150]; with_reducible exact H2_) | (have H2_ := (Option.bind_some _ _).symm.trans H; with_reducible exact H2_) | with_reducible exact H | (rw [hy150]; exact H) | exact H
          have Ny150 := Aside0.mk hy150
          clear hy150
          by_cases c11 : (y150.length : Int) ≥ 1024
          ·rw [if_pos c11] at H
           have c11b0 : decide (1024 ≤ (y150.length : Int)) = true := decide_eq_true c11
           have c11b1 : decide (1024 ≤ y150.length) = true := decide_eq_true (by omega)
           clear c11
           simp only [Option.some.injEq, Prod.mk.injEq] at H
           obtain ⟨rfl, rfl⟩ := H
           try go_wp2
           have n0_ := Aside0.mk (Kd.R_drew HO_5.out)
           have n1_ := Aside0.mk (below_drew1 HB.out)
           clear HO_5
           clear HB
           have HO_5 := n0_
           have HB := n1_
           clear n0_ n1_
           have p141 : 0 ≤ (x6_2 : Int) := of_decide_eq_true (by first | (with_reducible assumption) | assumption)
           have q141 : x6_2 < (l0.length : Int) := of_decide_eq_true (by first | (with_reducible assumption) | assumption)
           obtain ⟨ad141, A141_1, c141_1, e141, hx141_0, hx141_1, hl141_1, hi141_1⟩ := at_T39 HR0.out x6_2 p141 q141
           have hw141_1 := hx141_1
           have hw141_0 := hx141_0
           cases e141
           replace hx141_0 := (HB.out.cell (World.block_lt_of_cell? w _ hx141_0)).trans hx141_0
           replace hx141_1 := (HB.out.cell (World.block_lt_of_cell? w _ hx141_1)).trans hx141_1
           have HR141_1 := Aside0.mk hi141_1
           have HC141_1 := Aside0.mk hl141_1
           clear hi141_1 hl141_1
           replace p141 := eq_true p141
           replace q141 := eq_true q141
           have p142 : 0 ≤ (x6_2 : Int) := of_decide_eq_true (by first | (with_reducible assumption) | assumption)
           have q142 : x6_2 < (l0.length : Int) := of_decide_eq_true (by first | (with_reducible assumption) | assumption)
           obtain ⟨ad142, A142_1, c142_1, e142, hx142_0, hx142_1, hl142_1, hi142_1⟩ := at_T39 HR0.out x6_2 p142 q142
           have hw142_1 := hx142_1
           have hw142_0 := hx142_0
           obtain rfl : ad141 = ad142 := (by injection e142)
           replace hx142_0 := (HB.out.cell (World.block_lt_of_cell? w _ hx142_0)).trans hx142_0
           replace hx142_1 := (HB.out.cell (World.block_lt_of_cell? w _ hx142_1)).trans hx142_1
           have HR142_1 := Aside0.mk hi142_1
           have HC142_1 := Aside0.mk hl142_1
           clear hi142_1 hl142_1
           replace p142 := eq_true p142
           replace q142 := eq_true q142
           have ea_ := Option.some.inj (hx141_1.symm.trans hx142_1)
           injection ea_ with ea_ en_ ec_
           subst ea_
           subst ec_
           clear en_
           refine start_ (n := 17) (S := fun w' => w'.cell? (ad141.add ((x6_2).toNat * 2)) = some (.int .i64 ((rd_T39 l0 x6_2).f0)) ∧ w'.cell? ⟨(ad141.add ((x6_2).toNat * 2)).block, (ad141.add ((x6_2).toNat * 2)).off + 1, none⟩ = some (.slice A141_1 ((rd_T39 l0 x6_2).f1).length c141_1) ∧ w'.cell? (ad141.add ((x6_2).toNat * 2)) = some (.int .i64 ((rd_T39 l0 x6_2).f0)) ∧ w'.cell? ⟨(ad141.add ((x6_2).toNat * 2)).block, (ad141.add ((x6_2).toNat * 2)).off + 1, none⟩ = some (.slice A141_1 ((rd_T39 l0 x6_2).f1).length c141_1)) (ds := []) #[false, false, false, false, false, false, false, false, false, false, false, false, false, false, false, false, false] (by kernel_rfl) rfl rfl ⟨((HB.out.cell (World.block_lt_of_cell? w _ hw141_0)).trans hw141_0), ((HB.out.cell (World.block_lt_of_cell? w _ hw141_1)).trans hw141_1), ((HB.out.cell (World.block_lt_of_cell? w _ hw142_0)).trans hw142_0), ((HB.out.cell (World.block_lt_of_cell? w _ hw142_1)).trans hw142_1)⟩ (fun hHeld => ?_); refine with_tabW lessorref02_Encode.tab10 lessorref02_Encode.bits10 (fun HT_ HW_ => ?_)
           generalize wr.drew = w12 at HO_5 HB HR141_1 HR142_1 hx141_0 hx141_1 hx142_0 hx142_1 hHeld ⊢
           refine pure_ (i := 0) (N := some 42) (v := ?_) (a' := ?_) #[true, false, false, false, false, false, false, false, false, false, false, false, false, false, false, false, false] rfl rfl (any_of HT_.out (by kernel_rfl)) (fun _ _ _ h => h) (Or.inl ⟨by rfl, ?_⟩) ?_ ?_
           rotate_left
           ·intro w'
            go_simp
            with_reducible rfl
           rotate_left
           ·simp only [Act.put, List.setIfInBounds_toArray, List.set_cons_zero, List.set_cons_succ, i64_w, i32_w]
            rfl
           refine pure_ (i := 1) (N := some 43) (v := ?_) (a' := ?_) #[true, true, false, false, false, false, false, false, false, false, false, false, false, false, false, false, false] rfl rfl (any_of HT_.out (by kernel_rfl)) (fun _ _ _ h => h) (Or.inl ⟨by rfl, ?_⟩) ?_ ?_
           rotate_left
           ·intro w'
            go_simp
            with_reducible rfl
           rotate_left
           ·simp only [Act.put, List.setIfInBounds_toArray, List.set_cons_zero, List.set_cons_succ, i64_w, i32_w]
            rfl
           refine pure_ (i := 2) (N := some 44) (v := ?_) (a' := ?_) #[true, true, true, false, false, false, false, false, false, false, false, false, false, false, false, false, false] rfl rfl (any_of HT_.out (by kernel_rfl)) (fun _ _ _ h => h) (Or.inl ⟨by rfl, ?_⟩) ?_ ?_
           rotate_left
           ·intro w'
            go_simp
            with_reducible rfl
           rotate_left
           ·simp only [Act.put, List.setIfInBounds_toArray, List.set_cons_zero, List.set_cons_succ, i64_w, i32_w]
            rfl
           refine pure_ (i := 3) (N := some 45) (v := ?_) (a' := ?_) #[true, true, true, true, false, false, false, false, false, false, false, false, false, false, false, false, false] rfl rfl (any_of HT_.out (by kernel_rfl)) (fun _ _ _ h => h) (Or.inl ⟨by rfl, ?_⟩) ?_ ?_
           rotate_left
           ·intro w'
            go_simp
            with_reducible rfl
           rotate_left
           ·simp only [Act.put, List.setIfInBounds_toArray, List.set_cons_zero, List.set_cons_succ, i64_w, i32_w]
            rfl
           refine pure_ (i := 4) (N := some 46) (v := ?_) (a' := ?_) #[true, true, true, true, true, false, false, false, false, false, false, false, false, false, false, false, false] rfl rfl (any_of HT_.out (by kernel_rfl)) (fun _ _ _ h => h) (Or.inl ⟨by rfl, ?_⟩) ?_ ?_
           rotate_left
           ·intro w'
            go_simp
            with_reducible rfl
           rotate_left
           ·simp only [Act.put, List.setIfInBounds_toArray, List.set_cons_zero, List.set_cons_succ, i64_w, i32_w]
            rfl
           refine pure_ (i := 7) (N := some 49) (v := ?_) (a' := ?_) #[true, true, true, true, true, false, false, true, false, false, false, false, false, false, false, false, false] rfl rfl (any_of HT_.out (by kernel_rfl)) (fun _ _ _ h => h) (Or.inl ⟨by rfl, ?_⟩) ?_ ?_
           rotate_left
           ·intro w'
            go_simp
            with_reducible rfl
           rotate_left
           ·simp only [Act.put, List.setIfInBounds_toArray, List.set_cons_zero, List.set_cons_succ, i64_w, i32_w]
            rfl
           refine pure_ (i := 8) (N := some 50) (v := ?_) (a' := ?_) #[true, true, true, true, true, false, false, true, true, false, false, false, false, false, false, false, false] rfl rfl (any_of HT_.out (by kernel_rfl)) (fun _ _ _ h => h) (Or.inl ⟨by rfl, ?_⟩) ?_ ?_
           rotate_left
           ·intro w'
            go_simp
            with_reducible rfl
           rotate_left
           ·simp only [Act.put, List.setIfInBounds_toArray, List.set_cons_zero, List.set_cons_succ, i64_w, i32_w]
            rfl
           refine pure_ (i := 9) (N := some 51) (v := ?_) (a' := ?_) #[true, true, true, true, true, false, false, true, true, true, false, false, false, false, false, false, false] rfl rfl (any_of HT_.out (by kernel_rfl)) (fun _ _ _ h => h) (Or.inl ⟨by rfl, ?_⟩) ?_ ?_
           rotate_left
           ·intro w'
            go_simp
            with_reducible rfl
           rotate_left
           ·simp only [Act.put, List.setIfInBounds_toArray, List.set_cons_zero, List.set_cons_succ, i64_w, i32_w]
            rfl
           refine pure_ (i := 10) (N := some 52) (v := ?_) (a' := ?_) #[true, true, true, true, true, false, false, true, true, true, true, false, false, false, false, false, false] rfl rfl (any_of HT_.out (by kernel_rfl)) (fun _ _ _ h => h) (Or.inl ⟨by rfl, ?_⟩) ?_ ?_
           rotate_left
           ·intro w'
            go_simp
            with_reducible rfl
           rotate_left
           ·simp only [Act.put, List.setIfInBounds_toArray, List.set_cons_zero, List.set_cons_succ, i64_w, i32_w]
            rfl
           refine take_ (i := 5) (N := some 47) (v := ?_) (a' := ?_) #[true, true, true, true, true, true, false, true, true, true, true, false, false, false, false, false, false] rfl rfl (take_ofW HT_.out HW_.out (by kernel_rfl)) (fun _ _ _ h => h) (Or.inl ⟨by rfl, ?_⟩) hHeld ?_ ?_
           rotate_left
           ·rintro w' ⟨s0, s1, s2, s3⟩
            go_simp
            with_reducible rfl
           rotate_left
           ·simp only [Act.put, List.setIfInBounds_toArray, List.set_cons_zero, List.set_cons_succ, i64_w, i32_w]
            rfl
           refine pure_ (i := 6) (N := some 48) (v := ?_) (a' := ?_) #[true, true, true, true, true, true, true, true, true, true, true, false, false, false, false, false, false] rfl rfl (any_of HT_.out (by kernel_rfl)) (fun _ _ _ h => h) (Or.inl ⟨by rfl, ?_⟩) ?_ ?_
           rotate_left
           ·intro w'
            go_simp
            with_reducible rfl
           rotate_left
           ·simp only [Act.put, List.setIfInBounds_toArray, List.set_cons_zero, List.set_cons_succ, i64_w, i32_w]
            rfl
           refine take_ (i := 11) (N := some 53) (v := ?_) (a' := ?_) #[true, true, true, true, true, true, true, true, true, true, true, true, false, false, false, false, false] rfl rfl (take_ofW HT_.out HW_.out (by kernel_rfl)) (fun _ _ _ h => h) (Or.inl ⟨by rfl, ?_⟩) hHeld ?_ ?_
           rotate_left
           ·rintro w' ⟨s0, s1, s2, s3⟩
            go_simp
            with_reducible rfl
           rotate_left
           ·simp only [Act.put, List.setIfInBounds_toArray, List.set_cons_zero, List.set_cons_succ, i64_w, i32_w]
            rfl
           refine pure_ (i := 12) (N := some 54) (v := ?_) (a' := ?_) #[true, true, true, true, true, true, true, true, true, true, true, true, true, false, false, false, false] rfl rfl (any_of HT_.out (by kernel_rfl)) (fun _ _ _ h => h) (Or.inl ⟨by rfl, ?_⟩) ?_ ?_
           rotate_left
           ·intro w'
            go_simp
            with_reducible rfl
           rotate_left
           ·simp only [Act.put, List.setIfInBounds_toArray, List.set_cons_zero, List.set_cons_succ, i64_w, i32_w]
            rfl
           refine pure_ (i := 13) (N := some 55) (v := ?_) (a' := ?_) #[true, true, true, true, true, true, true, true, true, true, true, true, true, true, false, false, false] rfl rfl (any_of HT_.out (by kernel_rfl)) (fun _ _ _ h => h) (Or.inl ⟨by rfl, ?_⟩) ?_ ?_
           rotate_left
           ·intro w'
            go_simp
            with_reducible rfl
           rotate_left
           ·simp only [Act.put, List.setIfInBounds_toArray, List.set_cons_zero, List.set_cons_succ, i64_w, i32_w]
            rfl
           refine one_ (i := 14) (N := some 56) #[true, true, true, true, true, true, true, true, true, true, true, true, true, true, true, false, false] rfl rfl (one_of HT_.out (by kernel_rfl)) (by decide) (fun K hK => ?_)
           refine Kd.R_lit_step (Kd.int .u8) _ 5 ?hg_1 (N := 56) ?hd_1 (xs := ([((rd_T39 l0 x6_2).f0) % 256, ((((rd_T39 l0 x6_2).f1).length : Int)) % 256] : List Int)) (inner := [.int .u8 (((rd_T39 l0 x6_2).f0) % 256), .int .u8 (((((rd_T39 l0 x6_2).f1).length : Int)) % 256)]) (ok := fun _ => True) (okp := fun _ => True) ?hr_1 ?hp_1 (fun _ hk => hk) trivial (Below.refl _ _) (Nat.le_refl _) (by simp) ?_; (case hd_1 => rfl); (case hg_1 => rfl); (case hr_1 => first | (go_simp; done) | (go_simp; rfl)); (case hp_1 => exact (Reps.one (show Kd.M (Kd.int .u8) _ _ _ (((rd_T39 l0 x6_2).f0) % 256) [.int .u8 (((rd_T39 l0 x6_2).f0) % 256)] from rfl) (Reps.one (show Kd.M (Kd.int .u8) _ _ _ (((((rd_T39 l0 x6_2).f1).length : Int)) % 256) [.int .u8 (((((rd_T39 l0 x6_2).f1).length : Int)) % 256)] from rfl) (Reps.none _ _))))
           intro v144 w13 ho14 hb hg_ hnew_
           clear hg_ hnew_
           (first | rw [← Ny143.out] at ho14 | (simp only [Int.reduceToNat] at ho14; rw [← Ny143.out] at ho14))
           have n0_ := Aside0.mk (Kd.R_elder' (by (with_reducible repeat (first | apply Kd.R_alloc | apply Kd.R_drewN | apply Kd.R_drew)); exact HO_5.out) (Kd.R_base ho14) hb)
           have n1_ := Aside0.mk (Kd.R_lower (Kd.R_new' ho14 (Kd.R_lt (by (with_reducible repeat (first | apply Kd.R_alloc | apply Kd.R_drewN | apply Kd.R_drew)); exact HO_5.out))) (below_size (by repeat (first | (with_reducible first | exact HB.out | apply below_alloc | apply pw_below_drewN | apply below_drew1) | exact HB.out))))
           have n2_ := Aside0.mk (below_step (by repeat (first | (with_reducible first | exact HB.out | apply below_alloc | apply pw_below_drewN | apply below_drew1) | exact HB.out)) hb)
           clear HO_5
           clear HB
           have HO_5 := n0_
           have HO145 := n1_
           have HB := n2_
           clear n0_ n1_ n2_
           clear hb ho14
           obtain ⟨Ao16, co16, eo16⟩ := Kd.R_slice HO145.out
           (first | subst eo16 | (injection eo16 with f1_ f2_ f3_; have f4_ := f1_.symm; have f5_ := f3_.symm; clear f1_ f2_ f3_; subst f4_; subst f5_))
           refine hK.out _ _ ⟨((HB.out.cell (World.block_lt_of_cell? w _ hw141_0)).trans hw141_0), ((HB.out.cell (World.block_lt_of_cell? w _ hw141_1)).trans hw141_1), ((HB.out.cell (World.block_lt_of_cell? w _ hw142_0)).trans hw142_0), ((HB.out.cell (World.block_lt_of_cell? w _ hw142_1)).trans hw142_1)⟩ (fun hHeld => ?_)
           clear hK K
           refine norm_ (a' := ?_) ?_ ?_
           rotate_left
           ·show Act.put _ (some 56) _ = _
            simp only [Act.put, List.setIfInBounds_toArray, List.set_cons_zero, List.set_cons_succ, i64_w, i32_w]
            rfl
           refine one_ (i := 15) (N := some 57) #[true, true, true, true, true, true, true, true, true, true, true, true, true, true, true, true, false] rfl rfl (one_of HT_.out (by kernel_rfl)) (by decide) (fun K hK => ?_)
           refine Kd.R_append_rows_step (Kd.int .u8) (w0 := w) w.heap.size (by rfl) (.tmp 42) (.tmp 56) 22 5 (.int .u8 0) 1 rfl Tryd.underlying22 info5 rfl (by decide) (by omega) u5 x5_2 y143 _ _ _ (fun k_ => some k_ ≠ (.slice Ao16 y143.length co16 : Value).ownBlock) (fun _ => False) rfl rfl ?aO_2 ?aR_2 (fun _ _ h => h) (fun _ h => h.elim) ?aF_2 ?aB_2 ?aS_2 ?aL_2 ?_
           (case aR_2 => repeat (first | exact (Kd.R_reads' HO145.out).2.2 | (with_reducible refine Kd.C_alloc ?_ _) | (with_reducible refine Kd.C_drewN ?_ _) | (with_reducible refine Kd.C_drew ?_)))
           (case aB_2 => exact (by repeat (first | (with_reducible first | exact HB.out | apply below_alloc | apply pw_below_drewN | apply below_drew1) | exact HB.out)))
           (case aF_2 => exact (fun k_ hk => Kd.fresh' (Kd.R_lt (by (with_reducible repeat (first | apply Kd.R_alloc | apply Kd.R_drewN | apply Kd.R_drew)); exact HO145.out)) k_ hk))
           (case aO_2 => exact (by (with_reducible repeat (first | apply Kd.R_alloc | apply Kd.R_drewN | apply Kd.R_drew)); exact Kd.R_mono HO_5.out (fun _ hk => hk.2)))
           (case aS_2 => exact (below_size (by repeat (first | (with_reducible first | exact HB.out | apply below_alloc | apply pw_below_drewN | apply below_drew1) | exact HB.out))))
           (case aL_2 => have := LMc9.out; omega)
           intro v147 w15 ho hb hg hat
           rw [← Ny146.out] at ho
           have n0_ := Aside0.mk (Kd.R_after (ok := (fun _ => True)) (by (with_reducible repeat (first | apply Kd.R_alloc | apply Kd.R_drewN | apply Kd.R_drew)); exact HO145.out) hg hat)
           have n1_ := Aside0.mk (hb)
           have n2_ := Aside0.mk (ho)
           clear HO145
           clear HB
           clear HO_5
           have HO145 := n0_
           have HB := n1_
           have HO148 := n2_
           clear n0_ n1_ n2_
           clear ho hb hg hat
           refine hK.out _ _ ⟨((HB.out.cell (World.block_lt_of_cell? w _ hw141_0)).trans hw141_0), ((HB.out.cell (World.block_lt_of_cell? w _ hw141_1)).trans hw141_1), ((HB.out.cell (World.block_lt_of_cell? w _ hw142_0)).trans hw142_0), ((HB.out.cell (World.block_lt_of_cell? w _ hw142_1)).trans hw142_1)⟩ (fun hHeld => ?_)
           clear hK K
           refine norm_ (a' := ?_) ?_ ?_
           rotate_left
           ·show Act.put _ (some 57) _ = _
            simp only [Act.put, List.setIfInBounds_toArray, List.set_cons_zero, List.set_cons_succ, i64_w, i32_w]
            rfl
           refine pure_ (i := 16) (N := some 5) (v := ?_) (a' := ?_) #[true, true, true, true, true, true, true, true, true, true, true, true, true, true, true, true, true] rfl rfl (any_of HT_.out (by kernel_rfl)) (fun _ _ _ h => h) (Or.inl ⟨by rfl, ?_⟩) ?_ ?_
           rotate_left
           ·intro w'
            go_simp
            with_reducible rfl
           rotate_left
           ·simp only [Act.put, List.setIfInBounds_toArray, List.set_cons_zero, List.set_cons_succ, i64_w, i32_w]
            rfl
           refine done_ (done_of HT_.out (by kernel_rfl)) ?_
           have p149 : 0 ≤ (x6_2 : Int) := of_decide_eq_true (by first | (with_reducible assumption) | assumption)
           have q149 : x6_2 < (l0.length : Int) := of_decide_eq_true (by first | (with_reducible assumption) | assumption)
           obtain ⟨ad149, A149_1, c149_1, e149, hx149_0, hx149_1, hl149_1, hi149_1⟩ := at_T39 HR0.out x6_2 p149 q149
           obtain rfl : ad141 = ad149 := (by injection e149)
           replace hx149_0 := (HB.out.cell (World.block_lt_of_cell? w _ hx149_0)).trans hx149_0
           replace hx149_1 := (HB.out.cell (World.block_lt_of_cell? w _ hx149_1)).trans hx149_1
           have HR149_1 := Aside0.mk hi149_1
           have HC149_1 := Aside0.mk hl149_1
           clear hi149_1 hl149_1
           replace p149 := eq_true p149
           replace q149 := eq_true q149
           try go_wp2_with (first | ((with_reducible refine gate_builtin (b := .append) (xs := #[.tmp 58, .tmp 63]) rfl ?_); (try (refine gate_guard (by rfl) ?_; dsimp only)); at_builtin; refine Kd.R_append_rows (Kd.int .u8) (w0 := w) w.heap.size rfl (.tmp 58) (.tmp 63) 22 5 (.int .u8 0) 1 rfl Tryd.underlying22 info5 rfl (by decide) (by omega) v147 y146 ((rd_T39 l0 x6_2).f1) _ _ _ (fun k_ => some k_ ≠ (.slice Ao16 y143.length co16 : Value).ownBlock) (fun _ => False) rfl rfl ?aO_3 ?aR_3 (fun _ _ h => h) (fun _ h => h.elim) ?aF_3 ?aB_3 ?aS_3 ?aL_3 ?_; (case aR_3 => repeat (first | exact (Kd.C_below HR149_1.out HB.out) | exact (Kd.C_below (Aside0.out (by assumption)) HB.out) | (with_reducible refine Kd.C_alloc ?_ _) | (with_reducible refine Kd.C_drewN ?_ _) | (with_reducible refine Kd.C_drew ?_))); (case aB_3 => exact (by repeat (first | (with_reducible first | exact HB.out | apply below_alloc | apply pw_below_drewN | apply below_drew1) | exact HB.out))); (case aF_3 => exact (fun k_ hk => Kd.fresh' (Kd.R_lt (by (with_reducible repeat (first | apply Kd.R_alloc | apply Kd.R_drewN | apply Kd.R_drew)); exact HO145.out)) k_ hk)); (case aO_3 => exact (by (with_reducible repeat (first | apply Kd.R_alloc | apply Kd.R_drewN | apply Kd.R_drew)); exact HO148.out)); (case aS_3 => exact (below_size (by repeat (first | (with_reducible first | exact HB.out | apply below_alloc | apply pw_below_drewN | apply below_drew1) | exact HB.out)))); (case aL_3 => have := LMc10.out; omega); intro v151 w17 ho hb hg hat; rw [← Ny150.out] at ho; have n0_ := Aside0.mk (Kd.R_after (ok := (fun _ => True)) (by (with_reducible repeat (first | apply Kd.R_alloc | apply Kd.R_drewN | apply Kd.R_drew)); exact HO145.out) hg hat); have n1_ := Aside0.mk (hb); have n2_ := Aside0.mk (ho); clear HO145; clear HB; clear HO148; have HO145 := n0_; have HB := n1_; have HO152 := n2_; clear n0_ n1_ n2_; clear ho hb hg hat; obtain ⟨Ao18, co18, eo18⟩ := Kd.R_slice HO152.out; subst eo18))
           go_ret2
           exact ⟨_, by first | rfl | (simp [errW_none, errW_some] <;> rfl) | (simp [*, errW_none, errW_some] <;> rfl), by first | exact Kd.R_nil _ _ _ _ _ | exact Kd.N_nil _ _ _ _ _ | exact Kd.V_nil _ _ _ _ _ | exact Kd.Q_nil _ _ _ _ _ | exact Kd.S_nil _ _ _ _ _, by repeat (first | (with_reducible first | exact HB.out | apply below_alloc | apply pw_below_drewN | apply below_drew1) | exact HB.out)⟩
          ·rw [if_neg c11] at H
           have c11b0 : decide (1024 ≤ (y150.length : Int)) = false := decide_eq_false c11
           have c11b1 : decide (1024 ≤ y150.length) = false := decide_eq_false (by omega)
           clear c11
           have H' := Aside0.mk H
           clear H
           try go_wp2
           have n0_ := Aside0.mk (Kd.R_drew HO_5.out)
           have n1_ := Aside0.mk (below_drew1 HB.out)
           clear HO_5
           clear HB
           have HO_5 := n0_
           have HB := n1_
           clear n0_ n1_
           have p141 : 0 ≤ (x6_2 : Int) := of_decide_eq_true (by first | (with_reducible assumption) | assumption)
           have q141 : x6_2 < (l0.length : Int) := of_decide_eq_true (by first | (with_reducible assumption) | assumption)
           obtain ⟨ad141, A141_1, c141_1, e141, hx141_0, hx141_1, hl141_1, hi141_1⟩ := at_T39 HR0.out x6_2 p141 q141
           have hw141_1 := hx141_1
           have hw141_0 := hx141_0
           cases e141
           replace hx141_0 := (HB.out.cell (World.block_lt_of_cell? w _ hx141_0)).trans hx141_0
           replace hx141_1 := (HB.out.cell (World.block_lt_of_cell? w _ hx141_1)).trans hx141_1
           have HR141_1 := Aside0.mk hi141_1
           have HC141_1 := Aside0.mk hl141_1
           clear hi141_1 hl141_1
           replace p141 := eq_true p141
           replace q141 := eq_true q141
           have p142 : 0 ≤ (x6_2 : Int) := of_decide_eq_true (by first | (with_reducible assumption) | assumption)
           have q142 : x6_2 < (l0.length : Int) := of_decide_eq_true (by first | (with_reducible assumption) | assumption)
           obtain ⟨ad142, A142_1, c142_1, e142, hx142_0, hx142_1, hl142_1, hi142_1⟩ := at_T39 HR0.out x6_2 p142 q142
           have hw142_1 := hx142_1
           have hw142_0 := hx142_0
           obtain rfl : ad141 = ad142 := (by injection e142)
           replace hx142_0 := (HB.out.cell (World.block_lt_of_cell? w _ hx142_0)).trans hx142_0
           replace hx142_1 := (HB.out.cell (World.block_lt_of_cell? w _ hx142_1)).trans hx142_1
           have HR142_1 := Aside0.mk hi142_1
           have HC142_1 := Aside0.mk hl142_1
           clear hi142_1 hl142_1
           replace p142 := eq_true p142
           replace q142 := eq_true q142
           have ea_ := Option.some.inj (hx141_1.symm.trans hx142_1)
           injection ea_ with ea_ en_ ec_
           subst ea_
           subst ec_
           clear en_
           refine start_ (n := 17) (S := fun w' => w'.cell? (ad141.add ((x6_2).toNat * 2)) = some (.int .i64 ((rd_T39 l0 x6_2).f0)) ∧ w'.cell? ⟨(ad141.add ((x6_2).toNat * 2)).block, (ad141.add ((x6_2).toNat * 2)).off + 1, none⟩ = some (.slice A141_1 ((rd_T39 l0 x6_2).f1).length c141_1) ∧ w'.cell? (ad141.add ((x6_2).toNat * 2)) = some (.int .i64 ((rd_T39 l0 x6_2).f0)) ∧ w'.cell? ⟨(ad141.add ((x6_2).toNat * 2)).block, (ad141.add ((x6_2).toNat * 2)).off + 1, none⟩ = some (.slice A141_1 ((rd_T39 l0 x6_2).f1).length c141_1)) (ds := []) #[false, false, false, false, false, false, false, false, false, false, false, false, false, false, false, false, false] (by kernel_rfl) rfl rfl ⟨((HB.out.cell (World.block_lt_of_cell? w _ hw141_0)).trans hw141_0), ((HB.out.cell (World.block_lt_of_cell? w _ hw141_1)).trans hw141_1), ((HB.out.cell (World.block_lt_of_cell? w _ hw142_0)).trans hw142_0), ((HB.out.cell (World.block_lt_of_cell? w _ hw142_1)).trans hw142_1)⟩ (fun hHeld => ?_); refine with_tabW lessorref02_Encode.tab10 lessorref02_Encode.bits10 (fun HT_ HW_ => ?_)
           generalize wr.drew = w19 at HO_5 HB HR141_1 HR142_1 hx141_0 hx141_1 hx142_0 hx142_1 hHeld ⊢
           refine pure_ (i := 0) (N := some 42) (v := ?_) (a' := ?_) #[true, false, false, false, false, false, false, false, false, false, false, false, false, false, false, false, false] rfl rfl (any_of HT_.out (by kernel_rfl)) (fun _ _ _ h => h) (Or.inl ⟨by rfl, ?_⟩) ?_ ?_
           rotate_left
           ·intro w'
            go_simp
            with_reducible rfl
           rotate_left
           ·simp only [Act.put, List.setIfInBounds_toArray, List.set_cons_zero, List.set_cons_succ, i64_w, i32_w]
            rfl
           refine pure_ (i := 1) (N := some 43) (v := ?_) (a' := ?_) #[true, true, false, false, false, false, false, false, false, false, false, false, false, false, false, false, false] rfl rfl (any_of HT_.out (by kernel_rfl)) (fun _ _ _ h => h) (Or.inl ⟨by rfl, ?_⟩) ?_ ?_
           rotate_left
           ·intro w'
            go_simp
            with_reducible rfl
           rotate_left
           ·simp only [Act.put, List.setIfInBounds_toArray, List.set_cons_zero, List.set_cons_succ, i64_w, i32_w]
            rfl
           refine pure_ (i := 2) (N := some 44) (v := ?_) (a' := ?_) #[true, true, true, false, false, false, false, false, false, false, false, false, false, false, false, false, false] rfl rfl (any_of HT_.out (by kernel_rfl)) (fun _ _ _ h => h) (Or.inl ⟨by rfl, ?_⟩) ?_ ?_
           rotate_left
           ·intro w'
            go_simp
            with_reducible rfl
           rotate_left
           ·simp only [Act.put, List.setIfInBounds_toArray, List.set_cons_zero, List.set_cons_succ, i64_w, i32_w]
            rfl
           refine pure_ (i := 3) (N := some 45) (v := ?_) (a' := ?_) #[true, true, true, true, false, false, false, false, false, false, false, false, false, false, false, false, false] rfl rfl (any_of HT_.out (by kernel_rfl)) (fun _ _ _ h => h) (Or.inl ⟨by rfl, ?_⟩) ?_ ?_
           rotate_left
           ·intro w'
            go_simp
            with_reducible rfl
           rotate_left
           ·simp only [Act.put, List.setIfInBounds_toArray, List.set_cons_zero, List.set_cons_succ, i64_w, i32_w]
            rfl
           refine pure_ (i := 4) (N := some 46) (v := ?_) (a' := ?_) #[true, true, true, true, true, false, false, false, false, false, false, false, false, false, false, false, false] rfl rfl (any_of HT_.out (by kernel_rfl)) (fun _ _ _ h => h) (Or.inl ⟨by rfl, ?_⟩) ?_ ?_
           rotate_left
           ·intro w'
            go_simp
            with_reducible rfl
           rotate_left
           ·simp only [Act.put, List.setIfInBounds_toArray, List.set_cons_zero, List.set_cons_succ, i64_w, i32_w]
            rfl
           refine pure_ (i := 7) (N := some 49) (v := ?_) (a' := ?_) #[true, true, true, true, true, false, false, true, false, false, false, false, false, false, false, false, false] rfl rfl (any_of HT_.out (by kernel_rfl)) (fun _ _ _ h => h) (Or.inl ⟨by rfl, ?_⟩) ?_ ?_
           rotate_left
           ·intro w'
            go_simp
            with_reducible rfl
           rotate_left
           ·simp only [Act.put, List.setIfInBounds_toArray, List.set_cons_zero, List.set_cons_succ, i64_w, i32_w]
            rfl
           refine pure_ (i := 8) (N := some 50) (v := ?_) (a' := ?_) #[true, true, true, true, true, false, false, true, true, false, false, false, false, false, false, false, false] rfl rfl (any_of HT_.out (by kernel_rfl)) (fun _ _ _ h => h) (Or.inl ⟨by rfl, ?_⟩) ?_ ?_
           rotate_left
           ·intro w'
            go_simp
            with_reducible rfl
           rotate_left
           ·simp only [Act.put, List.setIfInBounds_toArray, List.set_cons_zero, List.set_cons_succ, i64_w, i32_w]
            rfl
           refine pure_ (i := 9) (N := some 51) (v := ?_) (a' := ?_) #[true, true, true, true, true, false, false, true, true, true, false, false, false, false, false, false, false] rfl rfl (any_of HT_.out (by kernel_rfl)) (fun _ _ _ h => h) (Or.inl ⟨by rfl, ?_⟩) ?_ ?_
           rotate_left
           ·intro w'
            go_simp
            with_reducible rfl
           rotate_left
           ·simp only [Act.put, List.setIfInBounds_toArray, List.set_cons_zero, List.set_cons_succ, i64_w, i32_w]
            rfl
           refine pure_ (i := 10) (N := some 52) (v := ?_) (a' := ?_) #[true, true, true, true, true, false, false, true, true, true, true, false, false, false, false, false, false] rfl rfl (any_of HT_.out (by kernel_rfl)) (fun _ _ _ h => h) (Or.inl ⟨by rfl, ?_⟩) ?_ ?_
           rotate_left
           ·intro w'
            go_simp
            with_reducible rfl
           rotate_left
           ·simp only [Act.put, List.setIfInBounds_toArray, List.set_cons_zero, List.set_cons_succ, i64_w, i32_w]
            rfl
           refine take_ (i := 5) (N := some 47) (v := ?_) (a' := ?_) #[true, true, true, true, true, true, false, true, true, true, true, false, false, false, false, false, false] rfl rfl (take_ofW HT_.out HW_.out (by kernel_rfl)) (fun _ _ _ h => h) (Or.inl ⟨by rfl, ?_⟩) hHeld ?_ ?_
           rotate_left
           ·rintro w' ⟨s0, s1, s2, s3⟩
            go_simp
            with_reducible rfl
           rotate_left
           ·simp only [Act.put, List.setIfInBounds_toArray, List.set_cons_zero, List.set_cons_succ, i64_w, i32_w]
            rfl
           refine pure_ (i := 6) (N := some 48) (v := ?_) (a' := ?_) #[true, true, true, true, true, true, true, true, true, true, true, false, false, false, false, false, false] rfl rfl (any_of HT_.out (by kernel_rfl)) (fun _ _ _ h => h) (Or.inl ⟨by rfl, ?_⟩) ?_ ?_
           rotate_left
           ·intro w'
            go_simp
            with_reducible rfl
           rotate_left
           ·simp only [Act.put, List.setIfInBounds_toArray, List.set_cons_zero, List.set_cons_succ, i64_w, i32_w]
            rfl
           refine take_ (i := 11) (N := some 53) (v := ?_) (a' := ?_) #[true, true, true, true, true, true, true, true, true, true, true, true, false, false, false, false, false] rfl rfl (take_ofW HT_.out HW_.out (by kernel_rfl)) (fun _ _ _ h => h) (Or.inl ⟨by rfl, ?_⟩) hHeld ?_ ?_
           rotate_left
           ·rintro w' ⟨s0, s1, s2, s3⟩
            go_simp
            with_reducible rfl
           rotate_left
           ·simp only [Act.put, List.setIfInBounds_toArray, List.set_cons_zero, List.set_cons_succ, i64_w, i32_w]
            rfl
           refine pure_ (i := 12) (N := some 54) (v := ?_) (a' := ?_) #[true, true, true, true, true, true, true, true, true, true, true, true, true, false, false, false, false] rfl rfl (any_of HT_.out (by kernel_rfl)) (fun _ _ _ h => h) (Or.inl ⟨by rfl, ?_⟩) ?_ ?_
           rotate_left
           ·intro w'
            go_simp
            with_reducible rfl
           rotate_left
           ·simp only [Act.put, List.setIfInBounds_toArray, List.set_cons_zero, List.set_cons_succ, i64_w, i32_w]
            rfl
           refine pure_ (i := 13) (N := some 55) (v := ?_) (a' := ?_) #[true, true, true, true, true, true, true, true, true, true, true, true, true, true, false, false, false] rfl rfl (any_of HT_.out (by kernel_rfl)) (fun _ _ _ h => h) (Or.inl ⟨by rfl, ?_⟩) ?_ ?_
           rotate_left
           ·intro w'
            go_simp
            with_reducible rfl
           rotate_left
           ·simp only [Act.put, List.setIfInBounds_toArray, List.set_cons_zero, List.set_cons_succ, i64_w, i32_w]
            rfl
           refine one_ (i := 14) (N := some 56) #[true, true, true, true, true, true, true, true, true, true, true, true, true, true, true, false, false] rfl rfl (one_of HT_.out (by kernel_rfl)) (by decide) (fun K hK => ?_)
           refine Kd.R_lit_step (Kd.int .u8) _ 5 ?hg_4 (N := 56) ?hd_4 (xs := ([((rd_T39 l0 x6_2).f0) % 256, ((((rd_T39 l0 x6_2).f1).length : Int)) % 256] : List Int)) (inner := [.int .u8 (((rd_T39 l0 x6_2).f0) % 256), .int .u8 (((((rd_T39 l0 x6_2).f1).length : Int)) % 256)]) (ok := fun _ => True) (okp := fun _ => True) ?hr_4 ?hp_4 (fun _ hk => hk) trivial (Below.refl _ _) (Nat.le_refl _) (by simp) ?_; (case hd_4 => rfl); (case hg_4 => rfl); (case hr_4 => first | (go_simp; done) | (go_simp; rfl)); (case hp_4 => exact (Reps.one (show Kd.M (Kd.int .u8) _ _ _ (((rd_T39 l0 x6_2).f0) % 256) [.int .u8 (((rd_T39 l0 x6_2).f0) % 256)] from rfl) (Reps.one (show Kd.M (Kd.int .u8) _ _ _ (((((rd_T39 l0 x6_2).f1).length : Int)) % 256) [.int .u8 (((((rd_T39 l0 x6_2).f1).length : Int)) % 256)] from rfl) (Reps.none _ _))))
           intro v144 w20 ho21 hb hg_ hnew_
           clear hg_ hnew_
           (first | rw [← Ny143.out] at ho21 | (simp only [Int.reduceToNat] at ho21; rw [← Ny143.out] at ho21))
           have n0_ := Aside0.mk (Kd.R_elder' (by (with_reducible repeat (first | apply Kd.R_alloc | apply Kd.R_drewN | apply Kd.R_drew)); exact HO_5.out) (Kd.R_base ho21) hb)
           have n1_ := Aside0.mk (Kd.R_lower (Kd.R_new' ho21 (Kd.R_lt (by (with_reducible repeat (first | apply Kd.R_alloc | apply Kd.R_drewN | apply Kd.R_drew)); exact HO_5.out))) (below_size (by repeat (first | (with_reducible first | exact HB.out | apply below_alloc | apply pw_below_drewN | apply below_drew1) | exact HB.out))))
           have n2_ := Aside0.mk (below_step (by repeat (first | (with_reducible first | exact HB.out | apply below_alloc | apply pw_below_drewN | apply below_drew1) | exact HB.out)) hb)
           clear HO_5
           clear HB
           have HO_5 := n0_
           have HO145 := n1_
           have HB := n2_
           clear n0_ n1_ n2_
           clear hb ho21
           obtain ⟨Ao23, co23, eo23⟩ := Kd.R_slice HO145.out
           (first | subst eo23 | (injection eo23 with f1_ f2_ f3_; have f4_ := f1_.symm; have f5_ := f3_.symm; clear f1_ f2_ f3_; subst f4_; subst f5_))
           refine hK.out _ _ ⟨((HB.out.cell (World.block_lt_of_cell? w _ hw141_0)).trans hw141_0), ((HB.out.cell (World.block_lt_of_cell? w _ hw141_1)).trans hw141_1), ((HB.out.cell (World.block_lt_of_cell? w _ hw142_0)).trans hw142_0), ((HB.out.cell (World.block_lt_of_cell? w _ hw142_1)).trans hw142_1)⟩ (fun hHeld => ?_)
           clear hK K
           refine norm_ (a' := ?_) ?_ ?_
           rotate_left
           ·show Act.put _ (some 56) _ = _
            simp only [Act.put, List.setIfInBounds_toArray, List.set_cons_zero, List.set_cons_succ, i64_w, i32_w]
            rfl
           refine one_ (i := 15) (N := some 57) #[true, true, true, true, true, true, true, true, true, true, true, true, true, true, true, true, false] rfl rfl (one_of HT_.out (by kernel_rfl)) (by decide) (fun K hK => ?_)
           refine Kd.R_append_rows_step (Kd.int .u8) (w0 := w) w.heap.size (by rfl) (.tmp 42) (.tmp 56) 22 5 (.int .u8 0) 1 rfl Tryd.underlying22 info5 rfl (by decide) (by omega) u5 x5_2 y143 _ _ _ (fun k_ => some k_ ≠ (.slice Ao23 y143.length co23 : Value).ownBlock) (fun _ => False) rfl rfl ?aO_5 ?aR_5 (fun _ _ h => h) (fun _ h => h.elim) ?aF_5 ?aB_5 ?aS_5 ?aL_5 ?_
           (case aR_5 => repeat (first | exact (Kd.R_reads' HO145.out).2.2 | (with_reducible refine Kd.C_alloc ?_ _) | (with_reducible refine Kd.C_drewN ?_ _) | (with_reducible refine Kd.C_drew ?_)))
           (case aB_5 => exact (by repeat (first | (with_reducible first | exact HB.out | apply below_alloc | apply pw_below_drewN | apply below_drew1) | exact HB.out)))
           (case aF_5 => exact (fun k_ hk => Kd.fresh' (Kd.R_lt (by (with_reducible repeat (first | apply Kd.R_alloc | apply Kd.R_drewN | apply Kd.R_drew)); exact HO145.out)) k_ hk))
           (case aO_5 => exact (by (with_reducible repeat (first | apply Kd.R_alloc | apply Kd.R_drewN | apply Kd.R_drew)); exact Kd.R_mono HO_5.out (fun _ hk => hk.2)))
           (case aS_5 => exact (below_size (by repeat (first | (with_reducible first | exact HB.out | apply below_alloc | apply pw_below_drewN | apply below_drew1) | exact HB.out))))
           (case aL_5 => have := LMc9.out; omega)
           intro v147 w22 ho hb hg hat
           rw [← Ny146.out] at ho
           have n0_ := Aside0.mk (Kd.R_after (ok := (fun _ => True)) (by (with_reducible repeat (first | apply Kd.R_alloc | apply Kd.R_drewN | apply Kd.R_drew)); exact HO145.out) hg hat)
           have n1_ := Aside0.mk (hb)
           have n2_ := Aside0.mk (ho)
           clear HO145
           clear HB
           clear HO_5
           have HO145 := n0_
           have HB := n1_
           have HO148 := n2_
           clear n0_ n1_ n2_
           clear ho hb hg hat
           refine hK.out _ _ ⟨((HB.out.cell (World.block_lt_of_cell? w _ hw141_0)).trans hw141_0), ((HB.out.cell (World.block_lt_of_cell? w _ hw141_1)).trans hw141_1), ((HB.out.cell (World.block_lt_of_cell? w _ hw142_0)).trans hw142_0), ((HB.out.cell (World.block_lt_of_cell? w _ hw142_1)).trans hw142_1)⟩ (fun hHeld => ?_)
           clear hK K
           refine norm_ (a' := ?_) ?_ ?_
           rotate_left
           ·show Act.put _ (some 57) _ = _
            simp only [Act.put, List.setIfInBounds_toArray, List.set_cons_zero, List.set_cons_succ, i64_w, i32_w]
            rfl
           refine pure_ (i := 16) (N := some 5) (v := ?_) (a' := ?_) #[true, true, true, true, true, true, true, true, true, true, true, true, true, true, true, true, true] rfl rfl (any_of HT_.out (by kernel_rfl)) (fun _ _ _ h => h) (Or.inl ⟨by rfl, ?_⟩) ?_ ?_
           rotate_left
           ·intro w'
            go_simp
            with_reducible rfl
           rotate_left
           ·simp only [Act.put, List.setIfInBounds_toArray, List.set_cons_zero, List.set_cons_succ, i64_w, i32_w]
            rfl
           refine done_ (done_of HT_.out (by kernel_rfl)) ?_
           have p149 : 0 ≤ (x6_2 : Int) := of_decide_eq_true (by first | (with_reducible assumption) | assumption)
           have q149 : x6_2 < (l0.length : Int) := of_decide_eq_true (by first | (with_reducible assumption) | assumption)
           obtain ⟨ad149, A149_1, c149_1, e149, hx149_0, hx149_1, hl149_1, hi149_1⟩ := at_T39 HR0.out x6_2 p149 q149
           obtain rfl : ad141 = ad149 := (by injection e149)
           replace hx149_0 := (HB.out.cell (World.block_lt_of_cell? w _ hx149_0)).trans hx149_0
           replace hx149_1 := (HB.out.cell (World.block_lt_of_cell? w _ hx149_1)).trans hx149_1
           have HR149_1 := Aside0.mk hi149_1
           have HC149_1 := Aside0.mk hl149_1
           clear hi149_1 hl149_1
           replace p149 := eq_true p149
           replace q149 := eq_true q149
           try go_wp2_with (first | ((with_reducible refine gate_builtin (b := .append) (xs := #[.tmp 58, .tmp 63]) rfl ?_); (try (refine gate_guard (by rfl) ?_; dsimp only)); at_builtin; refine Kd.R_append_rows (Kd.int .u8) (w0 := w) w.heap.size rfl (.tmp 58) (.tmp 63) 22 5 (.int .u8 0) 1 rfl Tryd.underlying22 info5 rfl (by decide) (by omega) v147 y146 ((rd_T39 l0 x6_2).f1) _ _ _ (fun k_ => some k_ ≠ (.slice Ao23 y143.length co23 : Value).ownBlock) (fun _ => False) rfl rfl ?aO_6 ?aR_6 (fun _ _ h => h) (fun _ h => h.elim) ?aF_6 ?aB_6 ?aS_6 ?aL_6 ?_; (case aR_6 => repeat (first | exact (Kd.C_below HR149_1.out HB.out) | exact (Kd.C_below (Aside0.out (by assumption)) HB.out) | (with_reducible refine Kd.C_alloc ?_ _) | (with_reducible refine Kd.C_drewN ?_ _) | (with_reducible refine Kd.C_drew ?_))); (case aB_6 => exact (by repeat (first | (with_reducible first | exact HB.out | apply below_alloc | apply pw_below_drewN | apply below_drew1) | exact HB.out))); (case aF_6 => exact (fun k_ hk => Kd.fresh' (Kd.R_lt (by (with_reducible repeat (first | apply Kd.R_alloc | apply Kd.R_drewN | apply Kd.R_drew)); exact HO145.out)) k_ hk)); (case aO_6 => exact (by (with_reducible repeat (first | apply Kd.R_alloc | apply Kd.R_drewN | apply Kd.R_drew)); exact HO148.out)); (case aS_6 => exact (below_size (by repeat (first | (with_reducible first | exact HB.out | apply below_alloc | apply pw_below_drewN | apply below_drew1) | exact HB.out)))); (case aL_6 => have := LMc10.out; omega); intro v151 w24 ho hb hg hat; rw [← Ny150.out] at ho; have n0_ := Aside0.mk (Kd.R_after (ok := (fun _ => True)) (by (with_reducible repeat (first | apply Kd.R_alloc | apply Kd.R_drewN | apply Kd.R_drew)); exact HO145.out) hg hat); have n1_ := Aside0.mk (hb); have n2_ := Aside0.mk (ho); clear HO145; clear HB; clear HO148; have HO145 := n0_; have HB := n1_; have HO152 := n2_; clear n0_ n1_ n2_; clear ho hb hg hat; obtain ⟨Ao25, co25, eo25⟩ := Kd.R_slice HO152.out; subst eo25))
           go_roundg k2
           case measure => have := HK1.out; have := HK2.out; omega
           case rel => exact ⟨(y150), (wrap64 (x6_2 + 1)), (by first | rfl | (simp; done) | (simp [*]; done)), H', ⟨by have := HK1.out; have := HK2.out; omega⟩, ⟨by (with_reducible repeat (first | apply Kd.R_alloc | apply Kd.R_drewN | apply Kd.R_drew)); exact Kd.R_mono HO152.out (fun _ hk => trivial)⟩, ⟨by repeat (first | (with_reducible first | exact HB.out | apply below_alloc | apply pw_below_drewN | apply below_drew1) | exact HB.out)⟩⟩
         ·rw [if_neg c10] at H
          exact absurd H (by simp)
        ·rw [if_neg c9] at H
         exact absurd H (by simp)
       ·rw [if_neg c8] at H
        exact absurd H (by simp)
      ·rw [if_neg c7] at H
       have c7b0 : decide (x6_2 < (l0.length : Int)) = false := decide_eq_false c7
       clear c7
       by_cases c26 : x5_2.length < 140737488355328
       ·rw [if_pos c26] at H
        have LMc26 := Aside0.mk c26
        clear c26
        obtain ⟨y153, hy153⟩ : ∃ y_ : List Int, y_ = (x5_2 ++ [255]) := ⟨_, rfl⟩
        replace H : (some (y153, 0)) = some (r1, r2) := by first | (rw [hy153]; with_reducible exact H) | (have H2_ := (Option.bind_some _ _).symm.trans H; rw [hy153]; with_reducible exact H2_) | (have H2_ := (Option.bind_some _ _).symm.trans H; with_reducible exact H2_) | with_reducible exact H | (rw [hy153]; exact H) | exact H
        have Ny153 := Aside0.mk hy153
        clear hy153
        simp only [Option.some.injEq, Prod.mk.injEq] at H
        obtain ⟨rfl, rfl⟩ := H
        go_wp2_with (first | ((with_reducible refine gate_builtin (b := .append) (xs := #[.tmp 68, .tmp 69]) rfl ?_); (try (refine gate_guard (by rfl) ?_; dsimp only)); at_builtin; refine Kd.R_append (Kd.int .u8) (w0 := w) w.heap.size rfl (.tmp 68) (.tmp 69) 22 5 (.int .u8 0) 1 rfl Tryd.underlying22 info5 rfl (by decide) (by omega) u5 x5_2 255 [.int .u8 255] (fun _ => True) (fun _ => False) rfl rfl ?aP_7 (fun _ hk => hk.elim) ?aF_7 ?aO_7 ?aB_7 ?aS_7 ?aL_7 ?_; (case aP_7 => exact rfl); (case aB_7 => exact (by repeat (first | (with_reducible first | exact HB.out | apply below_alloc | apply pw_below_drewN | apply below_drew1) | exact HB.out))); (case aF_7 => exact (fun _ _ => trivial)); (case aO_7 => exact (by (with_reducible repeat (first | apply Kd.R_alloc | apply Kd.R_drewN | apply Kd.R_drew)); exact HO_5.out)); (case aS_7 => exact (below_size (by repeat (first | (with_reducible first | exact HB.out | apply below_alloc | apply pw_below_drewN | apply below_drew1) | exact HB.out)))); (case aL_7 => have := LMc26.out; omega); intro v154 w27 ho hb hg hat; rw [← Ny153.out] at ho; have n0_ := Aside0.mk (hb); have n1_ := Aside0.mk (ho); clear HB; clear HO_5; have HB := n0_; have HO155 := n1_; clear n0_ n1_; clear ho hb hg hat))
        go_ret2
        exact ⟨_, by first | rfl | (simp [errW_none, errW_some] <;> rfl) | (simp [*, errW_none, errW_some] <;> rfl), by (with_reducible repeat (first | apply Kd.R_alloc | apply Kd.R_drewN | apply Kd.R_drew)); exact HO155.out, by repeat (first | (with_reducible first | exact HB.out | apply below_alloc | apply pw_below_drewN | apply below_drew1) | exact HB.out)⟩
       ·rw [if_neg c26] at H
        exact absurd H (by simp)

end Go.Proofs.YtmbfdmceameghaaDoor.Pr
end

section
namespace Go.Proofs.YtmbfdmceameghaaDoor.PO
open Go.RowKit Go.Proofs.YtmbfdmceameghaaDoor Go.Proofs.YtmbfdmceameghaaDoor.Pr Go.Proofs.YtmbfdmceameghaaDoorW.PrintWords Go.Proofs.YtmbfdmceameghaaDoorW.PrintLast Go.Proofs.YtmbfdmceameghaaDoorW.PrintMore
set_option linter.unusedVariables false
set_option linter.unusedSimpArgs false

abbrev Opt := S39
theorem wrapO {x : Int} (h0 : 0 ≤ x) (h1 : x < 9223372036854775808) : wrap64 x = x := by unfold wrap64; omega
theorem rd_at (l : List Opt) {i : Nat} (h : i < l.length) : rd_T39 l (i : Int) = l[i] := by
  unfold rd_T39
  rw [Int.toNat_natCast, List.getD_eq_getElem?_getD, List.getElem?_eq_getElem h]
  rfl

def okOpt (x : Opt) : Prop := 1 ≤ x.f0 ∧ x.f0 ≤ 254 ∧ x.f1.length ≤ 255
instance (x : Opt) : Decidable (okOpt x) := by unfold okOpt; infer_instance
def enc1 (x : Opt) : List Int := [x.f0 % 256, (x.f1.length : Int) % 256] ++ x.f1
def enc (l : List Opt) : List Int := (l.map enc1).flatten
def encR (l : List Opt) : List Int × Int := if ∀ x ∈ l, okOpt x then (if 1024 ≤ (enc l).length then ([], 3) else (enc l ++ [255], 0)) else ([], 1)
def few (l : List Opt) : Prop := l.length ≤ 2000 ∧ ∀ x ∈ l, x.f1.length ≤ 1000
theorem enc_append (l m : List Opt) : enc (l ++ m) = enc l ++ enc m := by simp [enc]
theorem enc_one (x : Opt) : enc [x] = enc1 x := by simp [enc]
theorem enc1_len (x : Opt) : (enc1 x).length = x.f1.length + 2 := by simp [enc1]
theorem enc_len_le : ∀ (l : List Opt), (∀ x ∈ l, x.f1.length ≤ 1000) → (enc l).length ≤ l.length * 1002 := by
  intro l
  induction l with
  | nil => intro _; simp [enc]
  | cons x l ih =>
    intro h
    have h1 := ih (fun y hy => h y (by simp [hy]))
    have h2 := h x (by simp)
    have e : enc (x :: l) = enc1 x ++ enc l := by simp [enc]
    rw [e, List.length_append, enc1_len, List.length_cons]
    omega
theorem enc_take_le (l : List Opt) (i : Nat) : (enc (l.take i)).length ≤ (enc l).length := by
  have : enc l = enc (l.take i) ++ enc (l.drop i) := by rw [← enc_append, List.take_append_drop]
  rw [this, List.length_append]; omega

/-! ### option.Encode -/
theorem odd_eq (x : Opt) : option_Encode_1.f x.f0 x.f1 = some (!decide (okOpt x)) := by
  unfold option_Encode_1.f
  by_cases ok : okOpt x
  · rw [decide_eq_true ok]
    unfold okOpt at ok
    rw [if_neg (by omega), if_neg (by omega), decide_eq_false (by omega)]
    rfl
  · rw [decide_eq_false ok]
    unfold okOpt at ok
    split
    · rfl
    · split
      · rfl
      · rw [decide_eq_true (by omega)]
        rfl
theorem index_spec (l : List Opt) (hl : l.length ≤ 1000000) : ∀ (d i k : Nat), l.length ≤ i + d → i ≤ l.length → d < k →
    ∃ r : Int, slices_IndexFunc.l0 k l (l.length : Int) (i : Int) = some r ∧ ((0 ≤ r ∧ ∃ x ∈ l.drop i, ¬ okOpt x) ∨ (r < 0 ∧ ∀ x ∈ l.drop i, okOpt x)) := by
  intro d
  induction d with
  | zero =>
    intro i k h1 h2 hk
    obtain ⟨k, rfl⟩ : ∃ m, k = m + 1 := ⟨k - 1, by omega⟩
    refine ⟨-1, ?_, .inr ⟨by omega, ?_⟩⟩
    · simp only [slices_IndexFunc.l0]; rw [if_neg (by omega)]
    · rw [List.drop_of_length_le (by omega)]; simp
  | succ d ih =>
    intro i k h1 h2 hk
    obtain ⟨k, rfl⟩ : ∃ m, k = m + 1 := ⟨k - 1, by omega⟩
    by_cases h : i < l.length
    · simp only [slices_IndexFunc.l0]
      rw [if_pos (by omega), if_pos (by omega), if_pos (by omega), rd_at l h, odd_eq]
      simp only [Option.bind_some]
      rw [List.drop_eq_getElem_cons h]
      by_cases ok : okOpt l[i]
      · rw [decide_eq_true ok, wrapO (by omega) (by omega)]
        obtain ⟨r, hr, hs⟩ := ih (i + 1) k (by omega) (by omega) (by omega)
        refine ⟨r, by simpa using (show slices_IndexFunc.l0 k l (l.length : Int) ((i : Int) + 1) = some r from hr), ?_⟩
        rcases hs with ⟨a, x, hx, b⟩ | ⟨a, b⟩
        · exact .inl ⟨a, x, List.mem_cons_of_mem _ hx, b⟩
        · exact .inr ⟨a, fun x hx => by
            rcases List.mem_cons.1 hx with rfl | hx
            · exact ok
            · exact b x hx⟩
      · rw [decide_eq_false ok]
        exact ⟨i, by simp, .inl ⟨by omega, l[i], List.mem_cons_self, ok⟩⟩
    · refine ⟨-1, ?_, .inr ⟨by omega, ?_⟩⟩
      · simp only [slices_IndexFunc.l0]; rw [if_neg (by omega)]
      · rw [List.drop_of_length_le (by omega)]; simp
theorem contains_eq (l : List Opt) (hl : l.length ≤ 1000000) (a : Int) (k : Nat) (hk : l.length < k) : slices_ContainsFunc.f k l a = some (!decide (∀ x ∈ l, okOpt x)) := by
  obtain ⟨r, hr, hs⟩ := index_spec l hl l.length 0 k (by omega) (by omega) hk
  unfold slices_ContainsFunc.f slices_IndexFunc.f
  rw [show ((0 : Nat) : Int) = 0 from rfl] at hr
  rw [hr]
  simp only [Option.bind_some]
  rw [List.drop_zero] at hs
  rcases hs with ⟨h1, x, hx, h2⟩ | ⟨h1, h2⟩
  · rw [decide_eq_true (by omega), decide_eq_false (fun h => h2 (h x hx))]; rfl
  · rw [decide_eq_false (by omega), decide_eq_true h2]; rfl
theorem encode_loop (l : List Opt) (hf : few l) : ∀ (d i k : Nat), l.length ≤ i + d → i ≤ l.length → d < k →
    option_Encode.l0 k (enc (l.take i)) l (l.length : Int) (i : Int) = some (if 1024 ≤ (enc l).length then ([], 3) else (enc l ++ [255], 0)) := by
  obtain ⟨hn, hx⟩ := hf
  have hel := enc_len_le l hx
  have hel' : (enc l).length ≤ 2004000 := by omega
  intro d
  induction d with
  | zero =>
    intro i k h1 h2 hk
    obtain ⟨k, rfl⟩ : ∃ m, k = m + 1 := ⟨k - 1, by omega⟩
    simp only [option_Encode.l0]
    rw [if_neg (by omega), List.take_of_length_le (by omega), if_pos (by omega)]
    simp only [Option.bind_some]
    by_cases c : 1024 ≤ (enc l).length
    · rw [if_pos (by simp; omega), if_pos c]
    · rw [if_neg (by simp; omega), if_neg c]
  | succ d ih =>
    intro i k h1 h2 hk
    obtain ⟨k, rfl⟩ : ∃ m, k = m + 1 := ⟨k - 1, by omega⟩
    by_cases h : i < l.length
    · simp only [option_Encode.l0]
      have ht := enc_take_le l i
      have ht1 := enc_take_le l (i + 1)
      have hx1 := hx l[i] (List.getElem_mem h)
      rw [if_pos (by omega), if_pos (by omega), if_pos (by omega), rd_at l h]
      simp only [Option.bind_some]
      rw [if_pos (by simp; omega), if_pos (by simp; omega), wrapO (by omega) (by omega)]
      have e : enc (l.take i) ++ [l[i].f0 % 256, (l[i].f1.length : Int) % 256] ++ l[i].f1 = enc (l.take (i + 1)) := by
        rw [List.take_succ_eq_append_getElem h, enc_append, enc_one, enc1, List.append_assoc]
      rw [e]
      exact ih (i + 1) k (by omega) (by omega) (by omega)
    · obtain rfl : i = l.length := by omega
      simp only [option_Encode.l0]
      rw [if_neg (by omega), List.take_of_length_le (by omega), if_pos (by omega)]
      simp only [Option.bind_some]
      by_cases c : 1024 ≤ (enc l).length
      · rw [if_pos (by simp; omega), if_pos c]
      · rw [if_neg (by simp; omega), if_neg c]
theorem encode_eq (l : List Opt) (hf : few l) (k : Nat) (hk : 2001 ≤ k) : option_Encode.f k l = some (encR l) := by
  have hn := hf.1
  unfold option_Encode.f encR
  rw [contains_eq l (by omega) _ k (by omega)]
  simp only [Option.bind_some]
  by_cases ok : ∀ x ∈ l, okOpt x
  · rw [decide_eq_true ok, if_neg (by decide), if_pos ok]
    exact encode_loop l hf l.length 0 k (by omega) (by omega) (by omega)
  · rw [decide_eq_false ok, if_pos (by decide), if_neg ok]

/-! ### the reference's -/
theorem ref_encode1 (l : List Opt) (hf : few l) : ∀ (d i k : Nat), l.length ≤ i + d → i ≤ l.length → d < k → ((enc (l.take i)).length < 1024) →
    lessorref02_Encode.l1 k l (enc (l.take i)) (i : Int) = some (if 1024 ≤ (enc l).length then ([], 3) else (enc l ++ [255], 0)) := by
  obtain ⟨hn, hx⟩ := hf
  intro d
  induction d with
  | zero =>
    intro i k h1 h2 hk hs
    obtain ⟨k, rfl⟩ : ∃ m, k = m + 1 := ⟨k - 1, by omega⟩
    rw [List.take_of_length_le (by omega)] at hs ⊢
    simp only [lessorref02_Encode.l1]
    rw [if_neg (by omega), if_pos (by omega), if_neg (by omega)]
  | succ d ih =>
    intro i k h1 h2 hk hs
    obtain ⟨k, rfl⟩ : ∃ m, k = m + 1 := ⟨k - 1, by omega⟩
    by_cases h : i < l.length
    · simp only [lessorref02_Encode.l1]
      have ht1 := enc_take_le l (i + 1)
      have hx1 := hx l[i] (List.getElem_mem h)
      rw [if_pos (by omega), if_pos (by omega), rd_at l h]
      simp only [Option.bind_some]
      rw [if_pos (by simp; omega), if_pos (by simp; omega)]
      have e : enc (l.take i) ++ [l[i].f0 % 256, (l[i].f1.length : Int) % 256] ++ l[i].f1 = enc (l.take (i + 1)) := by
        rw [List.take_succ_eq_append_getElem h, enc_append, enc_one, enc1, List.append_assoc]
      rw [e]
      by_cases c : 1024 ≤ (enc (l.take (i + 1))).length
      · rw [if_pos (by omega), if_pos (by omega)]
      · rw [if_neg (by omega), wrapO (by omega) (by omega)]
        exact ih (i + 1) k (by omega) (by omega) (by omega) (by omega)
    · obtain rfl : i = l.length := by omega
      rw [List.take_of_length_le (by omega)] at hs ⊢
      simp only [lessorref02_Encode.l1]
      rw [if_neg (by omega), if_pos (by omega), if_neg (by omega)]
theorem ref_encode0 (l : List Opt) (hf : few l) : ∀ (d i k : Nat), l.length ≤ i + d → i ≤ l.length → d + 2001 < k → (∀ x ∈ l.take i, okOpt x) →
    lessorref02_Encode.l0 k l (i : Int) = some (encR l) := by
  have hn := hf.1
  have fin : ∀ k, 2001 < k → (∀ x ∈ l, okOpt x) → lessorref02_Encode.l0 k l (l.length : Int) = some (encR l) := by
    intro k hk ok
    obtain ⟨k, rfl⟩ : ∃ m, k = m + 1 := ⟨k - 1, by omega⟩
    simp only [lessorref02_Encode.l0]
    rw [if_neg (by omega)]
    unfold encR
    rw [if_pos ok]
    exact ref_encode1 l hf l.length 0 k (by omega) (by omega) (by omega) (by simp [enc])
  intro d
  induction d with
  | zero =>
    intro i k h1 h2 hk ho
    obtain rfl : i = l.length := by omega
    rw [List.take_length] at ho
    exact fin k (by omega) ho
  | succ d ih =>
    intro i k h1 h2 hk ho
    by_cases h : i < l.length
    · obtain ⟨k, rfl⟩ : ∃ m, k = m + 1 := ⟨k - 1, by omega⟩
      simp only [lessorref02_Encode.l0]
      rw [if_pos (by omega), if_pos (by omega), rd_at l h]
      have bad : ¬ okOpt l[i] → encR l = ([], 1) := fun hb => by unfold encR; rw [if_neg (fun h' => hb (h' _ (List.getElem_mem h)))]
      by_cases c1 : l[i].f0 < 1
      · rw [if_pos c1, bad (by unfold okOpt; omega)]
      · rw [if_neg c1]
        by_cases c2 : l[i].f0 > 254
        · rw [if_pos c2, bad (by unfold okOpt; omega)]
        · rw [if_neg c2]
          by_cases c3 : (l[i].f1.length : Int) > 255
          · rw [if_pos c3, bad (by unfold okOpt; omega)]
          · rw [if_neg c3, wrapO (by omega) (by omega)]
            refine ih (i + 1) k (by omega) (by omega) (by omega) ?_
            rw [List.take_succ_eq_append_getElem h]
            intro x hx
            rcases List.mem_append.1 hx with hx | hx
            · exact ho x hx
            · rw [List.mem_singleton.1 hx]; exact ⟨by omega, by omega, by omega⟩
    · obtain rfl : i = l.length := by omega
      rw [List.take_length] at ho
      exact fin k (by omega) ho
theorem ref_encode_eq (l : List Opt) (hf : few l) (k : Nat) (hk : 4010 ≤ k) : lessorref02_Encode.f k l = some (encR l) := by
  have hn := hf.1
  unfold lessorref02_Encode.f
  exact ref_encode0 l hf l.length 0 k (by omega) (by omega) (by omega) (by simp)

/-! ### few -/
end Go.Proofs.YtmbfdmceameghaaDoor.PO
end
