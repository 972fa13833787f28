/-
  Printed: PrF47.
  Options as bytes, over lists: what option.Encode and the reference's Encode compute of few options. (The reference.)
-/
import Derived.Test.YtnkajghemggaaaaMRP1
import Derived.Test.YtnkajghemggaaaaMRP4

section
-- written by a program of this session (wip/tools/gen.py) over the kit's print
namespace Go.Proofs.Ytnkajghemggaaaa.Pr
open Go.RowKit Go.Proofs.YtnkajghemggaaaaW.PrintWords Go.Proofs.YtnkajghemggaaaaW.PrintLast Go.Proofs.YtnkajghemggaaaaW.PrintMore
attribute [local go_sem] max2_int min2_int max_two min_two max_three min_three max_four min_four   -- for this text's walks alone
set_option linter.unusedVariables false
set_option linter.unusedSimpArgs false

/-! ### lessorref02_Encode: function 47 -/
mutual
def lessorref02_Encode.l0 : Nat → List (S48) → Int → Option (List Int × Int)
 | 0, _, _ => none
 | k + 1, x0, x4 => if x4 < (x0.length : Int) then (if 0 ≤ x4 then (if ((rd_T48 x0 x4).f0) < 1 then (some (([] : List Int), 1)) else (if ((rd_T48 x0 x4).f0) > 254 then (some (([] : List Int), 1)) else (if (((rd_T48 x0 x4).f1).length : Int) > 255 then (some (([] : List Int), 1)) else (lessorref02_Encode.l0 k x0 (wrap64 (x4 + 1)))))) else (none)) else (lessorref02_Encode.l1 k x0 ([] : List Int) 0)
def lessorref02_Encode.l1 : Nat → List (S48) → List Int → Int → Option (List Int × Int)
 | 0, _, _, _ => none
 | k + 1, x0, x5, x6 => if x6 < (x0.length : Int) then (if 0 ≤ x6 then ((some (([((rd_T48 x0 x6).f0) % 256, ((((rd_T48 x0 x6).f1).length : Int)) % 256] : List Int) : List Int)).bind fun y255 => (if x5.length + y255.length < 140737488355328 then ((some (x5 ++ y255 : List Int)).bind fun y258 => (if y258.length + ((rd_T48 x0 x6).f1).length < 140737488355328 then ((some (y258 ++ ((rd_T48 x0 x6).f1) : List Int)).bind fun y262 => (if (y262.length : Int) ≥ 1024 then (some (([] : List Int), 3)) else (lessorref02_Encode.l1 k x0 y262 (wrap64 (x6 + 1))))) else (none))) else (none))) else (none)) else (if x5.length < 140737488355328 then (some ((x5 ++ [255]), 0)) else (none))
end
def lessorref02_Encode.f (k : Nat) (l0 : List (S48)) : Option (List Int × Int) := lessorref02_Encode.l0 k l0 0
theorem lessorref02_Encode.mono_l : ∀ k, (∀ y0 y1, LeO (lessorref02_Encode.l0 k y0 y1) (lessorref02_Encode.l0 (k + 1) y0 y1)) ∧ (∀ y0 y1 y2, LeO (lessorref02_Encode.l1 k y0 y1 y2) (lessorref02_Encode.l1 (k + 1) y0 y1 y2))
 | 0 => ⟨fun _ _ r h => by simp [lessorref02_Encode.l0] at h, fun _ _ _ r h => by simp [lessorref02_Encode.l1] at h⟩
 | k + 1 => by
  obtain ⟨ih0, ih1⟩ := lessorref02_Encode.mono_l k
  refine ⟨?_, ?_⟩
  ·intro y0 y1
   unfold lessorref02_Encode.l0
   repeat' first
   | (with_reducible exact ih0 _ _)
   | (with_reducible exact ih1 _ _ _)
   | (with_reducible exact LeO.refl _)
   | (with_reducible exact LeO.none _)
   | (with_reducible refine LeO.ite ?_ ?_)
   | (with_reducible refine LeO.bind ?_ (fun _ => ?_))
   | exact ih0 _ _
   | exact ih1 _ _ _
   | exact LeO.none _
   | refine LeO.ite ?_ ?_
   | refine LeO.bind ?_ (fun _ => ?_)
  ·intro y0 y1 y2
   unfold lessorref02_Encode.l1
   repeat' first
   | (with_reducible exact ih0 _ _)
   | (with_reducible exact ih1 _ _ _)
   | (with_reducible exact LeO.refl _)
   | (with_reducible exact LeO.none _)
   | (with_reducible refine LeO.ite ?_ ?_)
   | (with_reducible refine LeO.bind ?_ (fun _ => ?_))
   | exact ih0 _ _
   | exact ih1 _ _ _
   | exact LeO.none _
   | refine LeO.ite ?_ ?_
   | refine LeO.bind ?_ (fun _ => ?_)
theorem lessorref02_Encode.mono : ∀ a0 k, LeO (lessorref02_Encode.f k a0) (lessorref02_Encode.f (k + 1) a0) := by
 intro a0 k
 obtain ⟨ih0, ih1⟩ := lessorref02_Encode.mono_l k
 unfold lessorref02_Encode.f
 repeat' first
   | (with_reducible exact ih0 _ _)
   | (with_reducible exact ih1 _ _ _)
   | (with_reducible exact LeO.refl _)
   | (with_reducible exact LeO.none _)
   | (with_reducible refine LeO.ite ?_ ?_)
   | (with_reducible refine LeO.bind ?_ (fun _ => ?_))
   | exact ih0 _ _
   | exact ih1 _ _ _
   | exact LeO.none _
   | refine LeO.ite ?_ ?_
   | refine LeO.bind ?_ (fun _ => ?_)
def lessorref02_Encode.T10 : Bool × List (List Nat × List Nat) := (true, [([], []), ([], []), ([], []), ([1, 2], [1, 2]), ([3], [3]), ([4], [4]), ([5], [5]), ([], []), ([], []), ([7, 8], [7, 8]), ([9], [9]), ([10], [10]), ([11], [11]), ([12], [12]), ([6, 13], [6, 13]), ([0, 14], [0, 14]), ([15, 15, 0, 1, 2, 3, 4, 5, 6, 7, 8, 9, 10, 11, 12, 13, 14, 15], [0, 15])])
def lessorref02_Encode.B10 : List Nat := [0, 0, 0, 6, 14, 30, 62, 0, 0, 384, 896, 1920, 3968, 8064, 16382, 32767, 65535]
theorem lessorref02_Encode.tab10 : rtab .any (opsOf Try.f47 10) = lessorref02_Encode.T10 := by kernel_rfl
theorem lessorref02_Encode.bits10 : waitsOk lessorref02_Encode.T10.2 lessorref02_Encode.B10 = true := by kernel_rfl
set_option maxHeartbeats 8000000 in
set_option maxRecDepth 100000 in
theorem lessorref02_Encode.calls (k : Nat) (A0 : Option Addr) (c0 : Nat) (l0 : List (S48)) (r1 : List Int) (r2 : Int) (w : World) (hr0 : Kd.C k48 w A0 l0.length l0) (hc0 : l0.length ≤ c0) (h : lessorref02_Encode.f k l0 = some (r1, r2)) :
  Calls Try.prog 47 #[.slice A0 l0.length c0] w fun e w' => ∃ v0_ : Value, e = .returned (.tuple #[v0_, .int .i64 r2]) ∧ Kd.R (Kd.int .u8) 5 w' w.heap.size (fun _ => True) v0_ r1 ∧ Below w.heap.size w w' := by
 have HR0 := Aside0.mk hr0
 have HC0 := Aside0.mk hc0
 clear hr0 hc0
 have HB := Aside0.mk (Below.refl w.heap.size w)
 have H : (lessorref02_Encode.l0 k l0 0) = some (r1, r2) := h
 clear h
 have H' := Aside0.mk H
 clear H
 go_enter Try.func47, Try.ntmps47
 go_wp2
 go_loopg [4] k (fun kq v4 w' => ∃ (x4_1 : Int), v4 = .int .i64 x4_1 ∧ Aside0 (lessorref02_Encode.l0 kq l0 x4_1 = some (r1, r2)) ∧ Aside0 (kq ≤ k) ∧ Aside0 (Below w.heap.size w w'))
 case atStart => exact ⟨(0), (by first | rfl | (simp; done) | (simp [*]; done)), H', ⟨Nat.le_refl _⟩, ⟨by repeat (first | (with_reducible first | exact HB.out | apply below_alloc | apply pw_below_drewN | apply below_drew1) | exact HB.out)⟩⟩
 case round =>
  clear H'
  obtain ⟨x4_1, rfl, HA, HK1, HB⟩ := hrel
  cases gk with
  | zero => exact absurd HA.out (by simp [lessorref02_Encode.l0])
  | succ k1 =>
   have H := HA.out
   clear HA
   simp only [lessorref02_Encode.l0] at H
   by_cases c2 : x4_1 < (l0.length : Int)
   ·rw [if_pos c2] at H
    have c2b0 : decide (x4_1 < (l0.length : Int)) = true := decide_eq_true c2
    clear c2
    by_cases c3 : 0 ≤ x4_1
    ·rw [if_pos c3] at H
     have c3b0 : decide (0 ≤ x4_1) = true := decide_eq_true c3
     clear c3
     by_cases c4 : ((rd_T48 l0 x4_1).f0) < 1
     ·rw [if_pos c4] at H
      have c4b0 : decide (((rd_T48 l0 x4_1).f0) < 1) = true := decide_eq_true c4
      clear c4
      simp only [Option.some.injEq, Prod.mk.injEq] at H
      obtain ⟨rfl, rfl⟩ := H
      have p250 : 0 ≤ (x4_1 : Int) := of_decide_eq_true (by first | (with_reducible assumption) | assumption)
      have q250 : x4_1 < (l0.length : Int) := of_decide_eq_true (by first | (with_reducible assumption) | assumption)
      obtain ⟨ad250, A250_1, c250_1, e250, hx250_0, hx250_1, hl250_1, hi250_1⟩ := at_T48 HR0.out x4_1 p250 q250
      cases e250
      replace hx250_0 := (HB.out.cell (World.block_lt_of_cell? w _ hx250_0)).trans hx250_0
      replace hx250_1 := (HB.out.cell (World.block_lt_of_cell? w _ hx250_1)).trans hx250_1
      have HR250_1 := Aside0.mk hi250_1
      have HC250_1 := Aside0.mk hl250_1
      clear hi250_1 hl250_1
      replace p250 := eq_true p250
      replace q250 := eq_true q250
      go_wp2
      go_ret2
      exact ⟨_, by first | rfl | (simp [errW_none, errW_some] <;> rfl) | (simp [*, errW_none, errW_some] <;> rfl), by first | exact Kd.R_nil _ _ _ _ _ | exact Kd.N_nil _ _ _ _ _ | exact Kd.V_nil _ _ _ _ _ | exact Kd.Q_nil _ _ _ _ _ | exact Kd.S_nil _ _ _ _ _, by repeat (first | (with_reducible first | exact HB.out | apply below_alloc | apply pw_below_drewN | apply below_drew1) | exact HB.out)⟩
     ·rw [if_neg c4] at H
      have c4b0 : decide (((rd_T48 l0 x4_1).f0) < 1) = false := decide_eq_false c4
      clear c4
      by_cases c5 : ((rd_T48 l0 x4_1).f0) > 254
      ·rw [if_pos c5] at H
       have c5b0 : decide (254 < ((rd_T48 l0 x4_1).f0)) = true := decide_eq_true c5
       clear c5
       simp only [Option.some.injEq, Prod.mk.injEq] at H
       obtain ⟨rfl, rfl⟩ := H
       have p250 : 0 ≤ (x4_1 : Int) := of_decide_eq_true (by first | (with_reducible assumption) | assumption)
       have q250 : x4_1 < (l0.length : Int) := of_decide_eq_true (by first | (with_reducible assumption) | assumption)
       obtain ⟨ad250, A250_1, c250_1, e250, hx250_0, hx250_1, hl250_1, hi250_1⟩ := at_T48 HR0.out x4_1 p250 q250
       cases e250
       replace hx250_0 := (HB.out.cell (World.block_lt_of_cell? w _ hx250_0)).trans hx250_0
       replace hx250_1 := (HB.out.cell (World.block_lt_of_cell? w _ hx250_1)).trans hx250_1
       have HR250_1 := Aside0.mk hi250_1
       have HC250_1 := Aside0.mk hl250_1
       clear hi250_1 hl250_1
       replace p250 := eq_true p250
       replace q250 := eq_true q250
       have p251 : 0 ≤ (x4_1 : Int) := of_decide_eq_true (by first | (with_reducible assumption) | assumption)
       have q251 : x4_1 < (l0.length : Int) := of_decide_eq_true (by first | (with_reducible assumption) | assumption)
       obtain ⟨ad251, A251_1, c251_1, e251, hx251_0, hx251_1, hl251_1, hi251_1⟩ := at_T48 HR0.out x4_1 p251 q251
       obtain rfl : ad250 = ad251 := (by injection e251)
       replace hx251_0 := (HB.out.cell (World.block_lt_of_cell? w _ hx251_0)).trans hx251_0
       replace hx251_1 := (HB.out.cell (World.block_lt_of_cell? w _ hx251_1)).trans hx251_1
       have HR251_1 := Aside0.mk hi251_1
       have HC251_1 := Aside0.mk hl251_1
       clear hi251_1 hl251_1
       replace p251 := eq_true p251
       replace q251 := eq_true q251
       have ea_ := Option.some.inj (hx250_1.symm.trans hx251_1)
       injection ea_ with ea_ en_ ec_
       subst ea_
       subst ec_
       clear en_
       go_wp2
       go_ret2
       exact ⟨_, by first | rfl | (simp [errW_none, errW_some] <;> rfl) | (simp [*, errW_none, errW_some] <;> rfl), by first | exact Kd.R_nil _ _ _ _ _ | exact Kd.N_nil _ _ _ _ _ | exact Kd.V_nil _ _ _ _ _ | exact Kd.Q_nil _ _ _ _ _ | exact Kd.S_nil _ _ _ _ _, by repeat (first | (with_reducible first | exact HB.out | apply below_alloc | apply pw_below_drewN | apply below_drew1) | exact HB.out)⟩
      ·rw [if_neg c5] at H
       have c5b0 : decide (254 < ((rd_T48 l0 x4_1).f0)) = false := decide_eq_false c5
       clear c5
       by_cases c6 : (((rd_T48 l0 x4_1).f1).length : Int) > 255
       ·rw [if_pos c6] at H
        have c6b0 : decide (255 < (((rd_T48 l0 x4_1).f1).length : Int)) = true := decide_eq_true c6
        have c6b1 : decide (255 < ((rd_T48 l0 x4_1).f1).length) = true := decide_eq_true (by omega)
        clear c6
        simp only [Option.some.injEq, Prod.mk.injEq] at H
        obtain ⟨rfl, rfl⟩ := H
        have p250 : 0 ≤ (x4_1 : Int) := of_decide_eq_true (by first | (with_reducible assumption) | assumption)
        have q250 : x4_1 < (l0.length : Int) := of_decide_eq_true (by first | (with_reducible assumption) | assumption)
        obtain ⟨ad250, A250_1, c250_1, e250, hx250_0, hx250_1, hl250_1, hi250_1⟩ := at_T48 HR0.out x4_1 p250 q250
        cases e250
        replace hx250_0 := (HB.out.cell (World.block_lt_of_cell? w _ hx250_0)).trans hx250_0
        replace hx250_1 := (HB.out.cell (World.block_lt_of_cell? w _ hx250_1)).trans hx250_1
        have HR250_1 := Aside0.mk hi250_1
        have HC250_1 := Aside0.mk hl250_1
        clear hi250_1 hl250_1
        replace p250 := eq_true p250
        replace q250 := eq_true q250
        have p251 : 0 ≤ (x4_1 : Int) := of_decide_eq_true (by first | (with_reducible assumption) | assumption)
        have q251 : x4_1 < (l0.length : Int) := of_decide_eq_true (by first | (with_reducible assumption) | assumption)
        obtain ⟨ad251, A251_1, c251_1, e251, hx251_0, hx251_1, hl251_1, hi251_1⟩ := at_T48 HR0.out x4_1 p251 q251
        obtain rfl : ad250 = ad251 := (by injection e251)
        replace hx251_0 := (HB.out.cell (World.block_lt_of_cell? w _ hx251_0)).trans hx251_0
        replace hx251_1 := (HB.out.cell (World.block_lt_of_cell? w _ hx251_1)).trans hx251_1
        have HR251_1 := Aside0.mk hi251_1
        have HC251_1 := Aside0.mk hl251_1
        clear hi251_1 hl251_1
        replace p251 := eq_true p251
        replace q251 := eq_true q251
        have ea_ := Option.some.inj (hx250_1.symm.trans hx251_1)
        injection ea_ with ea_ en_ ec_
        subst ea_
        subst ec_
        clear en_
        have p252 : 0 ≤ (x4_1 : Int) := of_decide_eq_true (by first | (with_reducible assumption) | assumption)
        have q252 : x4_1 < (l0.length : Int) := of_decide_eq_true (by first | (with_reducible assumption) | assumption)
        obtain ⟨ad252, A252_1, c252_1, e252, hx252_0, hx252_1, hl252_1, hi252_1⟩ := at_T48 HR0.out x4_1 p252 q252
        obtain rfl : ad250 = ad252 := (by injection e252)
        replace hx252_0 := (HB.out.cell (World.block_lt_of_cell? w _ hx252_0)).trans hx252_0
        replace hx252_1 := (HB.out.cell (World.block_lt_of_cell? w _ hx252_1)).trans hx252_1
        have HR252_1 := Aside0.mk hi252_1
        have HC252_1 := Aside0.mk hl252_1
        clear hi252_1 hl252_1
        replace p252 := eq_true p252
        replace q252 := eq_true q252
        have ea_ := Option.some.inj (hx250_1.symm.trans hx252_1)
        injection ea_ with ea_ en_ ec_
        subst ea_
        subst ec_
        clear en_
        go_wp2
        go_ret2
        exact ⟨_, by first | rfl | (simp [errW_none, errW_some] <;> rfl) | (simp [*, errW_none, errW_some] <;> rfl), by first | exact Kd.R_nil _ _ _ _ _ | exact Kd.N_nil _ _ _ _ _ | exact Kd.V_nil _ _ _ _ _ | exact Kd.Q_nil _ _ _ _ _ | exact Kd.S_nil _ _ _ _ _, by repeat (first | (with_reducible first | exact HB.out | apply below_alloc | apply pw_below_drewN | apply below_drew1) | exact HB.out)⟩
       ·rw [if_neg c6] at H
        have c6b0 : decide (255 < (((rd_T48 l0 x4_1).f1).length : Int)) = false := decide_eq_false c6
        have c6b1 : decide (255 < ((rd_T48 l0 x4_1).f1).length) = false := decide_eq_false (by omega)
        clear c6
        have H' := Aside0.mk H
        clear H
        have p250 : 0 ≤ (x4_1 : Int) := of_decide_eq_true (by first | (with_reducible assumption) | assumption)
        have q250 : x4_1 < (l0.length : Int) := of_decide_eq_true (by first | (with_reducible assumption) | assumption)
        obtain ⟨ad250, A250_1, c250_1, e250, hx250_0, hx250_1, hl250_1, hi250_1⟩ := at_T48 HR0.out x4_1 p250 q250
        cases e250
        replace hx250_0 := (HB.out.cell (World.block_lt_of_cell? w _ hx250_0)).trans hx250_0
        replace hx250_1 := (HB.out.cell (World.block_lt_of_cell? w _ hx250_1)).trans hx250_1
        have HR250_1 := Aside0.mk hi250_1
        have HC250_1 := Aside0.mk hl250_1
        clear hi250_1 hl250_1
        replace p250 := eq_true p250
        replace q250 := eq_true q250
        have p251 : 0 ≤ (x4_1 : Int) := of_decide_eq_true (by first | (with_reducible assumption) | assumption)
        have q251 : x4_1 < (l0.length : Int) := of_decide_eq_true (by first | (with_reducible assumption) | assumption)
        obtain ⟨ad251, A251_1, c251_1, e251, hx251_0, hx251_1, hl251_1, hi251_1⟩ := at_T48 HR0.out x4_1 p251 q251
        obtain rfl : ad250 = ad251 := (by injection e251)
        replace hx251_0 := (HB.out.cell (World.block_lt_of_cell? w _ hx251_0)).trans hx251_0
        replace hx251_1 := (HB.out.cell (World.block_lt_of_cell? w _ hx251_1)).trans hx251_1
        have HR251_1 := Aside0.mk hi251_1
        have HC251_1 := Aside0.mk hl251_1
        clear hi251_1 hl251_1
        replace p251 := eq_true p251
        replace q251 := eq_true q251
        have ea_ := Option.some.inj (hx250_1.symm.trans hx251_1)
        injection ea_ with ea_ en_ ec_
        subst ea_
        subst ec_
        clear en_
        have p252 : 0 ≤ (x4_1 : Int) := of_decide_eq_true (by first | (with_reducible assumption) | assumption)
        have q252 : x4_1 < (l0.length : Int) := of_decide_eq_true (by first | (with_reducible assumption) | assumption)
        obtain ⟨ad252, A252_1, c252_1, e252, hx252_0, hx252_1, hl252_1, hi252_1⟩ := at_T48 HR0.out x4_1 p252 q252
        obtain rfl : ad250 = ad252 := (by injection e252)
        replace hx252_0 := (HB.out.cell (World.block_lt_of_cell? w _ hx252_0)).trans hx252_0
        replace hx252_1 := (HB.out.cell (World.block_lt_of_cell? w _ hx252_1)).trans hx252_1
        have HR252_1 := Aside0.mk hi252_1
        have HC252_1 := Aside0.mk hl252_1
        clear hi252_1 hl252_1
        replace p252 := eq_true p252
        replace q252 := eq_true q252
        have ea_ := Option.some.inj (hx250_1.symm.trans hx252_1)
        injection ea_ with ea_ en_ ec_
        subst ea_
        subst ec_
        clear en_
        go_wp2
        go_roundg k1
        case measure => have := HK1.out; omega
        case rel => exact ⟨(wrap64 (x4_1 + 1)), (by first | rfl | (simp; done) | (simp [*]; done)), H', ⟨by have := HK1.out; omega⟩, ⟨by repeat (first | (with_reducible first | exact HB.out | apply below_alloc | apply pw_below_drewN | apply below_drew1) | exact HB.out)⟩⟩
    ·rw [if_neg c3] at H
     exact absurd H (by simp)
   ·rw [if_neg c2] at H
    have c2b0 : decide (x4_1 < (l0.length : Int)) = false := decide_eq_false c2
    clear c2
    have H' := Aside0.mk H
    clear H
    go_wp2
    go_loopg [5, 6] k1 (fun kq v5 v6 w' => ∃ (x5_2 : List Int) (x6_2 : Int), v6 = .int .i64 x6_2 ∧ Aside0 (lessorref02_Encode.l1 kq l0 x5_2 x6_2 = some (r1, r2)) ∧ Aside0 (kq ≤ k1) ∧ Aside0 (Kd.R (Kd.int .u8) 5 w' w.heap.size (fun _ => True) v5 x5_2) ∧ Aside0 (Below w.heap.size w w'))
    case atStart => exact ⟨(([] : List Int)), (0), (by first | rfl | (simp; done) | (simp [*]; done)), H', ⟨Nat.le_refl _⟩, ⟨by first | exact Kd.R_nil _ _ _ _ _ | exact Kd.N_nil _ _ _ _ _ | exact Kd.V_nil _ _ _ _ _ | exact Kd.Q_nil _ _ _ _ _ | exact Kd.S_nil _ _ _ _ _⟩, ⟨by repeat (first | (with_reducible first | exact HB.out | apply below_alloc | apply pw_below_drewN | apply below_drew1) | exact HB.out)⟩⟩
    case round =>
     clear H'
     try clear c2
     try clear c2b0
     try clear p2
     try clear q2
     try clear hx2
     try clear c3
     try clear c3b0
     try clear c4
     try clear c4b0
     try clear c5
     try clear c5b0
     try clear c6
     try clear c6b0
     try clear c6b1
     try clear p6
     try clear hx250_0
     try clear hx250_1
     try clear hx251_0
     try clear hx251_1
     try clear hx252_0
     try clear hx252_1
     try clear p250
     try clear p251
     try clear p252
     try clear q250
     try clear q251
     try clear q252
     obtain ⟨x5_2, x6_2, rfl, HA, HK2, HO_5, HB⟩ := hrel
     cases gk with
     | zero => exact absurd HA.out (by simp [lessorref02_Encode.l1])
     | succ k2 =>
      have H := HA.out
      clear HA
      simp only [lessorref02_Encode.l1] at H
      by_cases c7 : x6_2 < (l0.length : Int)
      ·rw [if_pos c7] at H
       have c7b0 : decide (x6_2 < (l0.length : Int)) = true := decide_eq_true c7
       clear c7
       by_cases c8 : 0 ≤ x6_2
       ·rw [if_pos c8] at H
        have c8b0 : decide (0 ≤ x6_2) = true := decide_eq_true c8
        clear c8
        obtain ⟨y255, hy255⟩ : ∃ y_ : List Int, y_ = (([((rd_T48 l0 x6_2).f0) % 256, ((((rd_T48 l0 x6_2).f1).length : Int)) % 256] : List Int)) := ⟨_, rfl⟩
        replace H : (if x5_2.length + y255.length < 140737488355328 then ((some (x5_2 ++ y255 : List Int)).bind fun y258 => (if y258.length + ((rd_T48 l0 x6_2).f1).length < 140737488355328 then ((some (y258 ++ ((rd_T48 l0 x6_2).f1) : List Int)).bind fun y262 => (if (y262.length : Int) ≥ 1024 then (some (([] : List Int), 3)) else (lessorref02_Encode.l1 k2 l0 y262 (wrap64 (x6_2 + 1))))) else (none))) else (none)) = some (r1, r2) := by first | (rw [hy255]; with_reducible exact H) | (have H2_ := (Option.bind_some _ _).symm.trans H; rw [hy255]; with_reducible exact H2_) | (have H2_ := (Option.bind_some _ _).symm.trans H; with_reducible exact H2_) | with_reducible exact H | (rw [hy255]; exact H) | exact H
        have Ny255 := Aside0.mk hy255
        clear hy255
        by_cases c9 : x5_2.length + y255.length < 140737488355328
        ·rw [if_pos c9] at H
         have LMc9 := Aside0.mk c9
         clear c9
         obtain ⟨y258, hy258⟩ : ∃ y_ : List Int, y_ = (x5_2 ++ y255) := ⟨_, rfl⟩
         replace H : (if y258.length + ((rd_T48 l0 x6_2).f1).length < 140737488355328 then ((some (y258 ++ ((rd_T48 l0 x6_2).f1) : List Int)).bind fun y262 => (if (y262.length : Int) ≥ 1024 then (some (([] : List Int), 3)) else (lessorref02_Encode.l1 k2 l0 y262 (wrap64 (x6_2 + 1))))) else (none)) = some (r1, r2) := by first | (rw [hy258]; with_reducible exact H) | (have H2_ := (Option.bind_some _ _).symm.trans H; rw [hy258]; with_reducible exact H2_) | (have H2_ := (Option.bind_some _ _).symm.trans H; with_reducible exact H2_) | with_reducible exact H | (rw [hy258]; exact H) | exact H
         have Ny258 := Aside0.mk hy258
         clear hy258
         by_cases c10 : y258.length + ((rd_T48 l0 x6_2).f1).length < 140737488355328
         ·rw [if_pos c10] at H
          have LMc10 := Aside0.mk c10
          clear c10
          obtain ⟨y262, hy262⟩ : ∃ y_ : List Int, y_ = (y258 ++ ((rd_T48 l0 x6_2).f1)) := ⟨_, rfl⟩
          replace H : (if (y262.length : Int) ≥ 1024 then (some (([] : List Int), 3)) else (lessorref02_Encode.l1 k2 l0 y262 (wrap64 (x6_2 + 1)))) = some (r1, r2) := by first | (rw [hy262]; with_reducible exact H) | (have H2_ := (Option.bind_some _ _).symm.trans H; rw [hy262]; with_reducible exact H2_) | (have H2_ := (Option.bind_some _ _).symm.trans H; with_reducible exact H2_) | with_reducible exact H | (rw [hy262]; exact H) | exact H
          have Ny262 := Aside0.mk hy262
          clear hy262
          by_cases c11 : (y262.length : Int) ≥ 1024
          ·rw [if_pos c11] at H
           have c11b0 : decide (1024 ≤ (y262.length : Int)) = true := decide_eq_true c11
           have c11b1 : decide (1024 ≤ y262.length) = true := decide_eq_true (by omega)
           clear c11
           simp only [Option.some.injEq, Prod.mk.injEq] at H
           obtain ⟨rfl, rfl⟩ := H
           try go_wp2
           have n0_ := Aside0.mk (Kd.R_drew HO_5.out)
           have n1_ := Aside0.mk (below_drew1 HB.out)
           clear HO_5
           clear HB
           have HO_5 := n0_
           have HB := n1_
           clear n0_ n1_
           have p253 : 0 ≤ (x6_2 : Int) := of_decide_eq_true (by first | (with_reducible assumption) | assumption)
           have q253 : x6_2 < (l0.length : Int) := of_decide_eq_true (by first | (with_reducible assumption) | assumption)
           obtain ⟨ad253, A253_1, c253_1, e253, hx253_0, hx253_1, hl253_1, hi253_1⟩ := at_T48 HR0.out x6_2 p253 q253
           have hw253_1 := hx253_1
           have hw253_0 := hx253_0
           cases e253
           replace hx253_0 := (HB.out.cell (World.block_lt_of_cell? w _ hx253_0)).trans hx253_0
           replace hx253_1 := (HB.out.cell (World.block_lt_of_cell? w _ hx253_1)).trans hx253_1
           have HR253_1 := Aside0.mk hi253_1
           have HC253_1 := Aside0.mk hl253_1
           clear hi253_1 hl253_1
           replace p253 := eq_true p253
           replace q253 := eq_true q253
           have p254 : 0 ≤ (x6_2 : Int) := of_decide_eq_true (by first | (with_reducible assumption) | assumption)
           have q254 : x6_2 < (l0.length : Int) := of_decide_eq_true (by first | (with_reducible assumption) | assumption)
           obtain ⟨ad254, A254_1, c254_1, e254, hx254_0, hx254_1, hl254_1, hi254_1⟩ := at_T48 HR0.out x6_2 p254 q254
           have hw254_1 := hx254_1
           have hw254_0 := hx254_0
           obtain rfl : ad253 = ad254 := (by injection e254)
           replace hx254_0 := (HB.out.cell (World.block_lt_of_cell? w _ hx254_0)).trans hx254_0
           replace hx254_1 := (HB.out.cell (World.block_lt_of_cell? w _ hx254_1)).trans hx254_1
           have HR254_1 := Aside0.mk hi254_1
           have HC254_1 := Aside0.mk hl254_1
           clear hi254_1 hl254_1
           replace p254 := eq_true p254
           replace q254 := eq_true q254
           have ea_ := Option.some.inj (hx253_1.symm.trans hx254_1)
           injection ea_ with ea_ en_ ec_
           subst ea_
           subst ec_
           clear en_
           refine start_ (n := 17) (S := fun w' => w'.cell? (ad253.add ((x6_2).toNat * 2)) = some (.int .i64 ((rd_T48 l0 x6_2).f0)) ∧ w'.cell? ⟨(ad253.add ((x6_2).toNat * 2)).block, (ad253.add ((x6_2).toNat * 2)).off + 1, none⟩ = some (.slice A253_1 ((rd_T48 l0 x6_2).f1).length c253_1) ∧ w'.cell? (ad253.add ((x6_2).toNat * 2)) = some (.int .i64 ((rd_T48 l0 x6_2).f0)) ∧ w'.cell? ⟨(ad253.add ((x6_2).toNat * 2)).block, (ad253.add ((x6_2).toNat * 2)).off + 1, none⟩ = some (.slice A253_1 ((rd_T48 l0 x6_2).f1).length c253_1)) (ds := []) #[false, false, false, false, false, false, false, false, false, false, false, false, false, false, false, false, false] (by kernel_rfl) rfl rfl ⟨((HB.out.cell (World.block_lt_of_cell? w _ hw253_0)).trans hw253_0), ((HB.out.cell (World.block_lt_of_cell? w _ hw253_1)).trans hw253_1), ((HB.out.cell (World.block_lt_of_cell? w _ hw254_0)).trans hw254_0), ((HB.out.cell (World.block_lt_of_cell? w _ hw254_1)).trans hw254_1)⟩ (fun hHeld => ?_); refine with_tabW lessorref02_Encode.tab10 lessorref02_Encode.bits10 (fun HT_ HW_ => ?_)
           generalize wr.drew = w12 at HO_5 HB HR253_1 HR254_1 hx253_0 hx253_1 hx254_0 hx254_1 hHeld ⊢
           refine pure_ (i := 0) (N := some 42) (v := ?_) (a' := ?_) #[true, false, false, false, false, false, false, false, false, false, false, false, false, false, false, false, false] rfl rfl (any_of HT_.out (by kernel_rfl)) (fun _ _ _ h => h) (Or.inl ⟨by rfl, ?_⟩) ?_ ?_
           rotate_left
           ·intro w'
            go_simp
            with_reducible rfl
           rotate_left
           ·simp only [Act.put, List.setIfInBounds_toArray, List.set_cons_zero, List.set_cons_succ, i64_w, i32_w]
            rfl
           refine pure_ (i := 1) (N := some 43) (v := ?_) (a' := ?_) #[true, true, false, false, false, false, false, false, false, false, false, false, false, false, false, false, false] rfl rfl (any_of HT_.out (by kernel_rfl)) (fun _ _ _ h => h) (Or.inl ⟨by rfl, ?_⟩) ?_ ?_
           rotate_left
           ·intro w'
            go_simp
            with_reducible rfl
           rotate_left
           ·simp only [Act.put, List.setIfInBounds_toArray, List.set_cons_zero, List.set_cons_succ, i64_w, i32_w]
            rfl
           refine pure_ (i := 2) (N := some 44) (v := ?_) (a' := ?_) #[true, true, true, false, false, false, false, false, false, false, false, false, false, false, false, false, false] rfl rfl (any_of HT_.out (by kernel_rfl)) (fun _ _ _ h => h) (Or.inl ⟨by rfl, ?_⟩) ?_ ?_
           rotate_left
           ·intro w'
            go_simp
            with_reducible rfl
           rotate_left
           ·simp only [Act.put, List.setIfInBounds_toArray, List.set_cons_zero, List.set_cons_succ, i64_w, i32_w]
            rfl
           refine pure_ (i := 3) (N := some 45) (v := ?_) (a' := ?_) #[true, true, true, true, false, false, false, false, false, false, false, false, false, false, false, false, false] rfl rfl (any_of HT_.out (by kernel_rfl)) (fun _ _ _ h => h) (Or.inl ⟨by rfl, ?_⟩) ?_ ?_
           rotate_left
           ·intro w'
            go_simp
            with_reducible rfl
           rotate_left
           ·simp only [Act.put, List.setIfInBounds_toArray, List.set_cons_zero, List.set_cons_succ, i64_w, i32_w]
            rfl
           refine pure_ (i := 4) (N := some 46) (v := ?_) (a' := ?_) #[true, true, true, true, true, false, false, false, false, false, false, false, false, false, false, false, false] rfl rfl (any_of HT_.out (by kernel_rfl)) (fun _ _ _ h => h) (Or.inl ⟨by rfl, ?_⟩) ?_ ?_
           rotate_left
           ·intro w'
            go_simp
            with_reducible rfl
           rotate_left
           ·simp only [Act.put, List.setIfInBounds_toArray, List.set_cons_zero, List.set_cons_succ, i64_w, i32_w]
            rfl
           refine pure_ (i := 7) (N := some 49) (v := ?_) (a' := ?_) #[true, true, true, true, true, false, false, true, false, false, false, false, false, false, false, false, false] rfl rfl (any_of HT_.out (by kernel_rfl)) (fun _ _ _ h => h) (Or.inl ⟨by rfl, ?_⟩) ?_ ?_
           rotate_left
           ·intro w'
            go_simp
            with_reducible rfl
           rotate_left
           ·simp only [Act.put, List.setIfInBounds_toArray, List.set_cons_zero, List.set_cons_succ, i64_w, i32_w]
            rfl
           refine pure_ (i := 8) (N := some 50) (v := ?_) (a' := ?_) #[true, true, true, true, true, false, false, true, true, false, false, false, false, false, false, false, false] rfl rfl (any_of HT_.out (by kernel_rfl)) (fun _ _ _ h => h) (Or.inl ⟨by rfl, ?_⟩) ?_ ?_
           rotate_left
           ·intro w'
            go_simp
            with_reducible rfl
           rotate_left
           ·simp only [Act.put, List.setIfInBounds_toArray, List.set_cons_zero, List.set_cons_succ, i64_w, i32_w]
            rfl
           refine pure_ (i := 9) (N := some 51) (v := ?_) (a' := ?_) #[true, true, true, true, true, false, false, true, true, true, false, false, false, false, false, false, false] rfl rfl (any_of HT_.out (by kernel_rfl)) (fun _ _ _ h => h) (Or.inl ⟨by rfl, ?_⟩) ?_ ?_
           rotate_left
           ·intro w'
            go_simp
            with_reducible rfl
           rotate_left
           ·simp only [Act.put, List.setIfInBounds_toArray, List.set_cons_zero, List.set_cons_succ, i64_w, i32_w]
            rfl
           refine pure_ (i := 10) (N := some 52) (v := ?_) (a' := ?_) #[true, true, true, true, true, false, false, true, true, true, true, false, false, false, false, false, false] rfl rfl (any_of HT_.out (by kernel_rfl)) (fun _ _ _ h => h) (Or.inl ⟨by rfl, ?_⟩) ?_ ?_
           rotate_left
           ·intro w'
            go_simp
            with_reducible rfl
           rotate_left
           ·simp only [Act.put, List.setIfInBounds_toArray, List.set_cons_zero, List.set_cons_succ, i64_w, i32_w]
            rfl
           refine take_ (i := 5) (N := some 47) (v := ?_) (a' := ?_) #[true, true, true, true, true, true, false, true, true, true, true, false, false, false, false, false, false] rfl rfl (take_ofW HT_.out HW_.out (by kernel_rfl)) (fun _ _ _ h => h) (Or.inl ⟨by rfl, ?_⟩) hHeld ?_ ?_
           rotate_left
           ·rintro w' ⟨s0, s1, s2, s3⟩
            go_simp
            with_reducible rfl
           rotate_left
           ·simp only [Act.put, List.setIfInBounds_toArray, List.set_cons_zero, List.set_cons_succ, i64_w, i32_w]
            rfl
           refine pure_ (i := 6) (N := some 48) (v := ?_) (a' := ?_) #[true, true, true, true, true, true, true, true, true, true, true, false, false, false, false, false, false] rfl rfl (any_of HT_.out (by kernel_rfl)) (fun _ _ _ h => h) (Or.inl ⟨by rfl, ?_⟩) ?_ ?_
           rotate_left
           ·intro w'
            go_simp
            with_reducible rfl
           rotate_left
           ·simp only [Act.put, List.setIfInBounds_toArray, List.set_cons_zero, List.set_cons_succ, i64_w, i32_w]
            rfl
           refine take_ (i := 11) (N := some 53) (v := ?_) (a' := ?_) #[true, true, true, true, true, true, true, true, true, true, true, true, false, false, false, false, false] rfl rfl (take_ofW HT_.out HW_.out (by kernel_rfl)) (fun _ _ _ h => h) (Or.inl ⟨by rfl, ?_⟩) hHeld ?_ ?_
           rotate_left
           ·rintro w' ⟨s0, s1, s2, s3⟩
            go_simp
            with_reducible rfl
           rotate_left
           ·simp only [Act.put, List.setIfInBounds_toArray, List.set_cons_zero, List.set_cons_succ, i64_w, i32_w]
            rfl
           refine pure_ (i := 12) (N := some 54) (v := ?_) (a' := ?_) #[true, true, true, true, true, true, true, true, true, true, true, true, true, false, false, false, false] rfl rfl (any_of HT_.out (by kernel_rfl)) (fun _ _ _ h => h) (Or.inl ⟨by rfl, ?_⟩) ?_ ?_
           rotate_left
           ·intro w'
            go_simp
            with_reducible rfl
           rotate_left
           ·simp only [Act.put, List.setIfInBounds_toArray, List.set_cons_zero, List.set_cons_succ, i64_w, i32_w]
            rfl
           refine pure_ (i := 13) (N := some 55) (v := ?_) (a' := ?_) #[true, true, true, true, true, true, true, true, true, true, true, true, true, true, false, false, false] rfl rfl (any_of HT_.out (by kernel_rfl)) (fun _ _ _ h => h) (Or.inl ⟨by rfl, ?_⟩) ?_ ?_
           rotate_left
           ·intro w'
            go_simp
            with_reducible rfl
           rotate_left
           ·simp only [Act.put, List.setIfInBounds_toArray, List.set_cons_zero, List.set_cons_succ, i64_w, i32_w]
            rfl
           refine one_ (i := 14) (N := some 56) #[true, true, true, true, true, true, true, true, true, true, true, true, true, true, true, false, false] rfl rfl (one_of HT_.out (by kernel_rfl)) (by decide) (fun K hK => ?_)
           refine Kd.R_lit_step (Kd.int .u8) _ 5 ?hg_1 (N := 56) ?hd_1 (xs := ([((rd_T48 l0 x6_2).f0) % 256, ((((rd_T48 l0 x6_2).f1).length : Int)) % 256] : List Int)) (inner := [.int .u8 (((rd_T48 l0 x6_2).f0) % 256), .int .u8 (((((rd_T48 l0 x6_2).f1).length : Int)) % 256)]) (ok := fun _ => True) (okp := fun _ => True) ?hr_1 ?hp_1 (fun _ hk => hk) trivial (Below.refl _ _) (Nat.le_refl _) (by simp) ?_; (case hd_1 => rfl); (case hg_1 => rfl); (case hr_1 => first | (go_simp; done) | (go_simp; rfl)); (case hp_1 => exact (Reps.one (show Kd.M (Kd.int .u8) _ _ _ (((rd_T48 l0 x6_2).f0) % 256) [.int .u8 (((rd_T48 l0 x6_2).f0) % 256)] from rfl) (Reps.one (show Kd.M (Kd.int .u8) _ _ _ (((((rd_T48 l0 x6_2).f1).length : Int)) % 256) [.int .u8 (((((rd_T48 l0 x6_2).f1).length : Int)) % 256)] from rfl) (Reps.none _ _))))
           intro v256 w13 ho14 hb hg_ hnew_
           clear hg_ hnew_
           (first | rw [← Ny255.out] at ho14 | (simp only [Int.reduceToNat] at ho14; rw [← Ny255.out] at ho14))
           have n0_ := Aside0.mk (Kd.R_elder' (by (with_reducible repeat (first | apply Kd.R_alloc | apply Kd.R_drewN | apply Kd.R_drew)); exact HO_5.out) (Kd.R_base ho14) hb)
           have n1_ := Aside0.mk (Kd.R_lower (Kd.R_new' ho14 (Kd.R_lt (by (with_reducible repeat (first | apply Kd.R_alloc | apply Kd.R_drewN | apply Kd.R_drew)); exact HO_5.out))) (below_size (by repeat (first | (with_reducible first | exact HB.out | apply below_alloc | apply pw_below_drewN | apply below_drew1) | exact HB.out))))
           have n2_ := Aside0.mk (below_step (by repeat (first | (with_reducible first | exact HB.out | apply below_alloc | apply pw_below_drewN | apply below_drew1) | exact HB.out)) hb)
           clear HO_5
           clear HB
           have HO_5 := n0_
           have HO257 := n1_
           have HB := n2_
           clear n0_ n1_ n2_
           clear hb ho14
           obtain ⟨Ao16, co16, eo16⟩ := Kd.R_slice HO257.out
           (first | subst eo16 | (injection eo16 with f1_ f2_ f3_; have f4_ := f1_.symm; have f5_ := f3_.symm; clear f1_ f2_ f3_; subst f4_; subst f5_))
           refine hK.out _ _ ⟨((HB.out.cell (World.block_lt_of_cell? w _ hw253_0)).trans hw253_0), ((HB.out.cell (World.block_lt_of_cell? w _ hw253_1)).trans hw253_1), ((HB.out.cell (World.block_lt_of_cell? w _ hw254_0)).trans hw254_0), ((HB.out.cell (World.block_lt_of_cell? w _ hw254_1)).trans hw254_1)⟩ (fun hHeld => ?_)
           clear hK K
           refine norm_ (a' := ?_) ?_ ?_
           rotate_left
           ·show Act.put _ (some 56) _ = _
            simp only [Act.put, List.setIfInBounds_toArray, List.set_cons_zero, List.set_cons_succ, i64_w, i32_w]
            rfl
           refine one_ (i := 15) (N := some 57) #[true, true, true, true, true, true, true, true, true, true, true, true, true, true, true, true, false] rfl rfl (one_of HT_.out (by kernel_rfl)) (by decide) (fun K hK => ?_)
           refine Kd.R_append_rows_step (Kd.int .u8) (w0 := w) w.heap.size (by rfl) (.tmp 42) (.tmp 56) 25 5 (.int .u8 0) 1 rfl Try.underlying25 info5 rfl (by decide) (by omega) u5 x5_2 y255 _ _ _ (fun k_ => some k_ ≠ (.slice Ao16 y255.length co16 : Value).ownBlock) (fun _ => False) rfl rfl ?aO_2 ?aR_2 (fun _ _ h => h) (fun _ h => h.elim) ?aF_2 ?aB_2 ?aS_2 ?aL_2 ?_
           (case aR_2 => repeat (first | exact (Kd.R_reads' HO257.out).2.2 | (with_reducible refine Kd.C_alloc ?_ _) | (with_reducible refine Kd.C_drewN ?_ _) | (with_reducible refine Kd.C_drew ?_)))
           (case aB_2 => exact (by repeat (first | (with_reducible first | exact HB.out | apply below_alloc | apply pw_below_drewN | apply below_drew1) | exact HB.out)))
           (case aF_2 => exact (fun k_ hk => Kd.fresh' (Kd.R_lt (by (with_reducible repeat (first | apply Kd.R_alloc | apply Kd.R_drewN | apply Kd.R_drew)); exact HO257.out)) k_ hk))
           (case aO_2 => exact (by (with_reducible repeat (first | apply Kd.R_alloc | apply Kd.R_drewN | apply Kd.R_drew)); exact Kd.R_mono HO_5.out (fun _ hk => hk.2)))
           (case aS_2 => exact (below_size (by repeat (first | (with_reducible first | exact HB.out | apply below_alloc | apply pw_below_drewN | apply below_drew1) | exact HB.out))))
           (case aL_2 => have := LMc9.out; omega)
           intro v259 w15 ho hb hg hat
           rw [← Ny258.out] at ho
           have n0_ := Aside0.mk (Kd.R_after (ok := (fun _ => True)) (by (with_reducible repeat (first | apply Kd.R_alloc | apply Kd.R_drewN | apply Kd.R_drew)); exact HO257.out) hg hat)
           have n1_ := Aside0.mk (hb)
           have n2_ := Aside0.mk (ho)
           clear HO257
           clear HB
           clear HO_5
           have HO257 := n0_
           have HB := n1_
           have HO260 := n2_
           clear n0_ n1_ n2_
           clear ho hb hg hat
           refine hK.out _ _ ⟨((HB.out.cell (World.block_lt_of_cell? w _ hw253_0)).trans hw253_0), ((HB.out.cell (World.block_lt_of_cell? w _ hw253_1)).trans hw253_1), ((HB.out.cell (World.block_lt_of_cell? w _ hw254_0)).trans hw254_0), ((HB.out.cell (World.block_lt_of_cell? w _ hw254_1)).trans hw254_1)⟩ (fun hHeld => ?_)
           clear hK K
           refine norm_ (a' := ?_) ?_ ?_
           rotate_left
           ·show Act.put _ (some 57) _ = _
            simp only [Act.put, List.setIfInBounds_toArray, List.set_cons_zero, List.set_cons_succ, i64_w, i32_w]
            rfl
           refine pure_ (i := 16) (N := some 5) (v := ?_) (a' := ?_) #[true, true, true, true, true, true, true, true, true, true, true, true, true, true, true, true, true] rfl rfl (any_of HT_.out (by kernel_rfl)) (fun _ _ _ h => h) (Or.inl ⟨by rfl, ?_⟩) ?_ ?_
           rotate_left
           ·intro w'
            go_simp
            with_reducible rfl
           rotate_left
           ·simp only [Act.put, List.setIfInBounds_toArray, List.set_cons_zero, List.set_cons_succ, i64_w, i32_w]
            rfl
           refine done_ (done_of HT_.out (by kernel_rfl)) ?_
           have p261 : 0 ≤ (x6_2 : Int) := of_decide_eq_true (by first | (with_reducible assumption) | assumption)
           have q261 : x6_2 < (l0.length : Int) := of_decide_eq_true (by first | (with_reducible assumption) | assumption)
           obtain ⟨ad261, A261_1, c261_1, e261, hx261_0, hx261_1, hl261_1, hi261_1⟩ := at_T48 HR0.out x6_2 p261 q261
           obtain rfl : ad253 = ad261 := (by injection e261)
           replace hx261_0 := (HB.out.cell (World.block_lt_of_cell? w _ hx261_0)).trans hx261_0
           replace hx261_1 := (HB.out.cell (World.block_lt_of_cell? w _ hx261_1)).trans hx261_1
           have HR261_1 := Aside0.mk hi261_1
           have HC261_1 := Aside0.mk hl261_1
           clear hi261_1 hl261_1
           replace p261 := eq_true p261
           replace q261 := eq_true q261
           try go_wp2_with (first | ((with_reducible refine gate_builtin (b := .append) (xs := #[.tmp 58, .tmp 63]) rfl ?_); (try (refine gate_guard (by rfl) ?_; dsimp only)); at_builtin; refine Kd.R_append_rows (Kd.int .u8) (w0 := w) w.heap.size rfl (.tmp 58) (.tmp 63) 25 5 (.int .u8 0) 1 rfl Try.underlying25 info5 rfl (by decide) (by omega) v259 y258 ((rd_T48 l0 x6_2).f1) _ _ _ (fun k_ => some k_ ≠ (.slice Ao16 y255.length co16 : Value).ownBlock) (fun _ => False) rfl rfl ?aO_3 ?aR_3 (fun _ _ h => h) (fun _ h => h.elim) ?aF_3 ?aB_3 ?aS_3 ?aL_3 ?_; (case aR_3 => repeat (first | exact (Kd.C_below HR261_1.out HB.out) | exact (Kd.C_below (Aside0.out (by assumption)) HB.out) | (with_reducible refine Kd.C_alloc ?_ _) | (with_reducible refine Kd.C_drewN ?_ _) | (with_reducible refine Kd.C_drew ?_))); (case aB_3 => exact (by repeat (first | (with_reducible first | exact HB.out | apply below_alloc | apply pw_below_drewN | apply below_drew1) | exact HB.out))); (case aF_3 => exact (fun k_ hk => Kd.fresh' (Kd.R_lt (by (with_reducible repeat (first | apply Kd.R_alloc | apply Kd.R_drewN | apply Kd.R_drew)); exact HO257.out)) k_ hk)); (case aO_3 => exact (by (with_reducible repeat (first | apply Kd.R_alloc | apply Kd.R_drewN | apply Kd.R_drew)); exact HO260.out)); (case aS_3 => exact (below_size (by repeat (first | (with_reducible first | exact HB.out | apply below_alloc | apply pw_below_drewN | apply below_drew1) | exact HB.out)))); (case aL_3 => have := LMc10.out; omega); intro v263 w17 ho hb hg hat; rw [← Ny262.out] at ho; have n0_ := Aside0.mk (Kd.R_after (ok := (fun _ => True)) (by (with_reducible repeat (first | apply Kd.R_alloc | apply Kd.R_drewN | apply Kd.R_drew)); exact HO257.out) hg hat); have n1_ := Aside0.mk (hb); have n2_ := Aside0.mk (ho); clear HO257; clear HB; clear HO260; have HO257 := n0_; have HB := n1_; have HO264 := n2_; clear n0_ n1_ n2_; clear ho hb hg hat; obtain ⟨Ao18, co18, eo18⟩ := Kd.R_slice HO264.out; subst eo18))
           go_ret2
           exact ⟨_, by first | rfl | (simp [errW_none, errW_some] <;> rfl) | (simp [*, errW_none, errW_some] <;> rfl), by first | exact Kd.R_nil _ _ _ _ _ | exact Kd.N_nil _ _ _ _ _ | exact Kd.V_nil _ _ _ _ _ | exact Kd.Q_nil _ _ _ _ _ | exact Kd.S_nil _ _ _ _ _, by repeat (first | (with_reducible first | exact HB.out | apply below_alloc | apply pw_below_drewN | apply below_drew1) | exact HB.out)⟩
          ·rw [if_neg c11] at H
           have c11b0 : decide (1024 ≤ (y262.length : Int)) = false := decide_eq_false c11
           have c11b1 : decide (1024 ≤ y262.length) = false := decide_eq_false (by omega)
           clear c11
           have H' := Aside0.mk H
           clear H
           try go_wp2
           have n0_ := Aside0.mk (Kd.R_drew HO_5.out)
           have n1_ := Aside0.mk (below_drew1 HB.out)
           clear HO_5
           clear HB
           have HO_5 := n0_
           have HB := n1_
           clear n0_ n1_
           have p253 : 0 ≤ (x6_2 : Int) := of_decide_eq_true (by first | (with_reducible assumption) | assumption)
           have q253 : x6_2 < (l0.length : Int) := of_decide_eq_true (by first | (with_reducible assumption) | assumption)
           obtain ⟨ad253, A253_1, c253_1, e253, hx253_0, hx253_1, hl253_1, hi253_1⟩ := at_T48 HR0.out x6_2 p253 q253
           have hw253_1 := hx253_1
           have hw253_0 := hx253_0
           cases e253
           replace hx253_0 := (HB.out.cell (World.block_lt_of_cell? w _ hx253_0)).trans hx253_0
           replace hx253_1 := (HB.out.cell (World.block_lt_of_cell? w _ hx253_1)).trans hx253_1
           have HR253_1 := Aside0.mk hi253_1
           have HC253_1 := Aside0.mk hl253_1
           clear hi253_1 hl253_1
           replace p253 := eq_true p253
           replace q253 := eq_true q253
           have p254 : 0 ≤ (x6_2 : Int) := of_decide_eq_true (by first | (with_reducible assumption) | assumption)
           have q254 : x6_2 < (l0.length : Int) := of_decide_eq_true (by first | (with_reducible assumption) | assumption)
           obtain ⟨ad254, A254_1, c254_1, e254, hx254_0, hx254_1, hl254_1, hi254_1⟩ := at_T48 HR0.out x6_2 p254 q254
           have hw254_1 := hx254_1
           have hw254_0 := hx254_0
           obtain rfl : ad253 = ad254 := (by injection e254)
           replace hx254_0 := (HB.out.cell (World.block_lt_of_cell? w _ hx254_0)).trans hx254_0
           replace hx254_1 := (HB.out.cell (World.block_lt_of_cell? w _ hx254_1)).trans hx254_1
           have HR254_1 := Aside0.mk hi254_1
           have HC254_1 := Aside0.mk hl254_1
           clear hi254_1 hl254_1
           replace p254 := eq_true p254
           replace q254 := eq_true q254
           have ea_ := Option.some.inj (hx253_1.symm.trans hx254_1)
           injection ea_ with ea_ en_ ec_
           subst ea_
           subst ec_
           clear en_
           refine start_ (n := 17) (S := fun w' => w'.cell? (ad253.add ((x6_2).toNat * 2)) = some (.int .i64 ((rd_T48 l0 x6_2).f0)) ∧ w'.cell? ⟨(ad253.add ((x6_2).toNat * 2)).block, (ad253.add ((x6_2).toNat * 2)).off + 1, none⟩ = some (.slice A253_1 ((rd_T48 l0 x6_2).f1).length c253_1) ∧ w'.cell? (ad253.add ((x6_2).toNat * 2)) = some (.int .i64 ((rd_T48 l0 x6_2).f0)) ∧ w'.cell? ⟨(ad253.add ((x6_2).toNat * 2)).block, (ad253.add ((x6_2).toNat * 2)).off + 1, none⟩ = some (.slice A253_1 ((rd_T48 l0 x6_2).f1).length c253_1)) (ds := []) #[false, false, false, false, false, false, false, false, false, false, false, false, false, false, false, false, false] (by kernel_rfl) rfl rfl ⟨((HB.out.cell (World.block_lt_of_cell? w _ hw253_0)).trans hw253_0), ((HB.out.cell (World.block_lt_of_cell? w _ hw253_1)).trans hw253_1), ((HB.out.cell (World.block_lt_of_cell? w _ hw254_0)).trans hw254_0), ((HB.out.cell (World.block_lt_of_cell? w _ hw254_1)).trans hw254_1)⟩ (fun hHeld => ?_); refine with_tabW lessorref02_Encode.tab10 lessorref02_Encode.bits10 (fun HT_ HW_ => ?_)
           generalize wr.drew = w19 at HO_5 HB HR253_1 HR254_1 hx253_0 hx253_1 hx254_0 hx254_1 hHeld ⊢
           refine pure_ (i := 0) (N := some 42) (v := ?_) (a' := ?_) #[true, false, false, false, false, false, false, false, false, false, false, false, false, false, false, false, false] rfl rfl (any_of HT_.out (by kernel_rfl)) (fun _ _ _ h => h) (Or.inl ⟨by rfl, ?_⟩) ?_ ?_
           rotate_left
           ·intro w'
            go_simp
            with_reducible rfl
           rotate_left
           ·simp only [Act.put, List.setIfInBounds_toArray, List.set_cons_zero, List.set_cons_succ, i64_w, i32_w]
            rfl
           refine pure_ (i := 1) (N := some 43) (v := ?_) (a' := ?_) #[true, true, false, false, false, false, false, false, false, false, false, false, false, false, false, false, false] rfl rfl (any_of HT_.out (by kernel_rfl)) (fun _ _ _ h => h) (Or.inl ⟨by rfl, ?_⟩) ?_ ?_
           rotate_left
           ·intro w'
            go_simp
            with_reducible rfl
           rotate_left
           ·simp only [Act.put, List.setIfInBounds_toArray, List.set_cons_zero, List.set_cons_succ, i64_w, i32_w]
            rfl
           refine pure_ (i := 2) (N := some 44) (v := ?_) (a' := ?_) #[true, true, true, false, false, false, false, false, false, false, false, false, false, false, false, false, false] rfl rfl (any_of HT_.out (by kernel_rfl)) (fun _ _ _ h => h) (Or.inl ⟨by rfl, ?_⟩) ?_ ?_
           rotate_left
           ·intro w'
            go_simp
            with_reducible rfl
           rotate_left
           ·simp only [Act.put, List.setIfInBounds_toArray, List.set_cons_zero, List.set_cons_succ, i64_w, i32_w]
            rfl
           refine pure_ (i := 3) (N := some 45) (v := ?_) (a' := ?_) #[true, true, true, true, false, false, false, false, false, false, false, false, false, false, false, false, false] rfl rfl (any_of HT_.out (by kernel_rfl)) (fun _ _ _ h => h) (Or.inl ⟨by rfl, ?_⟩) ?_ ?_
           rotate_left
           ·intro w'
            go_simp
            with_reducible rfl
           rotate_left
           ·simp only [Act.put, List.setIfInBounds_toArray, List.set_cons_zero, List.set_cons_succ, i64_w, i32_w]
            rfl
           refine pure_ (i := 4) (N := some 46) (v := ?_) (a' := ?_) #[true, true, true, true, true, false, false, false, false, false, false, false, false, false, false, false, false] rfl rfl (any_of HT_.out (by kernel_rfl)) (fun _ _ _ h => h) (Or.inl ⟨by rfl, ?_⟩) ?_ ?_
           rotate_left
           ·intro w'
            go_simp
            with_reducible rfl
           rotate_left
           ·simp only [Act.put, List.setIfInBounds_toArray, List.set_cons_zero, List.set_cons_succ, i64_w, i32_w]
            rfl
           refine pure_ (i := 7) (N := some 49) (v := ?_) (a' := ?_) #[true, true, true, true, true, false, false, true, false, false, false, false, false, false, false, false, false] rfl rfl (any_of HT_.out (by kernel_rfl)) (fun _ _ _ h => h) (Or.inl ⟨by rfl, ?_⟩) ?_ ?_
           rotate_left
           ·intro w'
            go_simp
            with_reducible rfl
           rotate_left
           ·simp only [Act.put, List.setIfInBounds_toArray, List.set_cons_zero, List.set_cons_succ, i64_w, i32_w]
            rfl
           refine pure_ (i := 8) (N := some 50) (v := ?_) (a' := ?_) #[true, true, true, true, true, false, false, true, true, false, false, false, false, false, false, false, false] rfl rfl (any_of HT_.out (by kernel_rfl)) (fun _ _ _ h => h) (Or.inl ⟨by rfl, ?_⟩) ?_ ?_
           rotate_left
           ·intro w'
            go_simp
            with_reducible rfl
           rotate_left
           ·simp only [Act.put, List.setIfInBounds_toArray, List.set_cons_zero, List.set_cons_succ, i64_w, i32_w]
            rfl
           refine pure_ (i := 9) (N := some 51) (v := ?_) (a' := ?_) #[true, true, true, true, true, false, false, true, true, true, false, false, false, false, false, false, false] rfl rfl (any_of HT_.out (by kernel_rfl)) (fun _ _ _ h => h) (Or.inl ⟨by rfl, ?_⟩) ?_ ?_
           rotate_left
           ·intro w'
            go_simp
            with_reducible rfl
           rotate_left
           ·simp only [Act.put, List.setIfInBounds_toArray, List.set_cons_zero, List.set_cons_succ, i64_w, i32_w]
            rfl
           refine pure_ (i := 10) (N := some 52) (v := ?_) (a' := ?_) #[true, true, true, true, true, false, false, true, true, true, true, false, false, false, false, false, false] rfl rfl (any_of HT_.out (by kernel_rfl)) (fun _ _ _ h => h) (Or.inl ⟨by rfl, ?_⟩) ?_ ?_
           rotate_left
           ·intro w'
            go_simp
            with_reducible rfl
           rotate_left
           ·simp only [Act.put, List.setIfInBounds_toArray, List.set_cons_zero, List.set_cons_succ, i64_w, i32_w]
            rfl
           refine take_ (i := 5) (N := some 47) (v := ?_) (a' := ?_) #[true, true, true, true, true, true, false, true, true, true, true, false, false, false, false, false, false] rfl rfl (take_ofW HT_.out HW_.out (by kernel_rfl)) (fun _ _ _ h => h) (Or.inl ⟨by rfl, ?_⟩) hHeld ?_ ?_
           rotate_left
           ·rintro w' ⟨s0, s1, s2, s3⟩
            go_simp
            with_reducible rfl
           rotate_left
           ·simp only [Act.put, List.setIfInBounds_toArray, List.set_cons_zero, List.set_cons_succ, i64_w, i32_w]
            rfl
           refine pure_ (i := 6) (N := some 48) (v := ?_) (a' := ?_) #[true, true, true, true, true, true, true, true, true, true, true, false, false, false, false, false, false] rfl rfl (any_of HT_.out (by kernel_rfl)) (fun _ _ _ h => h) (Or.inl ⟨by rfl, ?_⟩) ?_ ?_
           rotate_left
           ·intro w'
            go_simp
            with_reducible rfl
           rotate_left
           ·simp only [Act.put, List.setIfInBounds_toArray, List.set_cons_zero, List.set_cons_succ, i64_w, i32_w]
            rfl
           refine take_ (i := 11) (N := some 53) (v := ?_) (a' := ?_) #[true, true, true, true, true, true, true, true, true, true, true, true, false, false, false, false, false] rfl rfl (take_ofW HT_.out HW_.out (by kernel_rfl)) (fun _ _ _ h => h) (Or.inl ⟨by rfl, ?_⟩) hHeld ?_ ?_
           rotate_left
           ·rintro w' ⟨s0, s1, s2, s3⟩
            go_simp
            with_reducible rfl
           rotate_left
           ·simp only [Act.put, List.setIfInBounds_toArray, List.set_cons_zero, List.set_cons_succ, i64_w, i32_w]
            rfl
           refine pure_ (i := 12) (N := some 54) (v := ?_) (a' := ?_) #[true, true, true, true, true, true, true, true, true, true, true, true, true, false, false, false, false] rfl rfl (any_of HT_.out (by kernel_rfl)) (fun _ _ _ h => h) (Or.inl ⟨by rfl, ?_⟩) ?_ ?_
           rotate_left
           ·intro w'
            go_simp
            with_reducible rfl
           rotate_left
           ·simp only [Act.put, List.setIfInBounds_toArray, List.set_cons_zero, List.set_cons_succ, i64_w, i32_w]
            rfl
           refine pure_ (i := 13) (N := some 55) (v := ?_) (a' := ?_) #[true, true, true, true, true, true, true, true, true, true, true, true, true, true, false, false, false] rfl rfl (any_of HT_.out (by kernel_rfl)) (fun _ _ _ h => h) (Or.inl ⟨by rfl, ?_⟩) ?_ ?_
           rotate_left
           ·intro w'
            go_simp
            with_reducible rfl
           rotate_left
           ·simp only [Act.put, List.setIfInBounds_toArray, List.set_cons_zero, List.set_cons_succ, i64_w, i32_w]
            rfl
           refine one_ (i := 14) (N := some 56) #[true, true, true, true, true, true, true, true, true, true, true, true, true, true, true, false, false] rfl rfl (one_of HT_.out (by kernel_rfl)) (by decide) (fun K hK => ?_)
           refine Kd.R_lit_step (Kd.int .u8) _ 5 ?hg_4 (N := 56) ?hd_4 (xs := ([((rd_T48 l0 x6_2).f0) % 256, ((((rd_T48 l0 x6_2).f1).length : Int)) % 256] : List Int)) (inner := [.int .u8 (((rd_T48 l0 x6_2).f0) % 256), .int .u8 (((((rd_T48 l0 x6_2).f1).length : Int)) % 256)]) (ok := fun _ => True) (okp := fun _ => True) ?hr_4 ?hp_4 (fun _ hk => hk) trivial (Below.refl _ _) (Nat.le_refl _) (by simp) ?_; (case hd_4 => rfl); (case hg_4 => rfl); (case hr_4 => first | (go_simp; done) | (go_simp; rfl)); (case hp_4 => exact (Reps.one (show Kd.M (Kd.int .u8) _ _ _ (((rd_T48 l0 x6_2).f0) % 256) [.int .u8 (((rd_T48 l0 x6_2).f0) % 256)] from rfl) (Reps.one (show Kd.M (Kd.int .u8) _ _ _ (((((rd_T48 l0 x6_2).f1).length : Int)) % 256) [.int .u8 (((((rd_T48 l0 x6_2).f1).length : Int)) % 256)] from rfl) (Reps.none _ _))))
           intro v256 w20 ho21 hb hg_ hnew_
           clear hg_ hnew_
           (first | rw [← Ny255.out] at ho21 | (simp only [Int.reduceToNat] at ho21; rw [← Ny255.out] at ho21))
           have n0_ := Aside0.mk (Kd.R_elder' (by (with_reducible repeat (first | apply Kd.R_alloc | apply Kd.R_drewN | apply Kd.R_drew)); exact HO_5.out) (Kd.R_base ho21) hb)
           have n1_ := Aside0.mk (Kd.R_lower (Kd.R_new' ho21 (Kd.R_lt (by (with_reducible repeat (first | apply Kd.R_alloc | apply Kd.R_drewN | apply Kd.R_drew)); exact HO_5.out))) (below_size (by repeat (first | (with_reducible first | exact HB.out | apply below_alloc | apply pw_below_drewN | apply below_drew1) | exact HB.out))))
           have n2_ := Aside0.mk (below_step (by repeat (first | (with_reducible first | exact HB.out | apply below_alloc | apply pw_below_drewN | apply below_drew1) | exact HB.out)) hb)
           clear HO_5
           clear HB
           have HO_5 := n0_
           have HO257 := n1_
           have HB := n2_
           clear n0_ n1_ n2_
           clear hb ho21
           obtain ⟨Ao23, co23, eo23⟩ := Kd.R_slice HO257.out
           (first | subst eo23 | (injection eo23 with f1_ f2_ f3_; have f4_ := f1_.symm; have f5_ := f3_.symm; clear f1_ f2_ f3_; subst f4_; subst f5_))
           refine hK.out _ _ ⟨((HB.out.cell (World.block_lt_of_cell? w _ hw253_0)).trans hw253_0), ((HB.out.cell (World.block_lt_of_cell? w _ hw253_1)).trans hw253_1), ((HB.out.cell (World.block_lt_of_cell? w _ hw254_0)).trans hw254_0), ((HB.out.cell (World.block_lt_of_cell? w _ hw254_1)).trans hw254_1)⟩ (fun hHeld => ?_)
           clear hK K
           refine norm_ (a' := ?_) ?_ ?_
           rotate_left
           ·show Act.put _ (some 56) _ = _
            simp only [Act.put, List.setIfInBounds_toArray, List.set_cons_zero, List.set_cons_succ, i64_w, i32_w]
            rfl
           refine one_ (i := 15) (N := some 57) #[true, true, true, true, true, true, true, true, true, true, true, true, true, true, true, true, false] rfl rfl (one_of HT_.out (by kernel_rfl)) (by decide) (fun K hK => ?_)
           refine Kd.R_append_rows_step (Kd.int .u8) (w0 := w) w.heap.size (by rfl) (.tmp 42) (.tmp 56) 25 5 (.int .u8 0) 1 rfl Try.underlying25 info5 rfl (by decide) (by omega) u5 x5_2 y255 _ _ _ (fun k_ => some k_ ≠ (.slice Ao23 y255.length co23 : Value).ownBlock) (fun _ => False) rfl rfl ?aO_5 ?aR_5 (fun _ _ h => h) (fun _ h => h.elim) ?aF_5 ?aB_5 ?aS_5 ?aL_5 ?_
           (case aR_5 => repeat (first | exact (Kd.R_reads' HO257.out).2.2 | (with_reducible refine Kd.C_alloc ?_ _) | (with_reducible refine Kd.C_drewN ?_ _) | (with_reducible refine Kd.C_drew ?_)))
           (case aB_5 => exact (by repeat (first | (with_reducible first | exact HB.out | apply below_alloc | apply pw_below_drewN | apply below_drew1) | exact HB.out)))
           (case aF_5 => exact (fun k_ hk => Kd.fresh' (Kd.R_lt (by (with_reducible repeat (first | apply Kd.R_alloc | apply Kd.R_drewN | apply Kd.R_drew)); exact HO257.out)) k_ hk))
           (case aO_5 => exact (by (with_reducible repeat (first | apply Kd.R_alloc | apply Kd.R_drewN | apply Kd.R_drew)); exact Kd.R_mono HO_5.out (fun _ hk => hk.2)))
           (case aS_5 => exact (below_size (by repeat (first | (with_reducible first | exact HB.out | apply below_alloc | apply pw_below_drewN | apply below_drew1) | exact HB.out))))
           (case aL_5 => have := LMc9.out; omega)
           intro v259 w22 ho hb hg hat
           rw [← Ny258.out] at ho
           have n0_ := Aside0.mk (Kd.R_after (ok := (fun _ => True)) (by (with_reducible repeat (first | apply Kd.R_alloc | apply Kd.R_drewN | apply Kd.R_drew)); exact HO257.out) hg hat)
           have n1_ := Aside0.mk (hb)
           have n2_ := Aside0.mk (ho)
           clear HO257
           clear HB
           clear HO_5
           have HO257 := n0_
           have HB := n1_
           have HO260 := n2_
           clear n0_ n1_ n2_
           clear ho hb hg hat
           refine hK.out _ _ ⟨((HB.out.cell (World.block_lt_of_cell? w _ hw253_0)).trans hw253_0), ((HB.out.cell (World.block_lt_of_cell? w _ hw253_1)).trans hw253_1), ((HB.out.cell (World.block_lt_of_cell? w _ hw254_0)).trans hw254_0), ((HB.out.cell (World.block_lt_of_cell? w _ hw254_1)).trans hw254_1)⟩ (fun hHeld => ?_)
           clear hK K
           refine norm_ (a' := ?_) ?_ ?_
           rotate_left
           ·show Act.put _ (some 57) _ = _
            simp only [Act.put, List.setIfInBounds_toArray, List.set_cons_zero, List.set_cons_succ, i64_w, i32_w]
            rfl
           refine pure_ (i := 16) (N := some 5) (v := ?_) (a' := ?_) #[true, true, true, true, true, true, true, true, true, true, true, true, true, true, true, true, true] rfl rfl (any_of HT_.out (by kernel_rfl)) (fun _ _ _ h => h) (Or.inl ⟨by rfl, ?_⟩) ?_ ?_
           rotate_left
           ·intro w'
            go_simp
            with_reducible rfl
           rotate_left
           ·simp only [Act.put, List.setIfInBounds_toArray, List.set_cons_zero, List.set_cons_succ, i64_w, i32_w]
            rfl
           refine done_ (done_of HT_.out (by kernel_rfl)) ?_
           have p261 : 0 ≤ (x6_2 : Int) := of_decide_eq_true (by first | (with_reducible assumption) | assumption)
           have q261 : x6_2 < (l0.length : Int) := of_decide_eq_true (by first | (with_reducible assumption) | assumption)
           obtain ⟨ad261, A261_1, c261_1, e261, hx261_0, hx261_1, hl261_1, hi261_1⟩ := at_T48 HR0.out x6_2 p261 q261
           obtain rfl : ad253 = ad261 := (by injection e261)
           replace hx261_0 := (HB.out.cell (World.block_lt_of_cell? w _ hx261_0)).trans hx261_0
           replace hx261_1 := (HB.out.cell (World.block_lt_of_cell? w _ hx261_1)).trans hx261_1
           have HR261_1 := Aside0.mk hi261_1
           have HC261_1 := Aside0.mk hl261_1
           clear hi261_1 hl261_1
           replace p261 := eq_true p261
           replace q261 := eq_true q261
           try go_wp2_with (first | ((with_reducible refine gate_builtin (b := .append) (xs := #[.tmp 58, .tmp 63]) rfl ?_); (try (refine gate_guard (by rfl) ?_; dsimp only)); at_builtin; refine Kd.R_append_rows (Kd.int .u8) (w0 := w) w.heap.size rfl (.tmp 58) (.tmp 63) 25 5 (.int .u8 0) 1 rfl Try.underlying25 info5 rfl (by decide) (by omega) v259 y258 ((rd_T48 l0 x6_2).f1) _ _ _ (fun k_ => some k_ ≠ (.slice Ao23 y255.length co23 : Value).ownBlock) (fun _ => False) rfl rfl ?aO_6 ?aR_6 (fun _ _ h => h) (fun _ h => h.elim) ?aF_6 ?aB_6 ?aS_6 ?aL_6 ?_; (case aR_6 => repeat (first | exact (Kd.C_below HR261_1.out HB.out) | exact (Kd.C_below (Aside0.out (by assumption)) HB.out) | (with_reducible refine Kd.C_alloc ?_ _) | (with_reducible refine Kd.C_drewN ?_ _) | (with_reducible refine Kd.C_drew ?_))); (case aB_6 => exact (by repeat (first | (with_reducible first | exact HB.out | apply below_alloc | apply pw_below_drewN | apply below_drew1) | exact HB.out))); (case aF_6 => exact (fun k_ hk => Kd.fresh' (Kd.R_lt (by (with_reducible repeat (first | apply Kd.R_alloc | apply Kd.R_drewN | apply Kd.R_drew)); exact HO257.out)) k_ hk)); (case aO_6 => exact (by (with_reducible repeat (first | apply Kd.R_alloc | apply Kd.R_drewN | apply Kd.R_drew)); exact HO260.out)); (case aS_6 => exact (below_size (by repeat (first | (with_reducible first | exact HB.out | apply below_alloc | apply pw_below_drewN | apply below_drew1) | exact HB.out)))); (case aL_6 => have := LMc10.out; omega); intro v263 w24 ho hb hg hat; rw [← Ny262.out] at ho; have n0_ := Aside0.mk (Kd.R_after (ok := (fun _ => True)) (by (with_reducible repeat (first | apply Kd.R_alloc | apply Kd.R_drewN | apply Kd.R_drew)); exact HO257.out) hg hat); have n1_ := Aside0.mk (hb); have n2_ := Aside0.mk (ho); clear HO257; clear HB; clear HO260; have HO257 := n0_; have HB := n1_; have HO264 := n2_; clear n0_ n1_ n2_; clear ho hb hg hat; obtain ⟨Ao25, co25, eo25⟩ := Kd.R_slice HO264.out; subst eo25))
           go_roundg k2
           case measure => have := HK1.out; have := HK2.out; omega
           case rel => exact ⟨(y262), (wrap64 (x6_2 + 1)), (by first | rfl | (simp; done) | (simp [*]; done)), H', ⟨by have := HK1.out; have := HK2.out; omega⟩, ⟨by (with_reducible repeat (first | apply Kd.R_alloc | apply Kd.R_drewN | apply Kd.R_drew)); exact Kd.R_mono HO264.out (fun _ hk => trivial)⟩, ⟨by repeat (first | (with_reducible first | exact HB.out | apply below_alloc | apply pw_below_drewN | apply below_drew1) | exact HB.out)⟩⟩
         ·rw [if_neg c10] at H
          exact absurd H (by simp)
        ·rw [if_neg c9] at H
         exact absurd H (by simp)
       ·rw [if_neg c8] at H
        exact absurd H (by simp)
      ·rw [if_neg c7] at H
       have c7b0 : decide (x6_2 < (l0.length : Int)) = false := decide_eq_false c7
       clear c7
       by_cases c26 : x5_2.length < 140737488355328
       ·rw [if_pos c26] at H
        have LMc26 := Aside0.mk c26
        clear c26
        obtain ⟨y265, hy265⟩ : ∃ y_ : List Int, y_ = (x5_2 ++ [255]) := ⟨_, rfl⟩
        replace H : (some (y265, 0)) = some (r1, r2) := by first | (rw [hy265]; with_reducible exact H) | (have H2_ := (Option.bind_some _ _).symm.trans H; rw [hy265]; with_reducible exact H2_) | (have H2_ := (Option.bind_some _ _).symm.trans H; with_reducible exact H2_) | with_reducible exact H | (rw [hy265]; exact H) | exact H
        have Ny265 := Aside0.mk hy265
        clear hy265
        simp only [Option.some.injEq, Prod.mk.injEq] at H
        obtain ⟨rfl, rfl⟩ := H
        go_wp2_with (first | ((with_reducible refine gate_builtin (b := .append) (xs := #[.tmp 68, .tmp 69]) rfl ?_); (try (refine gate_guard (by rfl) ?_; dsimp only)); at_builtin; refine Kd.R_append (Kd.int .u8) (w0 := w) w.heap.size rfl (.tmp 68) (.tmp 69) 25 5 (.int .u8 0) 1 rfl Try.underlying25 info5 rfl (by decide) (by omega) u5 x5_2 255 [.int .u8 255] (fun _ => True) (fun _ => False) rfl rfl ?aP_7 (fun _ hk => hk.elim) ?aF_7 ?aO_7 ?aB_7 ?aS_7 ?aL_7 ?_; (case aP_7 => exact rfl); (case aB_7 => exact (by repeat (first | (with_reducible first | exact HB.out | apply below_alloc | apply pw_below_drewN | apply below_drew1) | exact HB.out))); (case aF_7 => exact (fun _ _ => trivial)); (case aO_7 => exact (by (with_reducible repeat (first | apply Kd.R_alloc | apply Kd.R_drewN | apply Kd.R_drew)); exact HO_5.out)); (case aS_7 => exact (below_size (by repeat (first | (with_reducible first | exact HB.out | apply below_alloc | apply pw_below_drewN | apply below_drew1) | exact HB.out)))); (case aL_7 => have := LMc26.out; omega); intro v266 w27 ho hb hg hat; rw [← Ny265.out] at ho; have n0_ := Aside0.mk (hb); have n1_ := Aside0.mk (ho); clear HB; clear HO_5; have HB := n0_; have HO267 := n1_; clear n0_ n1_; clear ho hb hg hat))
        go_ret2
        exact ⟨_, by first | rfl | (simp [errW_none, errW_some] <;> rfl) | (simp [*, errW_none, errW_some] <;> rfl), by (with_reducible repeat (first | apply Kd.R_alloc | apply Kd.R_drewN | apply Kd.R_drew)); exact HO267.out, by repeat (first | (with_reducible first | exact HB.out | apply below_alloc | apply pw_below_drewN | apply below_drew1) | exact HB.out)⟩
       ·rw [if_neg c26] at H
        exact absurd H (by simp)

end Go.Proofs.Ytnkajghemggaaaa.Pr
end

section
namespace Go.Proofs.Ytnkajghemggaaaa.PO
open Go.RowKit Go.Proofs.Ytnkajghemggaaaa Go.Proofs.Ytnkajghemggaaaa.Pr Go.Proofs.YtnkajghemggaaaaW.PrintWords Go.Proofs.YtnkajghemggaaaaW.PrintLast Go.Proofs.YtnkajghemggaaaaW.PrintMore
set_option linter.unusedVariables false
set_option linter.unusedSimpArgs false

/-! ### the reference's -/
theorem ref_encode1 (l : List Opt) (hf : few l) : ∀ (d i k : Nat), l.length ≤ i + d → i ≤ l.length → d < k → ((enc (l.take i)).length < 1024) →
    lessorref02_Encode.l1 k l (enc (l.take i)) (i : Int) = some (if 1024 ≤ (enc l).length then ([], 3) else (enc l ++ [255], 0)) := by
  obtain ⟨hn, hx⟩ := hf
  intro d
  induction d with
  | zero =>
    intro i k h1 h2 hk hs
    obtain ⟨k, rfl⟩ : ∃ m, k = m + 1 := ⟨k - 1, by omega⟩
    rw [List.take_of_length_le (by omega)] at hs ⊢
    simp only [lessorref02_Encode.l1]
    rw [if_neg (by omega), if_pos (by omega), if_neg (by omega)]
  | succ d ih =>
    intro i k h1 h2 hk hs
    obtain ⟨k, rfl⟩ : ∃ m, k = m + 1 := ⟨k - 1, by omega⟩
    by_cases h : i < l.length
    · simp only [lessorref02_Encode.l1]
      have ht1 := enc_take_le l (i + 1)
      have hx1 := hx l[i] (List.getElem_mem h)
      rw [if_pos (by omega), if_pos (by omega), rd_at l h]
      simp only [Option.bind_some]
      rw [if_pos (by simp; omega), if_pos (by simp; omega)]
      have e : enc (l.take i) ++ [l[i].f0 % 256, (l[i].f1.length : Int) % 256] ++ l[i].f1 = enc (l.take (i + 1)) := by
        rw [List.take_succ_eq_append_getElem h, enc_append, enc_one, enc1, List.append_assoc]
      rw [e]
      by_cases c : 1024 ≤ (enc (l.take (i + 1))).length
      · rw [if_pos (by omega), if_pos (by omega)]
      · rw [if_neg (by omega), wrapO (by omega) (by omega)]
        exact ih (i + 1) k (by omega) (by omega) (by omega) (by omega)
    · obtain rfl : i = l.length := by omega
      rw [List.take_of_length_le (by omega)] at hs ⊢
      simp only [lessorref02_Encode.l1]
      rw [if_neg (by omega), if_pos (by omega), if_neg (by omega)]
theorem ref_encode0 (l : List Opt) (hf : few l) : ∀ (d i k : Nat), l.length ≤ i + d → i ≤ l.length → d + 201 < k → (∀ x ∈ l.take i, okOpt x) →
    lessorref02_Encode.l0 k l (i : Int) = some (encR l) := by
  have hn := hf.1
  have fin : ∀ k, 201 < k → (∀ x ∈ l, okOpt x) → lessorref02_Encode.l0 k l (l.length : Int) = some (encR l) := by
    intro k hk ok
    obtain ⟨k, rfl⟩ : ∃ m, k = m + 1 := ⟨k - 1, by omega⟩
    simp only [lessorref02_Encode.l0]
    rw [if_neg (by omega)]
    unfold encR
    rw [if_pos ok]
    exact ref_encode1 l hf l.length 0 k (by omega) (by omega) (by omega) (by simp [enc])
  intro d
  induction d with
  | zero =>
    intro i k h1 h2 hk ho
    obtain rfl : i = l.length := by omega
    rw [List.take_length] at ho
    exact fin k (by omega) ho
  | succ d ih =>
    intro i k h1 h2 hk ho
    by_cases h : i < l.length
    · obtain ⟨k, rfl⟩ : ∃ m, k = m + 1 := ⟨k - 1, by omega⟩
      simp only [lessorref02_Encode.l0]
      rw [if_pos (by omega), if_pos (by omega), rd_at l h]
      have bad : ¬ okOpt l[i] → encR l = ([], 1) := fun hb => by unfold encR; rw [if_neg (fun h' => hb (h' _ (List.getElem_mem h)))]
      by_cases c1 : l[i].f0 < 1
      · rw [if_pos c1, bad (by unfold okOpt; omega)]
      · rw [if_neg c1]
        by_cases c2 : l[i].f0 > 254
        · rw [if_pos c2, bad (by unfold okOpt; omega)]
        · rw [if_neg c2]
          by_cases c3 : (l[i].f1.length : Int) > 255
          · rw [if_pos c3, bad (by unfold okOpt; omega)]
          · rw [if_neg c3, wrapO (by omega) (by omega)]
            refine ih (i + 1) k (by omega) (by omega) (by omega) ?_
            rw [List.take_succ_eq_append_getElem h]
            intro x hx
            rcases List.mem_append.1 hx with hx | hx
            · exact ho x hx
            · rw [List.mem_singleton.1 hx]; exact ⟨by omega, by omega, by omega⟩
    · obtain rfl : i = l.length := by omega
      rw [List.take_length] at ho
      exact fin k (by omega) ho
theorem ref_encode_eq (l : List Opt) (hf : few l) (k : Nat) (hk : 410 ≤ k) : lessorref02_Encode.f k l = some (encR l) := by
  have hn := hf.1
  unfold lessorref02_Encode.f
  exact ref_encode0 l hf l.length 0 k (by omega) (by omega) (by omega) (by simp)

end Go.Proofs.Ytnkajghemggaaaa.PO
end
