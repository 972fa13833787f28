/-
  Printed: PrF16.
  Tags as bytes, over lists: what relay.Encode, relay.Decode and the reference's compute. No condition of their own. (The reference.)
  lessorref26.Add in the print's form. Condition: few options, few tags.
-/
import Derived.Test.YtnkajghemggaaaaMRP1
import Derived.Test.YtnkajghemggaaaaMRP2
import Derived.Test.YtnkajghemggaaaaMRP7
import Derived.Test.YtnkajghemggaaaaMRP4
import Derived.Test.YtnkajghemggaaaaMRP6

section
-- written by a program of this session (wip/tools/gen.py) over the kit's print
namespace Go.Proofs.Ytnkajghemggaaaa.Pr
open Go.RowKit Go.Proofs.YtnkajghemggaaaaW.PrintWords Go.Proofs.YtnkajghemggaaaaW.PrintLast Go.Proofs.YtnkajghemggaaaaW.PrintMore
attribute [local go_sem] max2_int min2_int max_two min_two max_three min_three max_four min_four   -- for this text's walks alone
set_option linter.unusedVariables false
set_option linter.unusedSimpArgs false

/-! ### lessorref26_Decode: function 16 -/
mutual
def lessorref26_Decode.j0 : Nat → List Int → Bool → Option ((List (S48)) × Int)
 | 0, _, _ => none
 | k + 1, x0, x14 => if x14 = true then (some (([] : List (S48)), 2)) else (lessorref26_Decode.l0 k x0 ([] : List (S48)) 0)
def lessorref26_Decode.l0 : Nat → List Int → List (S48) → Int → Option ((List (S48)) × Int)
 | 0, _, _, _ => none
 | k + 1, x0, x4, x5 => if x5 < (x0.length : Int) then (if 0 ≤ x5 then (if (rd x0 x5) = 0 then (some (([] : List (S48)), 2)) else (if (wrap64 (x5 + 1)) ≥ (x0.length : Int) then (some (([] : List (S48)), 2)) else (if 0 ≤ (wrap64 (x5 + 1)) then (if (wrap64 (x5 + 1)) < (x0.length : Int) then (if (wrap64 ((wrap64 (x5 + 2)) + (wrap64 (rd x0 (wrap64 (x5 + 1)))))) > (x0.length : Int) then (some (([] : List (S48)), 2)) else ((some (([] : List Int) : List Int)).bind fun y147 => (if 0 ≤ (wrap64 (x5 + 2)) then (if (wrap64 (x5 + 2)) ≤ (wrap64 ((wrap64 (x5 + 2)) + (wrap64 (rd x0 (wrap64 (x5 + 1)))))) then (if (wrap64 ((wrap64 (x5 + 2)) + (wrap64 (rd x0 (wrap64 (x5 + 1)))))) ≤ (x0.length : Int) then (if y147.length + ((x0.take ((wrap64 ((wrap64 (x5 + 2)) + (wrap64 (rd x0 (wrap64 (x5 + 1)))))) : Int).toNat).drop ((wrap64 (x5 + 2)) : Int).toNat).length < 140737488355328 then (if x4.length < 4398046511104 then (lessorref26_Decode.l0 k x0 (x4 ++ [(⟨wrap64 (rd x0 x5), (y147 ++ ((x0.take ((wrap64 ((wrap64 (x5 + 2)) + (wrap64 (rd x0 (wrap64 (x5 + 1)))))) : Int).toNat).drop ((wrap64 (x5 + 2)) : Int).toNat))⟩ : S48)]) (wrap64 ((wrap64 (x5 + 2)) + (wrap64 (rd x0 (wrap64 (x5 + 1))))))) else (none)) else (none)) else (none)) else (none)) else (none)))) else (none)) else (none)))) else (none)) else (some (x4, 0))
end
def lessorref26_Decode.f (k : Nat) (l0 : List Int) : Option ((List (S48)) × Int) := if (l0.length : Int) = 0 then (lessorref26_Decode.j0 k l0 true) else (lessorref26_Decode.j0 k l0 (decide ((l0.length : Int) > 255)))
theorem lessorref26_Decode.mono_l : ∀ k, (∀ y0 y1, LeO (lessorref26_Decode.j0 k y0 y1) (lessorref26_Decode.j0 (k + 1) y0 y1)) ∧ (∀ y0 y1 y2, LeO (lessorref26_Decode.l0 k y0 y1 y2) (lessorref26_Decode.l0 (k + 1) y0 y1 y2))
 | 0 => ⟨fun _ _ r h => by simp [lessorref26_Decode.j0] at h, fun _ _ _ r h => by simp [lessorref26_Decode.l0] at h⟩
 | k + 1 => by
  obtain ⟨ih0, ih1⟩ := lessorref26_Decode.mono_l k
  refine ⟨?_, ?_⟩
  ·intro y0 y1
   unfold lessorref26_Decode.j0
   repeat' first
   | (with_reducible exact ih0 _ _)
   | (with_reducible exact ih1 _ _ _)
   | (with_reducible exact LeO.refl _)
   | (with_reducible exact LeO.none _)
   | (with_reducible refine LeO.ite ?_ ?_)
   | (with_reducible refine LeO.bind ?_ (fun _ => ?_))
   | exact ih0 _ _
   | exact ih1 _ _ _
   | exact LeO.none _
   | refine LeO.ite ?_ ?_
   | refine LeO.bind ?_ (fun _ => ?_)
  ·intro y0 y1 y2
   unfold lessorref26_Decode.l0
   repeat' first
   | (with_reducible exact ih0 _ _)
   | (with_reducible exact ih1 _ _ _)
   | (with_reducible exact LeO.refl _)
   | (with_reducible exact LeO.none _)
   | (with_reducible refine LeO.ite ?_ ?_)
   | (with_reducible refine LeO.bind ?_ (fun _ => ?_))
   | exact ih0 _ _
   | exact ih1 _ _ _
   | exact LeO.none _
   | refine LeO.ite ?_ ?_
   | refine LeO.bind ?_ (fun _ => ?_)
theorem lessorref26_Decode.mono : ∀ a0 k, LeO (lessorref26_Decode.f k a0) (lessorref26_Decode.f (k + 1) a0) := by
 intro a0 k
 obtain ⟨ih0, ih1⟩ := lessorref26_Decode.mono_l k
 unfold lessorref26_Decode.f
 repeat' first
   | (with_reducible exact ih0 _ _)
   | (with_reducible exact ih1 _ _ _)
   | (with_reducible exact LeO.refl _)
   | (with_reducible exact LeO.none _)
   | (with_reducible refine LeO.ite ?_ ?_)
   | (with_reducible refine LeO.bind ?_ (fun _ => ?_))
   | exact ih0 _ _
   | exact ih1 _ _ _
   | exact LeO.none _
   | refine LeO.ite ?_ ?_
   | refine LeO.bind ?_ (fun _ => ?_)
def lessorref26_Decode.T9 : Bool × List (List Nat × List Nat) := (true, [([], []), ([], []), ([], []), ([1, 2], [1, 2]), ([3], [3]), ([4], [4]), ([], []), ([], []), ([], []), ([8], [8]), ([], []), ([10], [10]), ([], []), ([11, 12], [11, 12]), ([7, 9, 13], [7, 9, 13]), ([6, 14], [6, 14]), ([5, 15], [5, 15]), ([16], [16]), ([0, 17, 15], [0, 17]), ([18, 18, 0, 1, 2, 3, 4, 5, 6, 7, 8, 9, 10, 11, 12, 13, 14, 15, 16, 17, 18], [0, 18])])
def lessorref26_Decode.B9 : List Nat := [0, 0, 0, 6, 14, 30, 0, 0, 0, 256, 0, 1024, 0, 7168, 16256, 32704, 65534, 131070, 262143, 524287]
theorem lessorref26_Decode.tab9 : rtab .any (opsOf Try.f16 9) = lessorref26_Decode.T9 := by kernel_rfl
theorem lessorref26_Decode.bits9 : waitsOk lessorref26_Decode.T9.2 lessorref26_Decode.B9 = true := by kernel_rfl
set_option maxHeartbeats 8000000 in
set_option maxRecDepth 100000 in
theorem lessorref26_Decode.calls (k : Nat) (A0 : Option Addr) (c0 : Nat) (l0 : List Int) (r1 : List (S48)) (r2 : Int) (w : World) (hr0 : Kd.C (Kd.int .u8) w A0 l0.length l0) (hc0 : l0.length ≤ c0) (h : lessorref26_Decode.f k l0 = some (r1, r2)) :
  Calls Try.prog 16 #[.slice A0 l0.length c0] w fun e w' => ∃ v0_ : Value, e = .returned (.tuple #[v0_, .int .i64 r2]) ∧ Kd.S k48 48 w' w.heap.size (fun _ => True) v0_ r1 ∧ Below w.heap.size w w' := by
 have hu48 := Try.underlying48
 have HR0 := Aside0.mk hr0
 have HC0 := Aside0.mk hc0
 clear hr0 hc0
 have HB := Aside0.mk (Below.refl w.heap.size w)
 have H : (if (l0.length : Int) = 0 then (lessorref26_Decode.j0 k l0 true) else (lessorref26_Decode.j0 k l0 (decide ((l0.length : Int) > 255)))) = some (r1, r2) := h
 clear h
 have HC2 := Aside0.mk H
 clear H
 go_enter Try.func16, Try.ntmps16
 go_upto_region 1 with (fail)
 go_cut [14] (fun v14 wc => ∃ (kq : Nat) (x14_1 : Bool), v14 = .bool x14_1 ∧ Aside0 (lessorref26_Decode.j0 kq l0 x14_1 = some (r1, r2)) ∧ Aside0 (kq ≤ k) ∧ Aside0 (Below w.heap.size w wc))
 case first =>
  have H := HC2.out
  clear HC2
  by_cases c3 : (l0.length : Int) = 0
  ·rw [if_pos c3] at H
   have c3b0 : ((l0.length : Int) == 0) = true := beq_iff_eq.mpr c3
   have c3b1 : ((l0.length : Int) != 0) = false := bne_eq_false_iff_eq.mpr c3
   clear c3
   (first | rw [c3b0] | (simp only [i64_w, i32_w]; rw [c3b0]) | skip)
   have H' := Aside0.mk H
   clear H
   go_wp2
   go_meet
   case rel => exact ⟨_, (true), (by first | rfl | (simp; done) | (simp [*]; done)), H', ⟨by first | omega | exact Nat.le_refl _⟩, ⟨by repeat (first | (with_reducible first | exact HB.out | apply below_alloc | apply pw_below_drewN | apply below_drew1) | exact HB.out)⟩⟩
  ·rw [if_neg c3] at H
   have c3b0 : ((l0.length : Int) == 0) = false := beq_eq_false_iff_ne.mpr c3
   have c3b1 : ((l0.length : Int) != 0) = true := bne_iff_ne.mpr c3
   have c3b2 : ¬ (l0 = []) := fun h_ => c3 (by rw [h_]; rfl)
   (first | rw [c3b0] | (simp only [i64_w, i32_w]; rw [c3b0]) | skip)
   have H' := Aside0.mk H
   clear H
   go_wp2
   go_meet
   case rel => exact ⟨_, (decide ((l0.length : Int) > 255)), (by first | rfl | (simp; done) | (simp [*]; done)), H', ⟨by first | omega | exact Nat.le_refl _⟩, ⟨by repeat (first | (with_reducible first | exact HB.out | apply below_alloc | apply pw_below_drewN | apply below_drew1) | exact HB.out)⟩⟩
 case rest =>
  clear HC2
  try clear c1
  try clear p2
  try clear c3
  try clear c3b0
  try clear c3b1
  try clear c3b2
  obtain ⟨kq, x14_1, rfl, HA, HJ1, HB⟩ := hcut
  cases kq with
  | zero => exact absurd HA.out (by simp [lessorref26_Decode.j0])
  | succ kj1 =>
   have H := HA.out
   clear HA
   simp only [lessorref26_Decode.j0] at H
   by_cases c4 : x14_1 = true
   ·subst c4
    have H1 : (some (([] : List (S48)), 2)) = some (r1, r2) := by rw [if_pos rfl] at H; exact H
    clear H
    have H := H1
    clear H1
    simp only [Option.some.injEq, Prod.mk.injEq] at H
    obtain ⟨rfl, rfl⟩ := H
    go_wp2
    go_ret2
    exact ⟨_, by first | rfl | (simp [errW_none, errW_some] <;> rfl) | (simp [*, errW_none, errW_some] <;> rfl), by first | exact Kd.S_nil _ _ _ _ _ | exact Kd.N_nil _ _ _ _ _ | exact Kd.V_nil _ _ _ _ _ | exact Kd.Q_nil _ _ _ _ _ | exact Kd.R_nil _ _ _ _ _, by repeat (first | (with_reducible first | exact HB.out | apply below_alloc | apply pw_below_drewN | apply below_drew1) | exact HB.out)⟩
   ·replace c4 := Bool.eq_false_iff.mpr c4
    subst c4
    have H1 : (lessorref26_Decode.l0 kj1 l0 ([] : List (S48)) 0) = some (r1, r2) := by rw [if_neg (show ¬ (false = true) by decide)] at H; exact H
    clear H
    have H := H1
    clear H1
    have H' := Aside0.mk H
    clear H
    go_wp2
    go_loopg [4, 5] kj1 (fun kq v4 v5 w' => ∃ (x4_2 : List (S48)) (x5_2 : Int), v5 = .int .i64 x5_2 ∧ Aside0 (lessorref26_Decode.l0 kq l0 x4_2 x5_2 = some (r1, r2)) ∧ Aside0 (kq ≤ kj1) ∧ Aside0 (Kd.S k48 48 w' w.heap.size (fun _ => True) v4 x4_2) ∧ Aside0 (Below w.heap.size w w'))
    case atStart => exact ⟨(([] : List (S48))), (0), (by first | rfl | (simp; done) | (simp [*]; done)), H', ⟨Nat.le_refl _⟩, ⟨by first | exact Kd.S_nil _ _ _ _ _ | exact Kd.N_nil _ _ _ _ _ | exact Kd.V_nil _ _ _ _ _ | exact Kd.Q_nil _ _ _ _ _ | exact Kd.R_nil _ _ _ _ _⟩, ⟨by repeat (first | (with_reducible first | exact HB.out | apply below_alloc | apply pw_below_drewN | apply below_drew1) | exact HB.out)⟩⟩
    case round =>
     clear H'
     try clear c1
     try clear p2
     try clear c3
     try clear c3b0
     try clear c3b1
     try clear c3b2
     try clear c4
     try clear p2
     obtain ⟨x4_2, x5_2, rfl, HA, HK2, HO_4, HB⟩ := hrel
     cases gk with
     | zero => exact absurd HA.out (by simp [lessorref26_Decode.l0])
     | succ k2 =>
      have H := HA.out
      clear HA
      simp only [lessorref26_Decode.l0] at H
      by_cases c5 : x5_2 < (l0.length : Int)
      ·rw [if_pos c5] at H
       have c5b0 : decide (x5_2 < (l0.length : Int)) = true := decide_eq_true c5
       clear c5
       by_cases c6 : 0 ≤ x5_2
       ·rw [if_pos c6] at H
        have c6b0 : decide (0 ≤ x5_2) = true := decide_eq_true c6
        clear c6
        by_cases c7 : (rd l0 x5_2) = 0
        ·rw [if_pos c7] at H
         have c7b0 : ((rd l0 x5_2) == 0) = true := beq_iff_eq.mpr c7
         have c7b1 : ((rd l0 x5_2) != 0) = false := bne_eq_false_iff_eq.mpr c7
         clear c7
         simp only [Option.some.injEq, Prod.mk.injEq] at H
         obtain ⟨rfl, rfl⟩ := H
         have p143 : 0 ≤ (x5_2 : Int) := of_decide_eq_true (by first | (with_reducible assumption) | assumption)
         have q143 : x5_2 < (l0.length : Int) := of_decide_eq_true (by first | (with_reducible assumption) | assumption)
         obtain ⟨ad143, e143, hx143_0⟩ := Kd.at_int HR0.out x5_2 p143 q143
         cases e143
         replace hx143_0 := (HB.out.cell (World.block_lt_of_cell? w _ hx143_0)).trans hx143_0
         replace p143 := eq_true p143
         replace q143 := eq_true q143
         go_wp2
         go_ret2
         exact ⟨_, by first | rfl | (simp [errW_none, errW_some] <;> rfl) | (simp [*, errW_none, errW_some] <;> rfl), by first | exact Kd.S_nil _ _ _ _ _ | exact Kd.N_nil _ _ _ _ _ | exact Kd.V_nil _ _ _ _ _ | exact Kd.Q_nil _ _ _ _ _ | exact Kd.R_nil _ _ _ _ _, by repeat (first | (with_reducible first | exact HB.out | apply below_alloc | apply pw_below_drewN | apply below_drew1) | exact HB.out)⟩
        ·rw [if_neg c7] at H
         have c7b0 : ((rd l0 x5_2) == 0) = false := beq_eq_false_iff_ne.mpr c7
         have c7b1 : ((rd l0 x5_2) != 0) = true := bne_iff_ne.mpr c7
         by_cases c8 : (wrap64 (x5_2 + 1)) ≥ (l0.length : Int)
         ·rw [if_pos c8] at H
          have c8b0 : decide ((l0.length : Int) ≤ (wrap64 (x5_2 + 1))) = true := decide_eq_true c8
          clear c8
          simp only [Option.some.injEq, Prod.mk.injEq] at H
          obtain ⟨rfl, rfl⟩ := H
          have p143 : 0 ≤ (x5_2 : Int) := of_decide_eq_true (by first | (with_reducible assumption) | assumption)
          have q143 : x5_2 < (l0.length : Int) := of_decide_eq_true (by first | (with_reducible assumption) | assumption)
          obtain ⟨ad143, e143, hx143_0⟩ := Kd.at_int HR0.out x5_2 p143 q143
          cases e143
          replace hx143_0 := (HB.out.cell (World.block_lt_of_cell? w _ hx143_0)).trans hx143_0
          replace p143 := eq_true p143
          replace q143 := eq_true q143
          go_wp2
          go_ret2
          exact ⟨_, by first | rfl | (simp [errW_none, errW_some] <;> rfl) | (simp [*, errW_none, errW_some] <;> rfl), by first | exact Kd.S_nil _ _ _ _ _ | exact Kd.N_nil _ _ _ _ _ | exact Kd.V_nil _ _ _ _ _ | exact Kd.Q_nil _ _ _ _ _ | exact Kd.R_nil _ _ _ _ _, by repeat (first | (with_reducible first | exact HB.out | apply below_alloc | apply pw_below_drewN | apply below_drew1) | exact HB.out)⟩
         ·rw [if_neg c8] at H
          have c8b0 : decide ((l0.length : Int) ≤ (wrap64 (x5_2 + 1))) = false := decide_eq_false c8
          clear c8
          obtain ⟨ji9, hji9⟩ : ∃ j_ : Int, (wrap64 (x5_2 + 1)) = j_ := ⟨_, rfl⟩
          replace H : (if 0 ≤ (ji9) then (if (ji9) < (l0.length : Int) then (if (wrap64 ((wrap64 (x5_2 + 2)) + (wrap64 (rd l0 (ji9))))) > (l0.length : Int) then (some (([] : List (S48)), 2)) else ((some (([] : List Int) : List Int)).bind fun y147 => (if 0 ≤ (wrap64 (x5_2 + 2)) then (if (wrap64 (x5_2 + 2)) ≤ (wrap64 ((wrap64 (x5_2 + 2)) + (wrap64 (rd l0 (ji9))))) then (if (wrap64 ((wrap64 (x5_2 + 2)) + (wrap64 (rd l0 (ji9))))) ≤ (l0.length : Int) then (if y147.length + ((l0.take ((wrap64 ((wrap64 (x5_2 + 2)) + (wrap64 (rd l0 (ji9))))) : Int).toNat).drop ((wrap64 (x5_2 + 2)) : Int).toNat).length < 140737488355328 then (if x4_2.length < 4398046511104 then (lessorref26_Decode.l0 k2 l0 (x4_2 ++ [(⟨wrap64 (rd l0 x5_2), (y147 ++ ((l0.take ((wrap64 ((wrap64 (x5_2 + 2)) + (wrap64 (rd l0 (ji9))))) : Int).toNat).drop ((wrap64 (x5_2 + 2)) : Int).toNat))⟩ : S48)]) (wrap64 ((wrap64 (x5_2 + 2)) + (wrap64 (rd l0 (ji9)))))) else (none)) else (none)) else (none)) else (none)) else (none)))) else (none)) else (none)) = some (r1, r2) := by first | (rw [hji9] at H; exact H) | (simp only [hji9] at H ⊢; exact H)
          (try rw [hji9] at c8b0)
          have hji9w : (IntKind.i64.wrap (x5_2 + 1)) = ji9 := (i64_w _).trans hji9
          by_cases c10 : 0 ≤ (ji9)
          ·rw [if_pos c10] at H
           have c10b0 : decide (0 ≤ (ji9)) = true := decide_eq_true c10
           clear c10
           by_cases c11 : (ji9) < (l0.length : Int)
           ·rw [if_pos c11] at H
            have c11b0 : decide ((ji9) < (l0.length : Int)) = true := decide_eq_true c11
            clear c11
            by_cases c12 : (wrap64 ((wrap64 (x5_2 + 2)) + (wrap64 (rd l0 (ji9))))) > (l0.length : Int)
            ·rw [if_pos c12] at H
             have c12b0 : decide ((l0.length : Int) < (wrap64 ((wrap64 (x5_2 + 2)) + (wrap64 (rd l0 (ji9)))))) = true := decide_eq_true c12
             clear c12
             simp only [Option.some.injEq, Prod.mk.injEq] at H
             obtain ⟨rfl, rfl⟩ := H
             have p143 : 0 ≤ (x5_2 : Int) := of_decide_eq_true (by first | (with_reducible assumption) | assumption)
             have q143 : x5_2 < (l0.length : Int) := of_decide_eq_true (by first | (with_reducible assumption) | assumption)
             obtain ⟨ad143, e143, hx143_0⟩ := Kd.at_int HR0.out x5_2 p143 q143
             cases e143
             replace hx143_0 := (HB.out.cell (World.block_lt_of_cell? w _ hx143_0)).trans hx143_0
             replace p143 := eq_true p143
             replace q143 := eq_true q143
             have p144 : 0 ≤ ((ji9) : Int) := of_decide_eq_true (by first | (with_reducible assumption) | assumption)
             have q144 : (ji9) < (l0.length : Int) := of_decide_eq_true (by first | (with_reducible assumption) | assumption)
             obtain ⟨ad144, e144, hx144_0⟩ := Kd.at_int HR0.out (ji9) p144 q144
             obtain rfl : ad143 = ad144 := (by injection e144)
             replace hx144_0 := (HB.out.cell (World.block_lt_of_cell? w _ hx144_0)).trans hx144_0
             replace p144 := eq_true p144
             replace q144 := eq_true q144
             go_wp2
             go_ret2
             exact ⟨_, by first | rfl | (simp [errW_none, errW_some] <;> rfl) | (simp only [← hji9]; first | rfl | (simp [errW_none, errW_some] <;> rfl)) | (simp [*, errW_none, errW_some] <;> rfl), by first | exact Kd.S_nil _ _ _ _ _ | exact Kd.N_nil _ _ _ _ _ | exact Kd.V_nil _ _ _ _ _ | exact Kd.Q_nil _ _ _ _ _ | exact Kd.R_nil _ _ _ _ _, by repeat (first | (with_reducible first | exact HB.out | apply below_alloc | apply pw_below_drewN | apply below_drew1) | exact HB.out)⟩
            ·rw [if_neg c12] at H
             have c12b0 : decide ((l0.length : Int) < (wrap64 ((wrap64 (x5_2 + 2)) + (wrap64 (rd l0 (ji9)))))) = false := decide_eq_false c12
             clear c12
             obtain ⟨y147, hy147⟩ : ∃ y_ : List Int, y_ = (([] : List Int)) := ⟨_, rfl⟩
             replace H : (if 0 ≤ (wrap64 (x5_2 + 2)) then (if (wrap64 (x5_2 + 2)) ≤ (wrap64 ((wrap64 (x5_2 + 2)) + (wrap64 (rd l0 (ji9))))) then (if (wrap64 ((wrap64 (x5_2 + 2)) + (wrap64 (rd l0 (ji9))))) ≤ (l0.length : Int) then (if y147.length + ((l0.take ((wrap64 ((wrap64 (x5_2 + 2)) + (wrap64 (rd l0 (ji9))))) : Int).toNat).drop ((wrap64 (x5_2 + 2)) : Int).toNat).length < 140737488355328 then (if x4_2.length < 4398046511104 then (lessorref26_Decode.l0 k2 l0 (x4_2 ++ [(⟨wrap64 (rd l0 x5_2), (y147 ++ ((l0.take ((wrap64 ((wrap64 (x5_2 + 2)) + (wrap64 (rd l0 (ji9))))) : Int).toNat).drop ((wrap64 (x5_2 + 2)) : Int).toNat))⟩ : S48)]) (wrap64 ((wrap64 (x5_2 + 2)) + (wrap64 (rd l0 (ji9)))))) else (none)) else (none)) else (none)) else (none)) else (none)) = some (r1, r2) := by first | (rw [hy147]; with_reducible exact H) | (have H2_ := (Option.bind_some _ _).symm.trans H; rw [hy147]; with_reducible exact H2_) | (have H2_ := (Option.bind_some _ _).symm.trans H; with_reducible exact H2_) | with_reducible exact H | (rw [hy147]; exact H) | exact H
             have Ny147 := Aside0.mk hy147
             clear hy147
             obtain ⟨ji13, hji13⟩ : ∃ j_ : Int, (wrap64 (x5_2 + 2)) = j_ := ⟨_, rfl⟩
             replace H : (if 0 ≤ (ji13) then (if (ji13) ≤ (wrap64 ((ji13) + (wrap64 (rd l0 (ji9))))) then (if (wrap64 ((ji13) + (wrap64 (rd l0 (ji9))))) ≤ (l0.length : Int) then (if y147.length + ((l0.take ((wrap64 ((ji13) + (wrap64 (rd l0 (ji9))))) : Int).toNat).drop ((ji13) : Int).toNat).length < 140737488355328 then (if x4_2.length < 4398046511104 then (lessorref26_Decode.l0 k2 l0 (x4_2 ++ [(⟨wrap64 (rd l0 x5_2), (y147 ++ ((l0.take ((wrap64 ((ji13) + (wrap64 (rd l0 (ji9))))) : Int).toNat).drop ((ji13) : Int).toNat))⟩ : S48)]) (wrap64 ((ji13) + (wrap64 (rd l0 (ji9)))))) else (none)) else (none)) else (none)) else (none)) else (none)) = some (r1, r2) := by first | (rw [hji13] at H; exact H) | (simp only [hji13] at H ⊢; exact H)
             (try rw [hji13] at c12b0)
             have hji13w : (IntKind.i64.wrap (x5_2 + 2)) = ji13 := (i64_w _).trans hji13
             by_cases c14 : 0 ≤ (ji13)
             ·rw [if_pos c14] at H
              have c14b0 := eq_true c14
              have c14b1 : decide (0 ≤ (ji13)) = true := decide_eq_true c14
              clear c14
              by_cases c15 : (ji13) ≤ (wrap64 ((ji13) + (wrap64 (rd l0 (ji9)))))
              ·rw [if_pos c15] at H
               have c15b0 := eq_true c15
               have c15b1 : decide ((ji13) ≤ (wrap64 ((ji13) + (wrap64 (rd l0 (ji9)))))) = true := decide_eq_true c15
               by_cases c16 : (wrap64 ((ji13) + (wrap64 (rd l0 (ji9))))) ≤ (l0.length : Int)
               ·rw [if_pos c16] at H
                have c16b0 := eq_true c16
                have c16b1 : decide ((wrap64 ((ji13) + (wrap64 (rd l0 (ji9))))) ≤ (l0.length : Int)) = true := decide_eq_true c16
                by_cases c17 : y147.length + ((l0.take ((wrap64 ((ji13) + (wrap64 (rd l0 (ji9))))) : Int).toNat).drop ((ji13) : Int).toNat).length < 140737488355328
                ·rw [if_pos c17] at H
                 have LMc17 := Aside0.mk c17
                 clear c17
                 obtain ⟨y151, hy151⟩ : ∃ y_ : List Int, y_ = (y147 ++ ((l0.take ((wrap64 ((ji13) + (wrap64 (rd l0 (ji9))))) : Int).toNat).drop ((ji13) : Int).toNat)) := ⟨_, rfl⟩
                 replace H : (if x4_2.length < 4398046511104 then (lessorref26_Decode.l0 k2 l0 (x4_2 ++ [(⟨wrap64 (rd l0 x5_2), y151⟩ : S48)]) (wrap64 ((ji13) + (wrap64 (rd l0 (ji9)))))) else (none)) = some (r1, r2) := by first | (rw [hy151]; with_reducible exact H) | (have H2_ := (Option.bind_some _ _).symm.trans H; rw [hy151]; with_reducible exact H2_) | (have H2_ := (Option.bind_some _ _).symm.trans H; with_reducible exact H2_) | with_reducible exact H | (rw [hy151]; exact H) | exact H
                 have Ny151 := Aside0.mk hy151
                 clear hy151
                 by_cases c18 : x4_2.length < 4398046511104
                 ·rw [if_pos c18] at H
                  have LMc18 := Aside0.mk c18
                  clear c18
                  obtain ⟨y154, hy154⟩ : ∃ y_ : List (S48), y_ = (x4_2 ++ [(⟨wrap64 (rd l0 x5_2), y151⟩ : S48)]) := ⟨_, rfl⟩
                  replace H : (lessorref26_Decode.l0 k2 l0 y154 (wrap64 ((ji13) + (wrap64 (rd l0 (ji9)))))) = some (r1, r2) := by first | (rw [hy154]; with_reducible exact H) | (have H2_ := (Option.bind_some _ _).symm.trans H; rw [hy154]; with_reducible exact H2_) | (have H2_ := (Option.bind_some _ _).symm.trans H; with_reducible exact H2_) | with_reducible exact H | (rw [hy154]; exact H) | exact H
                  have Ny154 := Aside0.mk hy154
                  clear hy154
                  have H' := Aside0.mk H
                  clear H
                  have p143 : 0 ≤ (x5_2 : Int) := of_decide_eq_true (by first | (with_reducible assumption) | assumption)
                  have q143 : x5_2 < (l0.length : Int) := of_decide_eq_true (by first | (with_reducible assumption) | assumption)
                  obtain ⟨ad143, e143, hx143_0⟩ := Kd.at_int HR0.out x5_2 p143 q143
                  cases e143
                  replace hx143_0 := (HB.out.cell (World.block_lt_of_cell? w _ hx143_0)).trans hx143_0
                  replace p143 := eq_true p143
                  replace q143 := eq_true q143
                  have p144 : 0 ≤ ((ji9) : Int) := of_decide_eq_true (by first | (with_reducible assumption) | assumption)
                  have q144 : (ji9) < (l0.length : Int) := of_decide_eq_true (by first | (with_reducible assumption) | assumption)
                  obtain ⟨ad144, e144, hx144_0⟩ := Kd.at_int HR0.out (ji9) p144 q144
                  obtain rfl : ad143 = ad144 := (by injection e144)
                  replace hx144_0 := (HB.out.cell (World.block_lt_of_cell? w _ hx144_0)).trans hx144_0
                  replace p144 := eq_true p144
                  replace q144 := eq_true q144
                  have p145 : 0 ≤ ((ji9) : Int) := of_decide_eq_true (by first | (with_reducible assumption) | assumption)
                  have q145 : (ji9) < (l0.length : Int) := of_decide_eq_true (by first | (with_reducible assumption) | assumption)
                  obtain ⟨ad145, e145, hx145_0⟩ := Kd.at_int HR0.out (ji9) p145 q145
                  obtain rfl : ad143 = ad145 := (by injection e145)
                  replace hx145_0 := (HB.out.cell (World.block_lt_of_cell? w _ hx145_0)).trans hx145_0
                  replace p145 := eq_true p145
                  replace q145 := eq_true q145
                  try go_wp2
                  have n0_ := Aside0.mk (Kd.S_drew HO_4.out)
                  have n1_ := Aside0.mk (below_drew1 HB.out)
                  clear HO_4
                  clear HB
                  have HO_4 := n0_
                  have HB := n1_
                  clear n0_ n1_
                  have p146 : 0 ≤ (x5_2 : Int) := of_decide_eq_true (by first | (with_reducible assumption) | assumption)
                  have q146 : x5_2 < (l0.length : Int) := of_decide_eq_true (by first | (with_reducible assumption) | assumption)
                  obtain ⟨ad146, e146, hx146_0⟩ := Kd.at_int HR0.out x5_2 p146 q146
                  have hw146_0 := hx146_0
                  obtain rfl : ad143 = ad146 := (by injection e146)
                  replace hx146_0 := (HB.out.cell (World.block_lt_of_cell? w _ hx146_0)).trans hx146_0
                  replace p146 := eq_true p146
                  replace q146 := eq_true q146
                  obtain ⟨i020, hi020, _, hsz20, _⟩ := info_parts info5
                  obtain ⟨A20, hcut20, hA20, hC20⟩ := print_mid_of (P := Try.prog) (Value.int .u8) 0 25 5 .i64 .i64 Try.underlying25 hi020 hsz20 (some ad143) c0 l0 (ji13) (wrap64 ((ji13) + (wrap64 (rd l0 (ji9))))) (of_decide_eq_true (by first | (with_reducible assumption) | assumption)) (by first | omega | exact of_decide_eq_true (by first | (with_reducible assumption) | assumption)) (of_decide_eq_true (by first | (with_reducible assumption) | assumption)) HC0.out
                  have HR150 := Aside0.mk (Kd.C_of_reads (h1 := fun _ => rfl) (hA20 _ (Kd.reads_of_C HR0.out)))
                  have HC150 := Aside0.mk hC20
                  clear hA20 hC20 hi020 hsz20
                  refine start_ (n := 20) (S := fun w' => w'.cell? (ad143.add (x5_2).toNat) = some (.int .u8 (rd l0 x5_2))) (ds := []) #[false, false, false, false, false, false, false, false, false, false, false, false, false, false, false, false, false, false, false, false] (by kernel_rfl) rfl rfl (((HB.out.cell (World.block_lt_of_cell? w _ hw146_0)).trans hw146_0)) (fun hHeld => ?_); refine with_tabW lessorref26_Decode.tab9 lessorref26_Decode.bits9 (fun HT_ HW_ => ?_)
                  generalize wr.drew = w19 at HO_4 HB HR150 hx146_0 hHeld ⊢
                  refine pure_ (i := 0) (N := some 51) (v := ?_) (a' := ?_) #[true, false, false, false, false, false, false, false, false, false, false, false, false, false, false, false, false, false, false, false] rfl rfl (any_of HT_.out (by kernel_rfl)) (fun _ _ _ h => h) (Or.inl ⟨by rfl, ?_⟩) ?_ ?_
                  rotate_left
                  ·intro w'
                   go_simp
                   with_reducible rfl
                  rotate_left
                  ·simp only [Act.put, List.setIfInBounds_toArray, List.set_cons_zero, List.set_cons_succ, i64_w, i32_w]
                   rfl
                  refine pure_ (i := 1) (N := some 52) (v := ?_) (a' := ?_) #[true, true, false, false, false, false, false, false, false, false, false, false, false, false, false, false, false, false, false, false] rfl rfl (any_of HT_.out (by kernel_rfl)) (fun _ _ _ h => h) (Or.inl ⟨by rfl, ?_⟩) ?_ ?_
                  rotate_left
                  ·intro w'
                   go_simp
                   with_reducible rfl
                  rotate_left
                  ·simp only [Act.put, List.setIfInBounds_toArray, List.set_cons_zero, List.set_cons_succ, i64_w, i32_w]
                   rfl
                  refine pure_ (i := 2) (N := some 53) (v := ?_) (a' := ?_) #[true, true, true, false, false, false, false, false, false, false, false, false, false, false, false, false, false, false, false, false] rfl rfl (any_of HT_.out (by kernel_rfl)) (fun _ _ _ h => h) (Or.inl ⟨by rfl, ?_⟩) ?_ ?_
                  rotate_left
                  ·intro w'
                   go_simp
                   with_reducible rfl
                  rotate_left
                  ·simp only [Act.put, List.setIfInBounds_toArray, List.set_cons_zero, List.set_cons_succ, i64_w, i32_w]
                   rfl
                  refine pure_ (i := 3) (N := some 54) (v := ?_) (a' := ?_) #[true, true, true, true, false, false, false, false, false, false, false, false, false, false, false, false, false, false, false, false] rfl rfl (any_of HT_.out (by kernel_rfl)) (fun _ _ _ h => h) (Or.inl ⟨by rfl, ?_⟩) ?_ ?_
                  rotate_left
                  ·intro w'
                   go_simp
                   with_reducible rfl
                  rotate_left
                  ·simp only [Act.put, List.setIfInBounds_toArray, List.set_cons_zero, List.set_cons_succ, i64_w, i32_w]
                   rfl
                  refine pure_ (i := 7) (N := some 58) (v := ?_) (a' := ?_) #[true, true, true, true, false, false, false, true, false, false, false, false, false, false, false, false, false, false, false, false] rfl rfl (any_of HT_.out (by kernel_rfl)) (fun _ _ _ h => h) (Or.inl ⟨by rfl, ?_⟩) ?_ ?_
                  rotate_left
                  ·intro w'
                   go_simp
                   with_reducible rfl
                  rotate_left
                  ·simp only [Act.put, List.setIfInBounds_toArray, List.set_cons_zero, List.set_cons_succ, i64_w, i32_w]
                   rfl
                  refine pure_ (i := 8) (N := some 59) (v := ?_) (a' := ?_) #[true, true, true, true, false, false, false, true, true, false, false, false, false, false, false, false, false, false, false, false] rfl rfl (any_of HT_.out (by kernel_rfl)) (fun _ _ _ h => h) (Or.inl ⟨by rfl, ?_⟩) ?_ ?_
                  rotate_left
                  ·intro w'
                   go_simp
                   with_reducible rfl
                  rotate_left
                  ·simp only [Act.put, List.setIfInBounds_toArray, List.set_cons_zero, List.set_cons_succ, i64_w, i32_w]
                   rfl
                  refine pure_ (i := 9) (N := some 60) (v := ?_) (a' := ?_) #[true, true, true, true, false, false, false, true, true, true, false, false, false, false, false, false, false, false, false, false] rfl rfl (any_of HT_.out (by kernel_rfl)) (fun _ _ _ h => h) (Or.inl ⟨by rfl, ?_⟩) ?_ ?_
                  rotate_left
                  ·intro w'
                   go_simp
                   with_reducible rfl
                  rotate_left
                  ·simp only [Act.put, List.setIfInBounds_toArray, List.set_cons_zero, List.set_cons_succ, i64_w, i32_w]
                   rfl
                  refine pure_ (i := 10) (N := some 61) (v := ?_) (a' := ?_) #[true, true, true, true, false, false, false, true, true, true, true, false, false, false, false, false, false, false, false, false] rfl rfl (any_of HT_.out (by kernel_rfl)) (fun _ _ _ h => h) (Or.inl ⟨by rfl, ?_⟩) ?_ ?_
                  rotate_left
                  ·intro w'
                   go_simp
                   with_reducible rfl
                  rotate_left
                  ·simp only [Act.put, List.setIfInBounds_toArray, List.set_cons_zero, List.set_cons_succ, i64_w, i32_w]
                   rfl
                  refine pure_ (i := 11) (N := some 62) (v := ?_) (a' := ?_) #[true, true, true, true, false, false, false, true, true, true, true, true, false, false, false, false, false, false, false, false] rfl rfl (any_of HT_.out (by kernel_rfl)) (fun _ _ _ h => h) (Or.inl ⟨by rfl, ?_⟩) ?_ ?_
                  rotate_left
                  ·intro w'
                   go_simp
                   with_reducible rfl
                  rotate_left
                  ·simp only [Act.put, List.setIfInBounds_toArray, List.set_cons_zero, List.set_cons_succ, i64_w, i32_w]
                   rfl
                  refine pure_ (i := 12) (N := some 63) (v := ?_) (a' := ?_) #[true, true, true, true, false, false, false, true, true, true, true, true, true, false, false, false, false, false, false, false] rfl rfl (any_of HT_.out (by kernel_rfl)) (fun _ _ _ h => h) (Or.inl ⟨by rfl, ?_⟩) ?_ ?_
                  rotate_left
                  ·intro w'
                   go_simp
                   with_reducible rfl
                  rotate_left
                  ·simp only [Act.put, List.setIfInBounds_toArray, List.set_cons_zero, List.set_cons_succ, i64_w, i32_w]
                   rfl
                  refine pure_ (i := 13) (N := some 64) (v := ?_) (a' := ?_) #[true, true, true, true, false, false, false, true, true, true, true, true, true, true, false, false, false, false, false, false] rfl rfl (any_of HT_.out (by kernel_rfl)) (fun _ _ _ h => h) (Or.inl ⟨by rfl, ?_⟩) ?_ ?_
                  rotate_left
                  ·intro w'
                   go_simp
                   with_reducible rfl
                  rotate_left
                  ·simp only [Act.put, List.setIfInBounds_toArray, List.set_cons_zero, List.set_cons_succ, i64_w, i32_w]
                   rfl
                  refine pure_ (i := 14) (N := some 65) (v := ?_) (a' := ?_) #[true, true, true, true, false, false, false, true, true, true, true, true, true, true, true, false, false, false, false, false] rfl rfl (any_of HT_.out (by kernel_rfl)) (fun _ _ _ h => h) (Or.inl ⟨by rfl, ?_⟩) ?_ ?_
                  rotate_left
                  ·intro w'
                   go_simp
                   with_reducible rfl
                  rotate_left
                  ·simp only [Act.put, List.setIfInBounds_toArray, List.set_cons_zero, List.set_cons_succ, i64_w, i32_w]
                   rfl
                  refine take_ (i := 4) (N := some 55) (v := ?_) (a' := ?_) #[true, true, true, true, true, false, false, true, true, true, true, true, true, true, true, false, false, false, false, false] rfl rfl (take_ofW HT_.out HW_.out (by kernel_rfl)) (fun _ _ _ h => h) (Or.inl ⟨by rfl, ?_⟩) hHeld ?_ ?_
                  rotate_left
                  ·intro w' s0
                   go_simp
                   with_reducible rfl
                  rotate_left
                  ·simp only [Act.put, List.setIfInBounds_toArray, List.set_cons_zero, List.set_cons_succ, i64_w, i32_w]
                   rfl
                  refine pure_ (i := 5) (N := some 56) (v := ?_) (a' := ?_) #[true, true, true, true, true, true, false, true, true, true, true, true, true, true, true, false, false, false, false, false] rfl rfl (any_of HT_.out (by kernel_rfl)) (fun _ _ _ h => h) (Or.inl ⟨by rfl, ?_⟩) ?_ ?_
                  rotate_left
                  ·intro w'
                   go_simp
                   with_reducible rfl
                  rotate_left
                  ·simp only [Act.put, List.setIfInBounds_toArray, List.set_cons_zero, List.set_cons_succ, i64_w, i32_w]
                   rfl
                  refine one_ (i := 6) (N := some 57) #[true, true, true, true, true, true, true, true, true, true, true, true, true, true, true, false, false, false, false, false] rfl rfl (one_of HT_.out (by kernel_rfl)) (by decide) (fun K hK => ?_)
                  refine Kd.R_lit_step (Kd.int .u8) _ 5 ?hg_1 (N := 57) ?hd_1 (xs := ([] : List Int)) (inner := []) (ok := fun _ => True) (okp := fun _ => True) ?hr_1 ?hp_1 (fun _ hk => hk) trivial (Below.refl _ _) (Nat.le_refl _) (by simp) ?_; (case hd_1 => rfl); (case hg_1 => rfl); (case hr_1 => first | (go_simp; done) | (go_simp; rfl)); (case hp_1 => exact (Reps.none _ _))
                  intro v148 w21 ho22 hb hg_ hnew_
                  clear hg_ hnew_
                  (first | rw [← Ny147.out] at ho22 | (simp only [Int.reduceToNat] at ho22; rw [← Ny147.out] at ho22))
                  have n0_ := Aside0.mk (Kd.S_elder' (by (with_reducible repeat (first | apply Kd.S_alloc | apply Kd.S_drewN | apply Kd.S_drew)); exact HO_4.out) (Kd.R_base ho22) hb)
                  have n1_ := Aside0.mk (Kd.R_lower ho22 (below_size (by repeat (first | (with_reducible first | exact HB.out | apply below_alloc | apply pw_below_drewN | apply below_drew1) | exact HB.out))))
                  have n2_ := Aside0.mk (below_step (by repeat (first | (with_reducible first | exact HB.out | apply below_alloc | apply pw_below_drewN | apply below_drew1) | exact HB.out)) hb)
                  clear HO_4
                  clear HB
                  have HO_4 := n0_
                  have HO149 := n1_
                  have HB := n2_
                  clear n0_ n1_ n2_
                  clear hb ho22
                  refine hK.out _ _ (((HB.out.cell (World.block_lt_of_cell? w _ hw146_0)).trans hw146_0)) (fun hHeld => ?_)
                  clear hK K
                  refine norm_ (a' := ?_) ?_ ?_
                  rotate_left
                  ·show Act.put _ (some 57) _ = _
                   simp only [Act.put, List.setIfInBounds_toArray, List.set_cons_zero, List.set_cons_succ, i64_w, i32_w]
                   rfl
                  refine one_ (i := 15) (N := some 66) #[true, true, true, true, true, true, true, true, true, true, true, true, true, true, true, true, false, false, false, false] rfl rfl (one_of HT_.out (by kernel_rfl)) (by decide) (fun K hK => ?_)
                  refine Kd.R_append_rows_step (Kd.int .u8) (w0 := w) w.heap.size (by rfl) (.tmp 57) (.tmp 65) 25 5 (.int .u8 0) 1 rfl Try.underlying25 info5 rfl (by decide) (by omega) v148 y147 ((l0.take ((wrap64 ((ji13) + (wrap64 (rd l0 (ji9))))) : Int).toNat).drop ((ji13) : Int).toNat) _ _ _ (fun _ => True) (fun _ => False) rfl rfl ?aO_2 ?aR_2 (fun _ _ h => h) (fun _ h => h.elim) ?aF_2 ?aB_2 ?aS_2 ?aL_2 ?_
                  (case aR_2 => first | (rw [← show ((l0.take ((wrap64 ((ji13) + (wrap64 (rd l0 (ji9))))) : Int).toNat).drop ((ji13) : Int).toNat).length = ((wrap64 ((ji13) + (wrap64 (rd l0 (ji9))))).toNat - (ji13).toNat) from (by rw [List.length_drop, List.length_take]; have h_ : ((wrap64 ((ji13) + (wrap64 (rd l0 (ji9))))) : Int) ≤ (l0.length : Int) := of_decide_eq_true (by first | (with_reducible assumption) | assumption); omega)]; repeat (first | exact (Kd.C_below HR150.out HB.out) | exact (Kd.C_below (Aside0.out (by assumption)) HB.out) | (with_reducible refine Kd.C_alloc ?_ _) | (with_reducible refine Kd.C_drewN ?_ _) | (with_reducible refine Kd.C_drew ?_))) | (repeat (first | exact (Kd.C_below HR150.out HB.out) | exact (Kd.C_below (Aside0.out (by assumption)) HB.out) | (with_reducible refine Kd.C_alloc ?_ _) | (with_reducible refine Kd.C_drewN ?_ _) | (with_reducible refine Kd.C_drew ?_))))
                  (case aB_2 => exact (by repeat (first | (with_reducible first | exact HB.out | apply below_alloc | apply pw_below_drewN | apply below_drew1) | exact HB.out)))
                  (case aF_2 => exact (fun _ _ => trivial))
                  (case aO_2 => exact (by (with_reducible repeat (first | apply Kd.R_alloc | apply Kd.R_drewN | apply Kd.R_drew)); exact HO149.out))
                  (case aS_2 => exact (below_size (by repeat (first | (with_reducible first | exact HB.out | apply below_alloc | apply pw_below_drewN | apply below_drew1) | exact HB.out))))
                  (case aL_2 => have := LMc17.out; have hlx_ := (show ((l0.take ((wrap64 ((ji13) + (wrap64 (rd l0 (ji9))))) : Int).toNat).drop ((ji13) : Int).toNat).length = ((wrap64 ((ji13) + (wrap64 (rd l0 (ji9))))).toNat - (ji13).toNat) from (by rw [List.length_drop, List.length_take]; have h_ : ((wrap64 ((ji13) + (wrap64 (rd l0 (ji9))))) : Int) ≤ (l0.length : Int) := of_decide_eq_true (by first | (with_reducible assumption) | assumption); omega)); omega)
                  intro v152 w23 ho hb hg hat
                  rw [← Ny151.out] at ho
                  have n0_ := Aside0.mk (Kd.S_after (ok := (fun _ => True)) (by (with_reducible repeat (first | apply Kd.S_alloc | apply Kd.S_drewN | apply Kd.S_drew)); exact HO_4.out) hg hat)
                  have n1_ := Aside0.mk (hb)
                  have n2_ := Aside0.mk (ho)
                  clear HO_4
                  clear HB
                  clear HO149
                  have HO_4 := n0_
                  have HB := n1_
                  have HO153 := n2_
                  clear n0_ n1_ n2_
                  clear ho hb hg hat
                  obtain ⟨Ao24, co24, eo24⟩ := Kd.R_slice HO153.out
                  (first | subst eo24 | (injection eo24 with f1_ f2_ f3_; have f4_ := f1_.symm; have f5_ := f3_.symm; clear f1_ f2_ f3_; subst f4_; subst f5_))
                  refine hK.out _ _ (((HB.out.cell (World.block_lt_of_cell? w _ hw146_0)).trans hw146_0)) (fun hHeld => ?_)
                  clear hK K
                  refine norm_ (a' := ?_) ?_ ?_
                  rotate_left
                  ·show Act.put _ (some 66) _ = _
                   simp only [Act.put, List.setIfInBounds_toArray, List.set_cons_zero, List.set_cons_succ, i64_w, i32_w]
                   rfl
                  refine pure_ (i := 16) (N := some 67) (v := ?_) (a' := ?_) #[true, true, true, true, true, true, true, true, true, true, true, true, true, true, true, true, true, false, false, false] rfl rfl (any_of HT_.out (by kernel_rfl)) (fun _ _ _ h => h) (Or.inl ⟨by rfl, ?_⟩) ?_ ?_
                  rotate_left
                  ·intro w'
                   go_simp
                   with_reducible rfl
                  rotate_left
                  ·simp only [Act.put, List.setIfInBounds_toArray, List.set_cons_zero, List.set_cons_succ, i64_w, i32_w]
                   rfl
                  refine one_ (i := 17) (N := some 68) #[true, true, true, true, true, true, true, true, true, true, true, true, true, true, true, true, true, true, false, false] rfl rfl (one_of HT_.out (by kernel_rfl)) (by decide) (fun K hK => ?_)
                  refine value_ (w1 := ?_) (v := ?_) (by rfl) rfl ?_ ?_
                  rotate_left 2
                  ·go_simp
                   constructor
                   ·rfl
                   ·rfl
                  refine hK.out _ _ ((World.cell?_alloc_lt _ _ _ (World.block_lt_of_cell? _ _ (((HB.out.cell (World.block_lt_of_cell? w _ hw146_0)).trans hw146_0)))).trans (((HB.out.cell (World.block_lt_of_cell? w _ hw146_0)).trans hw146_0))) (fun hHeld => ?_)
                  clear hK K
                  refine norm_ (a' := ?_) ?_ ?_
                  rotate_left
                  ·show Act.put _ (some 68) _ = _
                   simp only [Act.put, List.setIfInBounds_toArray, List.set_cons_zero, List.set_cons_succ, i64_w, i32_w]
                   rfl
                  refine one_ (i := 18) (N := some 69) #[true, true, true, true, true, true, true, true, true, true, true, true, true, true, true, true, true, true, true, false] rfl rfl (one_of HT_.out (by kernel_rfl)) (by decide) (fun K hK => ?_)
                  refine Kd.S_append_step k48 (w0 := w) w.heap.size (by rfl) (.tmp 51) (.tmp 68) 26 48 (.agg #[(.int .i64 0), (.slice none 0 0)]) 32 rfl Try.underlying26 info48 rfl (by decide) (by omega) u4 x4_2 (⟨wrap64 (rd l0 x5_2), y151⟩ : S48) [.int .i64 (wrap64 (rd l0 x5_2)), .slice Ao24 y151.length co24] (fun _ => True) (fun k_ => some k_ = (.slice Ao24 y151.length co24 : Value).ownBlock) rfl rfl ?aP_3 (fun k_ hk_ => ((Kd.R_mono (ok' := fun k_ => ((fun _ => True)) k_ ∧ some k_ ≠ (u4 : Value).ownBlock) (Kd.R_apart' (HO153.out) (Kd.S_typed HO_4.out) (by decide)) (fun k_ hk => ⟨trivial, hk.2⟩))).1 k_ hk_.symm) ?aF_3 ?aO_3 ?aB_3 ?aS_3 ?aL_3 ?_
                  (case aP_3 => exact k48_mkM _ _ _ (⟨wrap64 (rd l0 x5_2), y151⟩ : S48) (Kd.R_mono (Kd.R_tight rfl (Kd.R_mono (ok' := fun k_ => ((fun _ => True)) k_ ∧ some k_ ≠ (u4 : Value).ownBlock) (Kd.R_apart' (HO153.out) (Kd.S_typed HO_4.out) (by decide)) (fun k_ hk => ⟨trivial, hk.2⟩))) (fun _ h_ => h_)))
                  (case aB_3 => exact (by repeat (first | (with_reducible first | exact HB.out | apply below_alloc | apply pw_below_drewN | apply below_drew1) | exact HB.out)))
                  (case aF_3 => exact (fun _ _ => trivial))
                  (case aO_3 => exact (by (with_reducible repeat (first | apply Kd.S_alloc | apply Kd.S_drewN | apply Kd.S_drew)); exact Kd.S_mono HO_4.out (fun k_ hk => ⟨trivial, fun e_ => hk.2 e_⟩)))
                  (case aS_3 => exact (below_size (by repeat (first | (with_reducible first | exact HB.out | apply below_alloc | apply pw_below_drewN | apply below_drew1) | exact HB.out))))
                  (case aL_3 => have := LMc18.out; omega)
                  intro v155 w25 ho hb hg hat
                  rw [← Ny154.out] at ho
                  have n0_ := Aside0.mk (hb)
                  have n1_ := Aside0.mk (ho)
                  clear HB
                  clear HO_4
                  clear HO153
                  have HB := n0_
                  have HO156 := n1_
                  clear n0_ n1_
                  clear ho hb hg hat
                  refine hK.out _ _ (((HB.out.cell (World.block_lt_of_cell? w _ hw146_0)).trans hw146_0)) (fun hHeld => ?_)
                  clear hK K
                  refine norm_ (a' := ?_) ?_ ?_
                  rotate_left
                  ·show Act.put _ (some 69) _ = _
                   simp only [Act.put, List.setIfInBounds_toArray, List.set_cons_zero, List.set_cons_succ, i64_w, i32_w]
                   rfl
                  refine pure_ (i := 19) (N := some 4) (v := ?_) (a' := ?_) #[true, true, true, true, true, true, true, true, true, true, true, true, true, true, true, true, true, true, true, true] rfl rfl (any_of HT_.out (by kernel_rfl)) (fun _ _ _ h => h) (Or.inl ⟨by rfl, ?_⟩) ?_ ?_
                  rotate_left
                  ·intro w'
                   go_simp
                   with_reducible rfl
                  rotate_left
                  ·simp only [Act.put, List.setIfInBounds_toArray, List.set_cons_zero, List.set_cons_succ, i64_w, i32_w]
                   rfl
                  refine done_ (done_of HT_.out (by kernel_rfl)) ?_
                  try go_wp2
                  go_roundg k2
                  case measure => have := HJ1.out; have := HK2.out; omega
                  case rel => exact ⟨(y154), (wrap64 ((ji13) + (wrap64 (rd l0 (ji9))))), (by first | rfl | (simp; done) | (simp only [← hji9, ← hji13] <;> (first | rfl | simp)) | (simp [*]; done)), H', ⟨by have := HJ1.out; have := HK2.out; omega⟩, ⟨by (with_reducible repeat (first | apply Kd.S_alloc | apply Kd.S_drewN | apply Kd.S_drew)); exact HO156.out⟩, ⟨by repeat (first | (with_reducible first | exact HB.out | apply below_alloc | apply pw_below_drewN | apply below_drew1) | exact HB.out)⟩⟩
                 ·rw [if_neg c18] at H
                  exact absurd H (by simp)
                ·rw [if_neg c17] at H
                 exact absurd H (by simp)
               ·rw [if_neg c16] at H
                exact absurd H (by simp)
              ·rw [if_neg c15] at H
               exact absurd H (by simp)
             ·rw [if_neg c14] at H
              exact absurd H (by simp)
           ·rw [if_neg c11] at H
            exact absurd H (by simp)
          ·rw [if_neg c10] at H
           exact absurd H (by simp)
       ·rw [if_neg c6] at H
        exact absurd H (by simp)
      ·rw [if_neg c5] at H
       have c5b0 : decide (x5_2 < (l0.length : Int)) = false := decide_eq_false c5
       clear c5
       simp only [Option.some.injEq, Prod.mk.injEq] at H
       obtain ⟨rfl, rfl⟩ := H
       go_wp2
       go_ret2
       exact ⟨_, by first | rfl | (simp [errW_none, errW_some] <;> rfl) | (simp [*, errW_none, errW_some] <;> rfl), by (with_reducible repeat (first | apply Kd.S_alloc | apply Kd.S_drewN | apply Kd.S_drew)); exact HO_4.out, by repeat (first | (with_reducible first | exact HB.out | apply below_alloc | apply pw_below_drewN | apply below_drew1) | exact HB.out)⟩

end Go.Proofs.Ytnkajghemggaaaa.Pr
end

section
namespace Go.Proofs.Ytnkajghemggaaaa.PL
open Go.RowKit Go.Proofs.Ytnkajghemggaaaa Go.Proofs.Ytnkajghemggaaaa.Pr Go.Proofs.YtnkajghemggaaaaW.PrintWords Go.Proofs.YtnkajghemggaaaaW.PrintLast Go.Proofs.YtnkajghemggaaaaW.PrintMore
set_option linter.unusedVariables false
set_option linter.unusedSimpArgs false

/-! ### the reference's -/
theorem ref_encode1 (l : List Opt) (hf : fewR l) : ∀ (d i k : Nat), l.length ≤ i + d → i ≤ l.length → d < k → ((enc (l.take i)).length ≤ 255) →
    lessorref26_Encode.l1 k l (enc (l.take i)) (i : Int) = some (if 255 < (enc l).length then ([], 3) else (enc l, 0)) := by
  obtain ⟨hn, hx⟩ := hf
  intro d
  induction d with
  | zero =>
    intro i k h1 h2 hk hs
    obtain ⟨k, rfl⟩ : ∃ m, k = m + 1 := ⟨k - 1, by omega⟩
    rw [List.take_of_length_le (by omega)] at hs ⊢
    simp only [lessorref26_Encode.l1]
    rw [if_neg (by omega), if_neg (by omega)]
  | succ d ih =>
    intro i k h1 h2 hk hs
    obtain ⟨k, rfl⟩ : ∃ m, k = m + 1 := ⟨k - 1, by omega⟩
    by_cases h : i < l.length
    · simp only [lessorref26_Encode.l1]
      have ht1 := enc_take_le l (i + 1)
      have hx1 := hx l[i] (List.getElem_mem h)
      rw [if_pos (by omega), if_pos (by omega), rd_at l h]
      simp only [Option.bind_some]
      rw [if_pos (by simp; omega), if_pos (by simp; omega)]
      have e : enc (l.take i) ++ [l[i].f0 % 256, (l[i].f1.length : Int) % 256] ++ l[i].f1 = enc (l.take (i + 1)) := by
        rw [List.take_succ_eq_append_getElem h, enc_append, enc_one, enc1, List.append_assoc]
      rw [e]
      by_cases c : 255 < (enc (l.take (i + 1))).length
      · rw [if_pos (by omega), if_pos (by omega)]
      · rw [if_neg (by omega), wrapO (by omega) (by omega)]
        exact ih (i + 1) k (by omega) (by omega) (by omega) (by omega)
    · obtain rfl : i = l.length := by omega
      rw [List.take_of_length_le (by omega)] at hs ⊢
      simp only [lessorref26_Encode.l1]
      rw [if_neg (by omega), if_neg (by omega)]
theorem ref_encode0 (l : List Opt) (hf : fewR l) (he : l ≠ []) : ∀ (d i k : Nat), l.length ≤ i + d → i ≤ l.length → d + 1001 < k → (∀ x ∈ l.take i, okOpt x) →
    lessorref26_Encode.l0 k l (i : Int) = some (encR l) := by
  have hn := hf.1
  have fin : ∀ k, 1001 < k → (∀ x ∈ l, okOpt x) → lessorref26_Encode.l0 k l (l.length : Int) = some (encR l) := by
    intro k hk ok
    obtain ⟨k, rfl⟩ : ∃ m, k = m + 1 := ⟨k - 1, by omega⟩
    simp only [lessorref26_Encode.l0]
    rw [if_neg (by omega)]
    unfold encR
    rw [if_pos ⟨he, ok⟩]
    exact ref_encode1 l hf l.length 0 k (by omega) (by omega) (by omega) (by simp [enc])
  intro d
  induction d with
  | zero =>
    intro i k h1 h2 hk ho
    obtain rfl : i = l.length := by omega
    rw [List.take_length] at ho
    exact fin k (by omega) ho
  | succ d ih =>
    intro i k h1 h2 hk ho
    by_cases h : i < l.length
    · obtain ⟨k, rfl⟩ : ∃ m, k = m + 1 := ⟨k - 1, by omega⟩
      simp only [lessorref26_Encode.l0]
      rw [if_pos (by omega), if_pos (by omega), rd_at l h]
      have bad : ¬ okOpt l[i] → encR l = ([], 1) := fun hb => by unfold encR; rw [if_neg (fun h' => hb (h'.2 _ (List.getElem_mem h)))]
      by_cases c1 : l[i].f0 < 1
      · rw [if_pos c1, bad (by unfold okOpt; omega)]
      · rw [if_neg c1]
        by_cases c2 : l[i].f0 > 255
        · rw [if_pos c2, bad (by unfold okOpt; omega)]
        · rw [if_neg c2]
          by_cases c3 : (l[i].f1.length : Int) > 253
          · rw [if_pos c3, bad (by unfold okOpt; omega)]
          · rw [if_neg c3, wrapO (by omega) (by omega)]
            refine ih (i + 1) k (by omega) (by omega) (by omega) ?_
            rw [List.take_succ_eq_append_getElem h]
            intro x hx
            rcases List.mem_append.1 hx with hx | hx
            · exact ho x hx
            · rw [List.mem_singleton.1 hx]; exact ⟨by omega, by omega, by omega⟩
    · obtain rfl : i = l.length := by omega
      rw [List.take_length] at ho
      exact fin k (by omega) ho
theorem ref_encode_eq (l : List Opt) (hf : fewR l) (k : Nat) (hk : 2010 ≤ k) : lessorref26_Encode.f k l = some (encR l) := by
  have hn := hf.1
  unfold lessorref26_Encode.f
  by_cases e : l = []
  · subst e; simp [encR]
  · have hl : l.length ≠ 0 := fun h => e (List.eq_nil_of_length_eq_zero h)
    rw [if_neg (by omega)]
    exact ref_encode0 l hf e l.length 0 k (by omega) (by omega) (by omega) (by simp)

theorem ref_decode_loop (l : List Int) (hb : ∀ x ∈ l, 0 ≤ x ∧ x ≤ 255) (hl : l.length ≤ 255) : ∀ (d i k : Nat) (acc : List Opt), l.length ≤ i + d → i ≤ l.length → d < k → acc.length ≤ i →
    lessorref26_Decode.l0 k l acc (i : Int) = some (match rdL (l.drop i) acc with | some r => (r, 0) | none => ([], 2)) := by
  have fin : ∀ k acc, lessorref26_Decode.l0 (k + 1) l acc (l.length : Int) = some (match rdL (l.drop l.length) acc with | some r => (r, 0) | none => ([], 2)) := by
    intro k acc
    simp only [lessorref26_Decode.l0]
    rw [if_neg (by omega), List.drop_length, rdL]
  intro d
  induction d with
  | zero =>
    intro i k acc h1 h2 hk ha
    obtain ⟨k, rfl⟩ : ∃ m, k = m + 1 := ⟨k - 1, by omega⟩
    obtain rfl : i = l.length := by omega
    exact fin k acc
  | succ d ih =>
    intro i k acc h1 h2 hk ha
    obtain ⟨k, rfl⟩ : ∃ m, k = m + 1 := ⟨k - 1, by omega⟩
    by_cases h : i < l.length
    · simp only [lessorref26_Decode.l0]
      rw [if_pos (by omega), if_pos (by omega), rd_of h, List.drop_eq_getElem_cons h, wrapO (x := (i : Int) + 1) (by omega) (by omega)]
      have hx := hb l[i] (List.getElem_mem h)
      by_cases h3 : i + 1 < l.length
      · rw [List.drop_eq_getElem_cons h3]
        have hm := hb l[i + 1] (List.getElem_mem h3)
        have e3 : rd l ((i : Int) + 1) = l[i + 1] := rd_of h3
        by_cases c1 : l[i] = 0
        · rw [if_pos c1, rd_stop (fun hh => hh.2 c1)]
        · rw [if_neg c1, if_neg (by omega), if_pos (by omega), if_pos (by omega), e3, wrapO (x := (i : Int) + 2) (by omega) (by omega), wrapO (x := l[i + 1]) (by omega) (by omega), wrapO (x := l[i]) (by omega) (by omega)]
          obtain ⟨m, em⟩ : ∃ m : Nat, l[i + 1] = m := Int.eq_ofNat_of_zero_le hm.1
          rw [em] at hm ⊢
          rw [wrapO (x := (i : Int) + 2 + m) (by omega) (by omega)]
          by_cases c2 : i + 2 + m ≤ l.length
          · rw [if_neg (by omega), rd_step (by rw [List.length_drop, Int.toNat_natCast]; omega) c1]
            simp only [Option.bind_some]
            rw [if_pos (by omega), if_pos (by omega), if_pos (by omega), if_pos (by simp; omega), if_pos (by omega)]
            have e4 : ([] : List Int) ++ (l.take ((i : Int) + 2 + m).toNat).drop ((i : Int) + 2).toNat = (l.drop (i + 1 + 1)).take (m : Int).toNat := by
              rw [show ((i : Int) + 2 + m).toNat = (i + 1 + 1) + m from by omega, show ((i : Int) + 2).toNat = i + 1 + 1 from by omega, Int.toNat_natCast, List.nil_append, List.drop_take]
              congr 1
              omega
            rw [e4]
            have := ih (i + 2 + m) k (acc ++ [⟨l[i], (l.drop (i + 1 + 1)).take (m : Int).toNat⟩]) (by omega) (by omega) (by omega) (by simp; omega)
            rw [List.drop_drop, Int.toNat_natCast, show i + 1 + 1 + m = i + 2 + m from by omega]
            rw [Int.toNat_natCast] at this
            exact this
          · rw [if_pos (by omega), rd_stop (by rw [List.length_drop, Int.toNat_natCast]; omega)]
      · have hli : l.length = i + 1 := by omega
        have hz : l.drop (i + 1) = [] := List.drop_of_length_le (by omega)
        rw [hz, rd_lone]
        by_cases c1 : l[i] = 0
        · rw [if_pos c1]
        · rw [if_neg c1, if_pos (by omega)]
    · obtain rfl : i = l.length := by omega
      exact fin k acc
theorem ref_decode_eq (l : List Int) (hb : ∀ x ∈ l, 0 ≤ x ∧ x ≤ 255) (k : Nat) (hk : 300 ≤ k) : lessorref26_Decode.f k l = some (decR l) := by
  obtain ⟨k, rfl⟩ : ∃ m, k = m + 1 := ⟨k - 1, by omega⟩
  unfold lessorref26_Decode.f decR
  by_cases e : l = []
  · subst e
    simp [lessorref26_Decode.j0, rdL]
  · have hl : l.length ≠ 0 := fun h => e (List.eq_nil_of_length_eq_zero h)
    rw [if_neg (by omega)]
    simp only [lessorref26_Decode.j0]
    by_cases c : l.length ≤ 255
    · rw [decide_eq_false (by omega), if_neg (by decide)]
      have := ref_decode_loop l hb c l.length 0 k [] (by omega) (by omega) (by omega) (by simp)
      rw [List.drop_zero] at this
      rw [show ((0 : Nat) : Int) = 0 from rfl] at this
      rw [this]
      simp [e, c]
      all_goals (cases rdL l [] <;> rfl)
    · rw [decide_eq_true (by omega), if_pos rfl]
      cases rdL l [] with
      | none => rfl
      | some r => simp [c]

end Go.Proofs.Ytnkajghemggaaaa.PL
end

section
namespace Go.Proofs.Ytnkajghemggaaaa
open Go.RowKit Go.Proofs.Ytnkajghemggaaaa.Pr Go.Proofs.YtnkajghemggaaaaW.PrintWords Go.Proofs.YtnkajghemggaaaaW.PrintLast Go.Proofs.YtnkajghemggaaaaW.PrintMore
attribute [local go_sem] max2_int min2_int max_two min_two max_three min_three max_four min_four
set_option linter.unusedVariables false
set_option linter.unusedSimpArgs false

/-- The door of the reference's Add. -/
theorem radd_ret {R : Ending → World → Prop} {tmps : Array Value} {W : World} {br : Nat} {a0 a1 a2 a3 a4 a5 a6 a7 z : Int} {A8 A9 : Option Addr} {n8 c8 n9 c9 : Nat} (h6 : tmps[6]? = some (.pointer (some ⟨br, 0, none⟩))) (h7 : tmps[7]? = some (.int .i64 z))
    (h : W.heap[br]? = some (.cells #[.int .i64 a0, .int .u32 a1, .int .i64 a2, .int .i64 a3, .int .u32 a4, .int .u32 a5, .int .u32 a6, .int .u32 a7, .slice A8 n8 c8, .slice A9 n9 c9] 28 (0, 0)))
    (hR : R (.returned (.tuple #[.agg #[.int .i64 a0, .int .u32 a1, .int .i64 a2, .int .i64 a3, .int .u32 a4, .int .u32 a5, .int .u32 a6, .int .u32 a7, .slice A8 n8 c8, .slice A9 n9 c9], .int .i64 z])) W) :
    bodyPost Try.prog Try.f19 R .ret { tmps := tmps, defers := [] } W := by
  have y0 := (blk_cell h 0).trans rfl
  have y1 := (blk_cell h 1).trans rfl
  have y2 := (blk_cell h 2).trans rfl
  have y3 := (blk_cell h 3).trans rfl
  have y4 := (blk_cell h 4).trans rfl
  have y5 := (blk_cell h 5).trans rfl
  have y6 := (blk_cell h 6).trans rfl
  have y7 := (blk_cell h 7).trans rfl
  have y8 := (blk_cell h 8).trans rfl
  have y9 := (blk_cell h 9).trans rfl
  refine bodyPost_ret (v := .tuple #[.agg #[.int .i64 a0, .int .u32 a1, .int .i64 a2, .int .i64 a3, .int .u32 a4, .int .u32 a5, .int .u32 a6, .int .u32 a7, .slice A8 n8 c8, .slice A9 n9 c9], .int .i64 z]) ?_ rfl hR
  simp [results, Try.results19, go_sem, h6, h7, y0, y1, y2, y3, y4, y5, y6, y7, y8, y9]
def lessorref26_Add.f (a0 a1 a2 a3 a4 a5 a6 a7 : Int) (l8 : List Int) (l9 : List OptF) (by_ : Int) (l : List OptF) : Option PkT := if fewP l8 l9 ∧ PL.few l then some (addR a0 a1 a2 a3 a4 a5 a6 a7 l8 l9 by_ l) else none
theorem opPut_no {l : List OptF} {b : List Int} (h : (opFind l 82).2 = false) : opPut l 82 b = l ++ [⟨82, b⟩] := by
  unfold opPut
  rw [if_neg]
  intro h0
  obtain ⟨k, hk, _, e⟩ := find_ix h0
  rw [e] at h
  cases h
set_option maxHeartbeats 8000000 in
set_option maxRecDepth 100000 in
theorem lessorref26_Add.calls (a0_0 a0_1 a0_2 a0_3 a0_4 a0_5 a0_6 a0_7 : Int) (P0_8_ : Nat → Prop) (A0_8 : Option Addr) (c0_8 : Nat) (l0_8 : List Int) (P0_9_ : Nat → Prop) (A0_9 : Option Addr) (c0_9 : Nat) (l0_9 : List OptF) (a1 : Int) (A2 : Option Addr) (cc2 : Nat) (l2 : List OptF) (r1 r2 r3 r4 r5 r6 r7 r8 : Int) (r9 : List Int) (r10 : List OptF) (r11 : Int) (w : World)
    (hs0_8 : Kd.V (Kd.int .u8) 5 w w.heap.size (fun k_ => P0_8_ k_) (.slice A0_8 l0_8.length c0_8) l0_8) (hs0_9 : Kd.V k48 48 w w.heap.size (fun k_ => P0_9_ k_) (.slice A0_9 l0_9.length c0_9) l0_9) (hr2 : Kd.C k48 w A2 l2.length l2) (hc2 : l2.length ≤ cc2)
    (h : lessorref26_Add.f a0_0 a0_1 a0_2 a0_3 a0_4 a0_5 a0_6 a0_7 l0_8 l0_9 a1 l2 = some (r1, r2, r3, r4, r5, r6, r7, r8, r9, r10, r11)) :
    Calls Try.prog 19 #[.agg #[.int .i64 a0_0, .int .u32 a0_1, .int .i64 a0_2, .int .i64 a0_3, .int .u32 a0_4, .int .u32 a0_5, .int .u32 a0_6, .int .u32 a0_7, .slice A0_8 l0_8.length c0_8, .slice A0_9 l0_9.length c0_9], .int .u32 a1, .slice A2 l2.length cc2] w fun e w' =>
      ∃ v8_ v9_ : Value, e = .returned (.tuple #[.agg #[.int .i64 r1, .int .u32 r2, .int .i64 r3, .int .i64 r4, .int .u32 r5, .int .u32 r6, .int .u32 r7, .int .u32 r8, v8_, v9_], .int .i64 r11]) ∧ Kd.V (Kd.int .u8) 5 w' w.heap.size (fun k_ => ((P0_8_ k_ ∨ P0_9_ k_) ∨ w.heap.size ≤ k_) ∧ some k_ ≠ v9_.ownBlock) v8_ r9 ∧
        Kd.N k48 48 w' w.heap.size (fun k_ => ((P0_8_ k_ ∨ P0_9_ k_) ∨ w.heap.size ≤ k_)) v9_ r10 ∧ Below w.heap.size w w' := by
  unfold lessorref26_Add.f at h
  split at h
  case isFalse => cases h
  rename_i hcond
  obtain ⟨hfp, hfl⟩ := hcond
  have h := Option.some.inj h
  obtain ⟨_, hc9, hC9⟩ := Kd.V_reads' hs0_9
  obtain ⟨_, hc8, hC8⟩ := Kd.V_reads' hs0_8
  have hF8 := Kd.F_bound (Kd.V_F hs0_8)
  have hF9 := Kd.F_bound (Kd.V_F hs0_9)
  have hl9 : l0_9.length ≤ 1000000 := by have := hfp.2.1; omega
  have bad : ∀ (z : Int) {e : Ending} {w' : World}, e = .returned (.tuple #[.agg pkNil, .int .i64 z]) ∧ Below w.heap.size w w' → pkNo z = (r1, r2, r3, r4, r5, r6, r7, r8, r9, r10, r11) → ∃ v8_ v9_ : Value, e = .returned (.tuple #[.agg #[.int .i64 r1, .int .u32 r2, .int .i64 r3, .int .i64 r4, .int .u32 r5, .int .u32 r6, .int .u32 r7, .int .u32 r8, v8_, v9_], .int .i64 r11]) ∧ Kd.V (Kd.int .u8) 5 w' w.heap.size (fun k_ => ((P0_8_ k_ ∨ P0_9_ k_) ∨ w.heap.size ≤ k_) ∧ some k_ ≠ v9_.ownBlock) v8_ r9 ∧ Kd.N k48 48 w' w.heap.size (fun k_ => ((P0_8_ k_ ∨ P0_9_ k_) ∨ w.heap.size ≤ k_)) v9_ r10 ∧ Below w.heap.size w w' := by
    rintro z e w' ⟨he, hb⟩ hz
    simp only [pkNo, Prod.mk.injEq] at hz
    obtain ⟨rfl, rfl, rfl, rfl, rfl, rfl, rfl, rfl, rfl, rfl, rfl⟩ := hz
    exact ⟨_, _, he, Kd.V_nil _ _ _ _ _, Kd.N_nil _ _ _ _ _, hb⟩
  have hR : ∀ (rt : Bool), rt = decide (PP.okPk a0_0 a0_2 a0_3 l0_8 l0_9) → ∀ W, Below w.heap.size w W → Calls Try.prog 32 #[.agg #[.int .i64 a0_0, .int .u32 a0_1, .int .i64 a0_2, .int .i64 a0_3, .int .u32 a0_4, .int .u32 a0_5, .int .u32 a0_6, .int .u32 a0_7, .slice A0_8 l0_8.length c0_8, .slice A0_9 l0_9.length c0_9]] W fun e w' => e = .returned (.bool rt) ∧ Below W.heap.size W w' :=
    fun rt hrt W hW => lessorref03_Right.calls 510 _ _ _ _ _ _ _ _ _ _ _ _ _ _ rt W (Kd.C_below hC8 hW) hc8 (Kd.C_below hC9 hW) hc9 (by rw [PP.ref_right_eq _ _ _ _ _ _ _ _ _ _ (fewP_po hfp) 510 (Nat.le_refl _), hrt])
  have hFI : ∀ (fd : List Int) (fb : Bool), opFind l0_9 82 = (fd, fb) → ∀ W, Below w.heap.size w W → Calls Try.prog 33 #[.slice A0_9 l0_9.length c0_9, .int .i64 82] W fun e w' => ∃ v0_ : Value, e = .returned (.tuple #[v0_, .bool fb]) ∧ Below W.heap.size W w' :=
    fun fd fb hfd W hW => (lessorref02_Find.calls 1000001 P0_9_ A0_9 c0_9 l0_9 82 fd fb W (Kd.V_below hs0_9 hW) (by rw [PF.ref_find_eq l0_9 hl9 82 1000001 (by omega), hfd])).mono fun e w' he => by obtain ⟨v, h1, _, h3⟩ := he; exact ⟨v, h1, h3⟩
  have hE : ∀ W, Below w.heap.size w W → Calls Try.prog 14 #[.slice A2 l2.length cc2] W fun e w' => ∃ v, e = .returned (.tuple #[v, .int .i64 (PL.encR l2).2]) ∧ (Kd.int .u8).R 5 w' W.heap.size (fun _ => True) v (PL.encR l2).1 ∧ Below W.heap.size W w' :=
    fun W hW => lessorref26_Encode.calls 2010 A2 _ l2 (PL.encR l2).1 (PL.encR l2).2 W (Kd.C_below hr2 hW) hc2 (by rw [PL.ref_encode_eq l2 ⟨by have := hfl.1; omega, hfl.2⟩ 2010 (Nat.le_refl _)])
  have hel := encT_len l2
  unfold addR at h
  obtain ⟨ok, hok⟩ : ∃ ok : Nat → Prop, ok = fun k_ => ((P0_8_ k_ ∨ P0_9_ k_) ∨ w.heap.size ≤ k_) := ⟨_, rfl⟩
  have HOK : Hid (∀ k, w.heap.size ≤ k → ok k) := fun k hk => by rw [hok]; exact .inr hk
  have HOK9 : Hid (∀ k, P0_9_ k → ok k) := fun k hk => by rw [hok]; exact .inl (.inr hk)
  have HOKE := Lib.hid hok
  clear hok
  obtain ⟨b, z, hbz⟩ : ∃ b z, PL.encR l2 = (b, z) := ⟨_, _, rfl⟩
  obtain ⟨fd, fb, hfd⟩ : ∃ fd fb, opFind l0_9 82 = (fd, fb) := ⟨_, _, rfl⟩
  obtain ⟨rt, hrt⟩ : ∃ rt, rt = decide (PP.okPk a0_0 a0_2 a0_3 l0_8 l0_9) := ⟨_, rfl⟩
  rw [hbz] at hE hel h
  rw [hfd] at h
  have HR := Lib.hid (hR rt hrt)
  have HFI := Lib.hid (hFI fd fb hfd)
  have HE := Lib.hid hE
  have HRES := Lib.hid h
  have HRT := Lib.hid hrt
  have HFD := Lib.hid hfd
  have HF8 := Lib.hid hF8
  have HF9 := Lib.hid hF9
  have HFP := Lib.hid hfp
  have HEL := Lib.hid hel
  have BAD := Lib.hid (fun z e w' => @bad z e w')
  clear hR hFI hE h hrt hfd hbz hF8 hF9 hfp hfl hel hl9 hC8 hC9 hs0_8 hs0_9 bad hr2
  go_enter Try.func19, Try.ntmps19
  go_upto_region 1 with fail
  obtain ⟨bp, hbp⟩ : ∃ b, w.heap.size = b := ⟨_, rfl⟩
  obtain ⟨br, hbr⟩ : ∃ b, bp + 1 = b := ⟨_, rfl⟩
  obtain ⟨w1, hw1⟩ : ∃ W, (w.alloc (.cells #[.int .i64 a0_0, .int .u32 a0_1, .int .i64 a0_2, .int .i64 a0_3, .int .u32 a0_4, .int .u32 a0_5, .int .u32 a0_6, .int .u32 a0_7, .slice A0_8 l0_8.length c0_8, .slice A0_9 l0_9.length c0_9] 28)).alloc (.cells pkNil 28) = W := ⟨_, rfl⟩
  have HP : Hid (w1.heap[bp]? = some (.cells #[.int .i64 a0_0, .int .u32 a0_1, .int .i64 a0_2, .int .i64 a0_3, .int .u32 a0_4, .int .u32 a0_5, .int .u32 a0_6, .int .u32 a0_7, .slice A0_8 l0_8.length c0_8, .slice A0_9 l0_9.length c0_9] 28 (0, 0))) := by
    show _ = _
    rw [← hw1, ← hbp]
    exact (Below.heap_alloc _ _ _ (by simp)).trans (blk_new _ _)
  have HZ : Hid (w1.heap[br]? = some (.cells pkNil 28 (0, 0))) := by
    show _ = _
    rw [← hw1, ← hbr, ← hbp]
    have := blk_new (w.alloc (.cells #[.int .i64 a0_0, .int .u32 a0_1, .int .i64 a0_2, .int .i64 a0_3, .int .u32 a0_4, .int .u32 a0_5, .int .u32 a0_6, .int .u32 a0_7, .slice A0_8 l0_8.length c0_8, .slice A0_9 l0_9.length c0_9] 28)) (.cells pkNil 28)
    rwa [World.size_alloc] at this
  have HB1 : Hid (Below w.heap.size w w1) := by show Below _ _ _; rw [← hw1]; exact below_alloc (below_alloc (Below.refl _ _) _) _
  have HBP : Hid (w.heap.size ≤ bp ∧ bp < br) := ⟨by omega, by omega⟩
  rw [hbp, hbr]
  change Code.wp _ _ _ _ ((w.alloc (.cells #[.int .i64 a0_0, .int .u32 a0_1, .int .i64 a0_2, .int .i64 a0_3, .int .u32 a0_4, .int .u32 a0_5, .int .u32 a0_6, .int .u32 a0_7, .slice A0_8 l0_8.length c0_8, .slice A0_9 l0_9.length c0_9] 28)).alloc (.cells pkNil 28))
  rw [hw1]
  clear hw1 hbp hbr
  have y0 := (blk_cell HP.out 0).trans rfl
  have y1 := (blk_cell HP.out 1).trans rfl
  have y2 := (blk_cell HP.out 2).trans rfl
  have y3 := (blk_cell HP.out 3).trans rfl
  have y4 := (blk_cell HP.out 4).trans rfl
  have y5 := (blk_cell HP.out 5).trans rfl
  have y6 := (blk_cell HP.out 6).trans rfl
  have y7 := (blk_cell HP.out 7).trans rfl
  have y8 := (blk_cell HP.out 8).trans rfl
  have y9 := (blk_cell HP.out 9).trans rfl
  go_wp2_with fail
  refine (HR.out _ HB1.out).mono ?_
  rintro e w2 ⟨rfl, hb2⟩
  have HP2 : Hid (_ = some _) := (hb2.block bp (blk_lt HP.out)).trans HP.out
  have HZ2 : Hid (_ = some _) := (hb2.block br (blk_lt HZ.out)).trans HZ.out
  have HB2 := Lib.hid (HB1.out.trans (hb2.mono HB1.out.size))
  clear y0 y1 y2 y3 y4 y5 y6 y7 y8 y9 HP HZ HB1 hb2 HR
  have y0 := (blk_cell HP2.out 0).trans rfl
  have u0_ := (blk_cell HZ2.out 0).trans rfl
  have f0_ := blk_frozen HZ2.out 0
  have u1_ := (blk_cell HZ2.out 1).trans rfl
  have f1_ := blk_frozen HZ2.out 1
  have u2_ := (blk_cell HZ2.out 2).trans rfl
  have f2_ := blk_frozen HZ2.out 2
  have u3_ := (blk_cell HZ2.out 3).trans rfl
  have f3_ := blk_frozen HZ2.out 3
  have u4_ := (blk_cell HZ2.out 4).trans rfl
  have f4_ := blk_frozen HZ2.out 4
  have u5_ := (blk_cell HZ2.out 5).trans rfl
  have f5_ := blk_frozen HZ2.out 5
  have u6_ := (blk_cell HZ2.out 6).trans rfl
  have f6_ := blk_frozen HZ2.out 6
  have u7_ := (blk_cell HZ2.out 7).trans rfl
  have f7_ := blk_frozen HZ2.out 7
  have u8_ := (blk_cell HZ2.out 8).trans rfl
  have f8_ := blk_frozen HZ2.out 8
  have u9_ := (blk_cell HZ2.out 9).trans rfl
  have f9_ := blk_frozen HZ2.out 9
  cases rt with
  | false =>
    have HX := Lib.hid (show ¬ PP.okPk a0_0 a0_2 a0_3 l0_8 l0_9 from of_decide_eq_false HRT.out.symm)
    go_wp2_with fail
    exact radd_ret rfl rfl (pk_set HZ2.out _ _ _ _ _ _ _ _ _ _) (BAD.out 1 _ _ ⟨rfl, pk_below HB2.out (by have := HBP.out; omega) _ _ _ _ _ _ _ _ _ _⟩ (by have hr := HRES.out; rwa [if_neg (fun c => HX.out c.1)] at hr))
  | true =>
    have HOKP := Lib.hid (show PP.okPk a0_0 a0_2 a0_3 l0_8 l0_9 from of_decide_eq_true HRT.out.symm)
    by_cases h0 : a0_0 = 1
    case neg =>
      have q0 : (a0_0 != 1) = true := bne_iff_ne.2 h0
      have HX := Lib.hid h0
      clear h0
      go_wp2_with fail
      exact radd_ret rfl rfl (pk_set HZ2.out _ _ _ _ _ _ _ _ _ _) (BAD.out 1 _ _ ⟨rfl, pk_below HB2.out (by have := HBP.out; omega) _ _ _ _ _ _ _ _ _ _⟩ (by have hr := HRES.out; rwa [if_neg (fun c => HX.out c.2.1)] at hr))
    have q0 : (a0_0 != 1) = false := by rw [bne, beq_iff_eq.2 h0]; rfl
    have H0 := Lib.hid h0
    clear h0
    by_cases hby : a1 = 0
    case pos =>
      have q1 : (a1 == 0) = true := beq_iff_eq.2 hby
      have HX := Lib.hid hby
      clear hby
      go_wp2_with fail
      exact radd_ret rfl rfl (pk_set HZ2.out _ _ _ _ _ _ _ _ _ _) (BAD.out 1 _ _ ⟨rfl, pk_below HB2.out (by have := HBP.out; omega) _ _ _ _ _ _ _ _ _ _⟩ (by have hr := HRES.out; rwa [if_neg (fun c => c.2.2 HX.out)] at hr))
    have q1 : (a1 == 0) = false := beq_eq_false_iff_ne.2 hby
    have HRES2 := Lib.hid ((if_pos (⟨HOKP.out, H0.out, hby⟩ : PP.okPk a0_0 a0_2 a0_3 l0_8 l0_9 ∧ a0_0 = 1 ∧ a1 ≠ 0)).symm.trans HRES.out)
    clear hby HRES
    clear y0 u0_ f0_ u1_ f1_ u2_ f2_ u3_ f3_ u4_ f4_ u5_ f5_ u6_ f6_ u7_ f7_ u8_ f8_ u9_ f9_
    have y0 := (blk_cell HP2.out 0).trans rfl
    have y1 := (blk_cell HP2.out 1).trans rfl
    have y2 := (blk_cell HP2.out 2).trans rfl
    have y3 := (blk_cell HP2.out 3).trans rfl
    have y4 := (blk_cell HP2.out 4).trans rfl
    have y5 := (blk_cell HP2.out 5).trans rfl
    have y6 := (blk_cell HP2.out 6).trans rfl
    have y7 := (blk_cell HP2.out 7).trans rfl
    have y8 := (blk_cell HP2.out 8).trans rfl
    have y9 := (blk_cell HP2.out 9).trans rfl
    have u0_ := (blk_cell HZ2.out 0).trans rfl
    have f0_ := blk_frozen HZ2.out 0
    have u1_ := (blk_cell HZ2.out 1).trans rfl
    have f1_ := blk_frozen HZ2.out 1
    have u2_ := (blk_cell HZ2.out 2).trans rfl
    have f2_ := blk_frozen HZ2.out 2
    have u3_ := (blk_cell HZ2.out 3).trans rfl
    have f3_ := blk_frozen HZ2.out 3
    have u4_ := (blk_cell HZ2.out 4).trans rfl
    have f4_ := blk_frozen HZ2.out 4
    have u5_ := (blk_cell HZ2.out 5).trans rfl
    have f5_ := blk_frozen HZ2.out 5
    have u6_ := (blk_cell HZ2.out 6).trans rfl
    have f6_ := blk_frozen HZ2.out 6
    have u7_ := (blk_cell HZ2.out 7).trans rfl
    have f7_ := blk_frozen HZ2.out 7
    have u8_ := (blk_cell HZ2.out 8).trans rfl
    have f8_ := blk_frozen HZ2.out 8
    have u9_ := (blk_cell HZ2.out 9).trans rfl
    have f9_ := blk_frozen HZ2.out 9
    go_wp2_with fail
    refine (HFI.out _ HB2.out).mono ?_
    rintro e w4 ⟨v4, rfl, hb4⟩
    have HP4 : Hid (_ = some _) := (hb4.block bp (blk_lt HP2.out)).trans HP2.out
    have HZ4 : Hid (_ = some _) := (hb4.block br (blk_lt HZ2.out)).trans HZ2.out
    have HB4 := Lib.hid (HB2.out.trans (hb4.mono HB2.out.size))
    clear u0_ f0_ u1_ f1_ u2_ f2_ u3_ f3_ u4_ f4_ u5_ f5_ u6_ f6_ u7_ f7_ u8_ f8_ u9_ f9_ y0 y1 y2 y3 y4 y5 y6 y7 y8 y9 hb4 HFI
    have u0_ := (blk_cell HZ4.out 0).trans rfl
    have f0_ := blk_frozen HZ4.out 0
    have u1_ := (blk_cell HZ4.out 1).trans rfl
    have f1_ := blk_frozen HZ4.out 1
    have u2_ := (blk_cell HZ4.out 2).trans rfl
    have f2_ := blk_frozen HZ4.out 2
    have u3_ := (blk_cell HZ4.out 3).trans rfl
    have f3_ := blk_frozen HZ4.out 3
    have u4_ := (blk_cell HZ4.out 4).trans rfl
    have f4_ := blk_frozen HZ4.out 4
    have u5_ := (blk_cell HZ4.out 5).trans rfl
    have f5_ := blk_frozen HZ4.out 5
    have u6_ := (blk_cell HZ4.out 6).trans rfl
    have f6_ := blk_frozen HZ4.out 6
    have u7_ := (blk_cell HZ4.out 7).trans rfl
    have f7_ := blk_frozen HZ4.out 7
    have u8_ := (blk_cell HZ4.out 8).trans rfl
    have f8_ := blk_frozen HZ4.out 8
    have u9_ := (blk_cell HZ4.out 9).trans rfl
    have f9_ := blk_frozen HZ4.out 9
    cases fb with
    | true =>
      go_wp2_with fail
      exact radd_ret rfl rfl (pk_set HZ4.out _ _ _ _ _ _ _ _ _ _) (BAD.out 5 _ _ ⟨rfl, pk_below HB4.out (by have := HBP.out; omega) _ _ _ _ _ _ _ _ _ _⟩ (by have hr := HRES2.out; rwa [if_pos trivial] at hr))
    | false =>
      have HRES3 := Lib.hid ((if_neg (by simp : ¬ (fd, false).2 = true)).symm.trans HRES2.out)
      clear HRES2
      clear u0_ f0_ u1_ f1_ u2_ f2_ u3_ f3_ u4_ f4_ u5_ f5_ u6_ f6_ u7_ f7_ u8_ f8_ u9_ f9_
      go_wp2_with fail
      refine (HE.out _ HB4.out).mono ?_
      rintro e w5 ⟨v5, rfl, hv5, hb5⟩
      obtain ⟨A5, c5, rfl⟩ := Kd.R_slice hv5
      have HP5 : Hid (w5.heap[bp]? = some (.cells #[.int .i64 a0_0, .int .u32 a0_1, .int .i64 a0_2, .int .i64 a0_3, .int .u32 a0_4, .int .u32 a0_5, .int .u32 a0_6, .int .u32 a0_7, .slice A0_8 l0_8.length c0_8, .slice A0_9 l0_9.length c0_9] 28 (0, 0))) := (hb5.block bp (blk_lt HP4.out)).trans HP4.out
      have HZ5 : Hid (w5.heap[br]? = some (.cells pkNil 28 (0, 0))) := (hb5.block br (blk_lt HZ4.out)).trans HZ4.out
      have HB5 := Lib.hid (HB4.out.trans (hb5.mono HB4.out.size))
      have HV5 := Lib.hid (Kd.R_tight rfl hv5)
      have HVB : Hid (∀ k, (Value.slice A5 b.length c5).ownBlock = some k → w.heap.size ≤ k ∧ k < w5.heap.size) := fun k hk => ⟨Nat.le_trans HB4.out.size (Kd.R_base hv5 k hk), Kd.R_lt hv5 k hk⟩
      clear hv5 hb5 HE
      have u0_ := (blk_cell HZ5.out 0).trans rfl
      have f0_ := blk_frozen HZ5.out 0
      have u1_ := (blk_cell HZ5.out 1).trans rfl
      have f1_ := blk_frozen HZ5.out 1
      have u2_ := (blk_cell HZ5.out 2).trans rfl
      have f2_ := blk_frozen HZ5.out 2
      have u3_ := (blk_cell HZ5.out 3).trans rfl
      have f3_ := blk_frozen HZ5.out 3
      have u4_ := (blk_cell HZ5.out 4).trans rfl
      have f4_ := blk_frozen HZ5.out 4
      have u5_ := (blk_cell HZ5.out 5).trans rfl
      have f5_ := blk_frozen HZ5.out 5
      have u6_ := (blk_cell HZ5.out 6).trans rfl
      have f6_ := blk_frozen HZ5.out 6
      have u7_ := (blk_cell HZ5.out 7).trans rfl
      have f7_ := blk_frozen HZ5.out 7
      have u8_ := (blk_cell HZ5.out 8).trans rfl
      have f8_ := blk_frozen HZ5.out 8
      have u9_ := (blk_cell HZ5.out 9).trans rfl
      have f9_ := blk_frozen HZ5.out 9
      by_cases hz : z = 0
      case neg =>
        have q2 : (z != 0) = true := bne_iff_ne.2 hz
        have HX := Lib.hid hz
        clear hz
        go_wp2_with fail
        exact radd_ret rfl rfl (pk_set HZ5.out _ _ _ _ _ _ _ _ _ _) (BAD.out z _ _ ⟨rfl, pk_below HB5.out (by have := HBP.out; omega) _ _ _ _ _ _ _ _ _ _⟩ (by have hr := HRES3.out; rwa [if_neg HX.out] at hr))
      subst hz
      have HRES4 := Lib.hid ((if_pos (rfl : ((b, (0 : Int)).2 : Int) = 0)).symm.trans HRES3.out)
      clear HRES3
      clear u0_ f0_ u1_ f1_ u2_ f2_ u3_ f3_ u4_ f4_ u5_ f5_ u6_ f6_ u7_ f7_ u8_ f8_ u9_ f9_
      have y9 := (blk_cell HP5.out 9).trans rfl
      have HPB : Hid (bp < w5.heap.size) := blk_lt HP5.out
      have HL9 : Hid (l0_9.length ≤ 199) := HFP.out.2.1
      go_upto_region 11 with (first
        | ((with_reducible refine gate_dst (N := 45) rfl ?_); (try (refine gate_guard (by rfl) ?_; dsimp only)); refine Kd.R_lit k48 (w0 := w5) w5.heap.size 48 ?hg (N := 45) ?hd (xs := ([] : List OptF)) (inner := []) (ok := ok) (okp := ok) ?hr ?hp (fun _ hk => hk) (HOK.out _ HB5.out.size) (Below.refl _ _) (Nat.le_refl _) (by simp) ?_; (case hd => rfl); (case hg => rfl); (case hr => first | (go_simp; done) | (go_simp; rfl)); (case hp => exact (Reps.none _ _)); intro v6 w6 ho6 hb6 _ _; have HN6 := Lib.hid (Kd.R_N ho6); have HB6 := Lib.hid hb6; clear ho6 hb6; have y9' := ((blk_cell ((HB6.out.block bp HPB.out).trans HP5.out) 9).trans rfl))
        | ((with_reducible refine gate_builtin (b := .append) (xs := #[.tmp 45, .tmp 47]) rfl ?_); (try (refine gate_guard (by rfl) ?_; dsimp only)); at_builtin; refine Kd.N_append_rows k48 (w0 := w5) w5.heap.size rfl (.tmp 45) (.tmp 47) 26 48 (.agg #[.int .i64 0, .slice none 0 0]) 32 rfl Try.underlying26 oinfo rfl (by decide) (by decide) v6 [] l0_9 _ _ _ ok (fun k => P0_9_ k ∧ k < w.heap.size) rfl rfl HN6.out (Kd.F_below (Kd.F_below HF9.out HB5.out) HB6.out) (fun k hk => ⟨HOK9.out k hk.1, fun e => by have h1 := Kd.N_base HN6.out k e.symm; have h2 := hk.2; have h3 := HB5.out.size; omega⟩) (fun k hk => HOK.out k (Nat.le_trans HB5.out.size (Nat.le_trans HB6.out.size hk))) HB6.out HB6.out.size (by have := HL9.out; simp; omega) ?_; intro v7 w7 hn7 hb7 _ _; rw [List.nil_append] at hn7; have HN7 := Lib.hid hn7; have HB7 := Lib.hid hb7; clear hn7 hb7 HN6 y9')
        | ((with_reducible refine gate_builtin (b := .append) (xs := #[.tmp 48, .tmp 51]) rfl ?_); (try (refine gate_guard (by rfl) ?_; dsimp only)); at_builtin; refine Kd.N_append k48 (w0 := w5) w5.heap.size rfl (.tmp 48) (.tmp 51) 26 48 (.agg #[.int .i64 0, .slice none 0 0]) 32 rfl Try.underlying26 oinfo rfl (by decide) (by decide) v7 l0_9 (⟨82, b⟩ : OptF) [.int .i64 82, .slice A5 b.length c5] ok (fun k => some k = (Value.slice A5 b.length c5).ownBlock) rfl rfl (k48_mkF w7 _ ⟨82, b⟩ (Kd.R_reads' HV5.out).2.1 (Kd.R_F (Kd.R_below HV5.out HB7.out))) (fun k hk => ⟨HOK.out k (HVB.out k hk.symm).1, fun e => by have h1 := Kd.N_base HN7.out k e.symm; have h2 := (HVB.out k hk.symm).2; omega⟩) (fun k hk => HOK.out k (Nat.le_trans HB5.out.size (Nat.le_trans HB7.out.size hk))) HN7.out HB7.out HB7.out.size (by have := HL9.out; omega) ?_; intro v8 w8 hn8 hb8 _ _; obtain ⟨A8, c8, hv8⟩ := Kd.N_slice hn8; obtain ⟨n8, hnl⟩ : ∃ n8, n8 = (l0_9 ++ [(⟨82, b⟩ : OptF)]).length := ⟨_, rfl⟩; rw [← hnl] at hv8; subst hv8; have HNL := Lib.hid hnl; clear hnl; have HN8 := Lib.hid hn8; have HB8 := Lib.hid hb8; clear hn8 hb8 HN7; have HP8 : Hid (w8.heap[bp]? = some (.cells #[.int .i64 a0_0, .int .u32 a0_1, .int .i64 a0_2, .int .i64 a0_3, .int .u32 a0_4, .int .u32 a0_5, .int .u32 a0_6, .int .u32 a0_7, .slice A0_8 l0_8.length c0_8, .slice A0_9 l0_9.length c0_9] 28 (0, 0))) := (HB8.out.block bp HPB.out).trans HP5.out; have y98 := ((blk_cell HP8.out 9).trans rfl); have g98 := blk_frozen HP8.out 9)
        | fail)
      obtain ⟨w9, hw9⟩ : ∃ W, w8.setCell ⟨bp, 9, none⟩ (.slice A8 n8 c8) = W := ⟨_, rfl⟩
      have hz8 : w8.heap[br]? = some (.cells pkNil 28 (0, 0)) := (HB8.out.block br (blk_lt HZ5.out)).trans HZ5.out
      have hp9 : w9.heap[bp]? = some (.cells #[.int .i64 a0_0, .int .u32 a0_1, .int .i64 a0_2, .int .i64 a0_3, .int .u32 a0_4, .int .u32 a0_5, .int .u32 a0_6, .int .u32 a0_7, .slice A0_8 l0_8.length c0_8, .slice A8 n8 c8] 28 (0, 0)) := by rw [← hw9]; exact blk_put HP8.out 9 _ rfl
      have hz9 : w9.heap[br]? = some (.cells pkNil 28 (0, 0)) := by rw [← hw9]; exact blk_far hz8 (p := ⟨bp, 9, none⟩) (by have := HBP.out; show br ≠ bp; omega) _
      have hn9 : ON w9 w5.heap.size (fun k => (ok k ∧ k ≠ bp) ∧ k ≠ br) (.slice A8 n8 c8) (l0_9 ++ [⟨82, b⟩]) := by
        rw [← hw9]
        have h1 := ON_off (ON_off HN8.out HP8.out (by intro j x; rcases j with _|_|_|_|_|_|_|_|_|_|j <;> simp) HPB.out) hz8 (by intro j x; rcases j with _|_|_|_|_|_|_|_|_|_|j <;> simp) (blk_lt HZ5.out)
        exact Kd.N_far h1 (p := ⟨bp, 9, none⟩) (fun k hk => hk.1.2) _
      have hb9 : Below w.heap.size w w9 := by rw [← hw9]; exact below_set (HB5.out.trans (HB8.out.mono HB5.out.size)) HBP.out.1
      have HS5 : Hid (w.heap.size ≤ w5.heap.size) := HB5.out.size
      have HBRW : Hid (br < w5.heap.size) := blk_lt HZ5.out
      rw [hw9]
      clear hw9 hz8 y98 g98 y9 HP8 HZ5 HN8 HB8 HP5 HV5 HVB HB7 HB6
      have HRG : Hid (∀ (rt : Bool) (g : Int) (W : World), rt = decide (PP.okPk a0_0 a0_2 a0_3 l0_8 (l0_9 ++ [⟨82, b⟩])) → Below w.heap.size w W → ON W w5.heap.size (fun k => (ok k ∧ k ≠ bp) ∧ k ≠ br) (.slice A8 n8 c8) (l0_9 ++ [⟨82, b⟩]) →
          Calls Try.prog 32 #[.agg #[.int .i64 a0_0, .int .u32 a0_1, .int .i64 a0_2, .int .i64 a0_3, .int .u32 a0_4, .int .u32 a0_5, .int .u32 a0_6, .int .u32 g, .slice A0_8 l0_8.length c0_8, .slice A8 n8 c8]] W fun e w' => e = .returned (.bool rt) ∧ Below W.heap.size W w') := by
        intro rt g W hrt hW hN
        have e8 := HNL.out
        subst e8
        have hC8 := Kd.F_now (Kd.F_below HF8.out hW)
        refine lessorref03_Right.calls 510 _ _ _ _ _ _ _ _ _ _ _ _ _ _ rt W hC8 hc8 (Kd.N_reads' hN).2.2 (Kd.N_reads' hN).2.1 ?_
        rw [PP.ref_right_eq _ _ _ _ _ _ _ _ _ _ ⟨by have := HL9.out; simp; omega, ?_⟩ 510 (Nat.le_refl _), hrt]
        intro x hx
        rcases List.mem_append.1 hx with hx | hx
        · exact HFP.out.2.2 x hx
        · rw [List.mem_singleton.1 hx]; have := HEL.out; exact Nat.le_trans this (by decide)
      obtain ⟨rt2, hrt2⟩ : ∃ rt2, rt2 = decide (PP.okPk a0_0 a0_2 a0_3 l0_8 (l0_9 ++ [⟨82, b⟩])) := ⟨_, rfl⟩
      have HPUT : Hid (opPut l0_9 82 b = l0_9 ++ [⟨82, b⟩]) := opPut_no (by rw [HFD.out])
      have HRT2 := Lib.hid hrt2
      clear hrt2
      have hcase : ∀ g : Int, (g = if a0_7 = 0 then a1 else a0_7) → ∀ W, Below w.heap.size w W → True := fun _ _ _ _ => trivial
      clear hcase
      by_cases hg : a0_7 = 0
      case pos =>
        have q3 : (a0_7 == 0) = true := beq_iff_eq.2 hg
        have i7 := (blk_cell hp9 7).trans rfl
        have j7 := blk_frozen hp9 7
        obtain ⟨w11, hw11⟩ : ∃ W, w9.setCell ⟨bp, 7, none⟩ (.int .u32 a1) = W := ⟨_, rfl⟩
        have hp11 := blk_put hp9 7 (.int .u32 a1) rfl
        have hz11 := blk_far hz9 (p := ⟨bp, 7, none⟩) (by have := HBP.out; show br ≠ bp; omega) (.int .u32 a1)
        have hn11 := Kd.N_far hn9 (p := ⟨bp, 7, none⟩) (fun k hk => hk.1.2) (.int .u32 a1)
        have hb11 := below_set (j := 7) (v := .int .u32 a1) hb9 HBP.out.1
        rw [hw11] at hp11 hz11 hn11 hb11
        have HQ := Lib.hid (And.intro hp11 (And.intro hz11 (And.intro hn11 hb11)))
        have HG := Lib.hid hg
        clear hp9 hz9 hn9 hb9 hp11 hz11 hn11 hb11 hg
        go_upto_region 13 with fail
        try rw [hw11]
        clear hw11 i7 j7
        obtain ⟨hp11, hz11, hn11, hb11⟩ := HQ.out
        clear HQ
        have HP11 : Hid (w11.heap[bp]? = some (.cells #[.int .i64 a0_0, .int .u32 a0_1, .int .i64 a0_2, .int .i64 a0_3, .int .u32 a0_4, .int .u32 a0_5, .int .u32 a0_6, .int .u32 a1, .slice A0_8 l0_8.length c0_8, .slice A8 n8 c8] 28 (0, 0))) := hp11
        have HZ11 := Lib.hid hz11
        have HN11 := Lib.hid hn11
        have HB11 := Lib.hid hb11
        have HR3 := Lib.hid (HRG.out rt2 a1 w11 HRT2.out hb11 hn11)
        clear hp11 hz11 hn11 hb11 HRG
        have y0 := (blk_cell HP11.out 0).trans rfl
        have y1 := (blk_cell HP11.out 1).trans rfl
        have y2 := (blk_cell HP11.out 2).trans rfl
        have y3 := (blk_cell HP11.out 3).trans rfl
        have y4 := (blk_cell HP11.out 4).trans rfl
        have y5 := (blk_cell HP11.out 5).trans rfl
        have y6 := (blk_cell HP11.out 6).trans rfl
        have y7 := (blk_cell HP11.out 7).trans rfl
        have y8 := (blk_cell HP11.out 8).trans rfl
        have y9 := (blk_cell HP11.out 9).trans rfl
        go_wp2_with fail
        refine HR3.out.mono ?_
        rintro e w12 ⟨rfl, hb12⟩
        have HP12 : Hid (w12.heap[bp]? = some (.cells #[.int .i64 a0_0, .int .u32 a0_1, .int .i64 a0_2, .int .i64 a0_3, .int .u32 a0_4, .int .u32 a0_5, .int .u32 a0_6, .int .u32 a1, .slice A0_8 l0_8.length c0_8, .slice A8 n8 c8] 28 (0, 0))) := (hb12.block bp (blk_lt HP11.out)).trans HP11.out
        have HZ12 : Hid (w12.heap[br]? = some (.cells pkNil 28 (0, 0))) := (hb12.block br (blk_lt HZ11.out)).trans HZ11.out
        have HN12 := Lib.hid (Kd.N_below HN11.out hb12)
        have HB12 := Lib.hid (HB11.out.trans (hb12.mono HB11.out.size))
        clear y0 y1 y2 y3 y4 y5 y6 y7 y8 y9 hb12 HR3
        have y0 := (blk_cell HP12.out 0).trans rfl
        have y1 := (blk_cell HP12.out 1).trans rfl
        have y2 := (blk_cell HP12.out 2).trans rfl
        have y3 := (blk_cell HP12.out 3).trans rfl
        have y4 := (blk_cell HP12.out 4).trans rfl
        have y5 := (blk_cell HP12.out 5).trans rfl
        have y6 := (blk_cell HP12.out 6).trans rfl
        have y7 := (blk_cell HP12.out 7).trans rfl
        have y8 := (blk_cell HP12.out 8).trans rfl
        have y9 := (blk_cell HP12.out 9).trans rfl
        have u0_ := (blk_cell HZ12.out 0).trans rfl
        have f0_ := blk_frozen HZ12.out 0
        have u1_ := (blk_cell HZ12.out 1).trans rfl
        have f1_ := blk_frozen HZ12.out 1
        have u2_ := (blk_cell HZ12.out 2).trans rfl
        have f2_ := blk_frozen HZ12.out 2
        have u3_ := (blk_cell HZ12.out 3).trans rfl
        have f3_ := blk_frozen HZ12.out 3
        have u4_ := (blk_cell HZ12.out 4).trans rfl
        have f4_ := blk_frozen HZ12.out 4
        have u5_ := (blk_cell HZ12.out 5).trans rfl
        have f5_ := blk_frozen HZ12.out 5
        have u6_ := (blk_cell HZ12.out 6).trans rfl
        have f6_ := blk_frozen HZ12.out 6
        have u7_ := (blk_cell HZ12.out 7).trans rfl
        have f7_ := blk_frozen HZ12.out 7
        have u8_ := (blk_cell HZ12.out 8).trans rfl
        have f8_ := blk_frozen HZ12.out 8
        have u9_ := (blk_cell HZ12.out 9).trans rfl
        have f9_ := blk_frozen HZ12.out 9
        cases rt2 with
        | false =>
          have HX := Lib.hid (show ¬ PP.okPk a0_0 a0_2 a0_3 l0_8 (l0_9 ++ [⟨82, b⟩]) from of_decide_eq_false HRT2.out.symm)
          go_wp2_with fail
          exact radd_ret rfl rfl (pk_set HZ12.out _ _ _ _ _ _ _ _ _ _) (BAD.out 3 _ _ ⟨rfl, pk_below HB12.out (by have := HBP.out; omega) _ _ _ _ _ _ _ _ _ _⟩ (by have hr := HRES4.out; simp only [HPUT.out] at hr; rwa [if_neg HX.out] at hr))
        | true =>
          have HX := Lib.hid (show PP.okPk a0_0 a0_2 a0_3 l0_8 (l0_9 ++ [⟨82, b⟩]) from of_decide_eq_true HRT2.out.symm)
          go_wp2_with fail
          have hr := HRES4.out
          simp only [HPUT.out] at hr
          rw [if_pos HX.out, if_pos HG.out] at hr
          simp only [Prod.mk.injEq] at hr
          obtain ⟨rfl, rfl, rfl, rfl, rfl, rfl, rfl, rfl, rfl, rfl, rfl⟩ := hr
          have hbx := HBP.out
          have hs5 := HS5.out
          refine radd_ret rfl rfl (pk_set HZ12.out _ _ _ _ _ _ _ _ _ _) ?_
          have hbel : Below w.heap.size w _ := pk_below HB12.out (by omega : w.heap.size ≤ br) (.int .i64 a0_0) (.int .u32 a0_1) (.int .i64 a0_2) (.int .i64 a0_3) (.int .u32 a0_4) (.int .u32 a0_5) (.int .u32 a0_6) (.int .u32 a1) (.slice A0_8 l0_8.length c0_8) (.slice A8 n8 c8)
          refine ⟨_, _, rfl, Kd.V_mk hc8 (Kd.F_mono (Kd.F_below HF8.out hbel) ?_), ?_, hbel⟩
          · exact fun k hk => ⟨.inl (.inl hk.1), fun e => by have h1 := Kd.N_base HN12.out k e.symm; have h2 := hk.2; omega⟩
          · exact Kd.N_lower (Kd.N_mono (Kd.N_step HN12.out (fun k hk _ => pk_far hk.2 _ _ _ _ _ _ _ _ _ _)) (fun k hk => by have := hk.1.1; rwa [HOKE.out] at this)) hs5
      case neg =>
        have q3 : (a0_7 == 0) = false := beq_eq_false_iff_ne.2 hg
        have i7 := (blk_cell hp9 7).trans rfl
        obtain ⟨w11, hw11⟩ : ∃ W, w9 = W := ⟨_, rfl⟩
        rw [hw11] at hp9 hz9 hn9 hb9 i7 ⊢
        clear hw11
        have HQ := Lib.hid (And.intro hp9 (And.intro hz9 (And.intro hn9 hb9)))
        have HG := Lib.hid hg
        clear hp9 hz9 hn9 hb9 hg
        go_upto_region 13 with fail
        clear i7
        obtain ⟨hp11, hz11, hn11, hb11⟩ := HQ.out
        clear HQ
        have HP11 : Hid (w11.heap[bp]? = some (.cells #[.int .i64 a0_0, .int .u32 a0_1, .int .i64 a0_2, .int .i64 a0_3, .int .u32 a0_4, .int .u32 a0_5, .int .u32 a0_6, .int .u32 a0_7, .slice A0_8 l0_8.length c0_8, .slice A8 n8 c8] 28 (0, 0))) := hp11
        have HZ11 := Lib.hid hz11
        have HN11 := Lib.hid hn11
        have HB11 := Lib.hid hb11
        have HR3 := Lib.hid (HRG.out rt2 a0_7 w11 HRT2.out hb11 hn11)
        clear hp11 hz11 hn11 hb11 HRG
        have y0 := (blk_cell HP11.out 0).trans rfl
        have y1 := (blk_cell HP11.out 1).trans rfl
        have y2 := (blk_cell HP11.out 2).trans rfl
        have y3 := (blk_cell HP11.out 3).trans rfl
        have y4 := (blk_cell HP11.out 4).trans rfl
        have y5 := (blk_cell HP11.out 5).trans rfl
        have y6 := (blk_cell HP11.out 6).trans rfl
        have y7 := (blk_cell HP11.out 7).trans rfl
        have y8 := (blk_cell HP11.out 8).trans rfl
        have y9 := (blk_cell HP11.out 9).trans rfl
        go_wp2_with fail
        refine HR3.out.mono ?_
        rintro e w12 ⟨rfl, hb12⟩
        have HP12 : Hid (w12.heap[bp]? = some (.cells #[.int .i64 a0_0, .int .u32 a0_1, .int .i64 a0_2, .int .i64 a0_3, .int .u32 a0_4, .int .u32 a0_5, .int .u32 a0_6, .int .u32 a0_7, .slice A0_8 l0_8.length c0_8, .slice A8 n8 c8] 28 (0, 0))) := (hb12.block bp (blk_lt HP11.out)).trans HP11.out
        have HZ12 : Hid (w12.heap[br]? = some (.cells pkNil 28 (0, 0))) := (hb12.block br (blk_lt HZ11.out)).trans HZ11.out
        have HN12 := Lib.hid (Kd.N_below HN11.out hb12)
        have HB12 := Lib.hid (HB11.out.trans (hb12.mono HB11.out.size))
        clear y0 y1 y2 y3 y4 y5 y6 y7 y8 y9 hb12 HR3
        have y0 := (blk_cell HP12.out 0).trans rfl
        have y1 := (blk_cell HP12.out 1).trans rfl
        have y2 := (blk_cell HP12.out 2).trans rfl
        have y3 := (blk_cell HP12.out 3).trans rfl
        have y4 := (blk_cell HP12.out 4).trans rfl
        have y5 := (blk_cell HP12.out 5).trans rfl
        have y6 := (blk_cell HP12.out 6).trans rfl
        have y7 := (blk_cell HP12.out 7).trans rfl
        have y8 := (blk_cell HP12.out 8).trans rfl
        have y9 := (blk_cell HP12.out 9).trans rfl
        have u0_ := (blk_cell HZ12.out 0).trans rfl
        have f0_ := blk_frozen HZ12.out 0
        have u1_ := (blk_cell HZ12.out 1).trans rfl
        have f1_ := blk_frozen HZ12.out 1
        have u2_ := (blk_cell HZ12.out 2).trans rfl
        have f2_ := blk_frozen HZ12.out 2
        have u3_ := (blk_cell HZ12.out 3).trans rfl
        have f3_ := blk_frozen HZ12.out 3
        have u4_ := (blk_cell HZ12.out 4).trans rfl
        have f4_ := blk_frozen HZ12.out 4
        have u5_ := (blk_cell HZ12.out 5).trans rfl
        have f5_ := blk_frozen HZ12.out 5
        have u6_ := (blk_cell HZ12.out 6).trans rfl
        have f6_ := blk_frozen HZ12.out 6
        have u7_ := (blk_cell HZ12.out 7).trans rfl
        have f7_ := blk_frozen HZ12.out 7
        have u8_ := (blk_cell HZ12.out 8).trans rfl
        have f8_ := blk_frozen HZ12.out 8
        have u9_ := (blk_cell HZ12.out 9).trans rfl
        have f9_ := blk_frozen HZ12.out 9
        cases rt2 with
        | false =>
          have HX := Lib.hid (show ¬ PP.okPk a0_0 a0_2 a0_3 l0_8 (l0_9 ++ [⟨82, b⟩]) from of_decide_eq_false HRT2.out.symm)
          go_wp2_with fail
          exact radd_ret rfl rfl (pk_set HZ12.out _ _ _ _ _ _ _ _ _ _) (BAD.out 3 _ _ ⟨rfl, pk_below HB12.out (by have := HBP.out; omega) _ _ _ _ _ _ _ _ _ _⟩ (by have hr := HRES4.out; simp only [HPUT.out] at hr; rwa [if_neg HX.out] at hr))
        | true =>
          have HX := Lib.hid (show PP.okPk a0_0 a0_2 a0_3 l0_8 (l0_9 ++ [⟨82, b⟩]) from of_decide_eq_true HRT2.out.symm)
          go_wp2_with fail
          have hr := HRES4.out
          simp only [HPUT.out] at hr
          rw [if_pos HX.out, if_neg HG.out] at hr
          simp only [Prod.mk.injEq] at hr
          obtain ⟨rfl, rfl, rfl, rfl, rfl, rfl, rfl, rfl, rfl, rfl, rfl⟩ := hr
          have hbx := HBP.out
          have hs5 := HS5.out
          refine radd_ret rfl rfl (pk_set HZ12.out _ _ _ _ _ _ _ _ _ _) ?_
          have hbel : Below w.heap.size w _ := pk_below HB12.out (by omega : w.heap.size ≤ br) (.int .i64 a0_0) (.int .u32 a0_1) (.int .i64 a0_2) (.int .i64 a0_3) (.int .u32 a0_4) (.int .u32 a0_5) (.int .u32 a0_6) (.int .u32 a0_7) (.slice A0_8 l0_8.length c0_8) (.slice A8 n8 c8)
          refine ⟨_, _, rfl, Kd.V_mk hc8 (Kd.F_mono (Kd.F_below HF8.out hbel) ?_), ?_, hbel⟩
          · exact fun k hk => ⟨.inl (.inl hk.1), fun e => by have h1 := Kd.N_base HN12.out k e.symm; have h2 := hk.2; omega⟩
          · exact Kd.N_lower (Kd.N_mono (Kd.N_step HN12.out (fun k hk _ => pk_far hk.2 _ _ _ _ _ _ _ _ _ _)) (fun k hk => by have := hk.1.1; rwa [HOKE.out] at this)) hs5
end Go.Proofs.Ytnkajghemggaaaa
end
