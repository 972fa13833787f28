/-
  Printed: PrF15.
  A range over a function, at the wide fence, in the form that these proofs use: the loop's record is named, the iterator is one plain call whose world is told at its end; a round is one call of yield. No program in sight.
  What a range over a function turns in its own record leaves rows, boxes and what was there before as they were. No program in sight.
  bytes.Clone hands back a slice of its own that holds the same bytes; nothing that was there turns. Condition: fewer than 2^47 bytes.
  option.parts: the options of bytes, handed on one by one. Condition: bytes, fewer than 2^40.
-/
import Derived.Test.YtmbfdmceameghaaDoorMPB1
import Derived.RangeFuncNested
import Derived.RangeFuncBox
import Derived.WalkKit
import Derived.KernelRfl
import Derived.OwnWalkIn
import Derived.TacticsInMore
import Derived.LoopNIn
import Derived.LoopIn
import Derived.Maps.AppendAt
import Derived.Test.YtmbfdmceameghaaDoorWMore
import Derived.Test.YtmbfdmceameghaaDoorWApart
import Derived.Test.YtmbfdmceameghaaDoorWNEv
import Derived.WalkSpells
import Derived.Lib.Hide
import Derived.Deep.Slices
import Derived.Deep.QuietTactic

section
-- written by a program of this session (wip/tools/gen.py) over the kit's print
namespace Go.Proofs.YtmbfdmceameghaaDoor.Pr
open Go.RowKit Go.Proofs.YtmbfdmceameghaaDoorW.PrintWords Go.Proofs.YtmbfdmceameghaaDoorW.PrintLast Go.Proofs.YtmbfdmceameghaaDoorW.PrintMore
attribute [local go_sem] max2_int min2_int max_two min_two max_three min_three max_four min_four   -- for this text's walks alone
set_option linter.unusedVariables false
set_option linter.unusedSimpArgs false

/-! ### lessorref02_Decode: function 15 -/
def lessorref02_Decode.l0 : Nat → List Int → List (S39) → Int → Option ((List (S39)) × Int)
 | 0, _, _, _ => none
 | k + 1, x0, x4, x5 => if x5 < (x0.length : Int) then (if 0 ≤ x5 then (if (rd x0 x5) = 0 then (lessorref02_Decode.l0 k x0 x4 (wrap64 (x5 + 1))) else (if (rd x0 x5) = 255 then (if 0 ≤ (wrap64 (x5 + 1)) then (if (wrap64 (x5 + 1)) ≤ (x0.length : Int) then ((lessorref02_zero.f k (x0.drop ((wrap64 (x5 + 1)) : Int).toNat)).bind fun t264 => (if t264 = true then (some (x4, 0)) else (some (([] : List (S39)), 2)))) else (none)) else (none)) else (if (wrap64 (x5 + 1)) ≥ (x0.length : Int) then (some (([] : List (S39)), 2)) else (if 0 ≤ (wrap64 (x5 + 1)) then (if (wrap64 (x5 + 1)) < (x0.length : Int) then (if (wrap64 ((wrap64 (x5 + 2)) + (wrap64 (rd x0 (wrap64 (x5 + 1)))))) > (x0.length : Int) then (some (([] : List (S39)), 2)) else ((some (([] : List Int) : List Int)).bind fun y267 => (if 0 ≤ (wrap64 (x5 + 2)) then (if (wrap64 (x5 + 2)) ≤ (wrap64 ((wrap64 (x5 + 2)) + (wrap64 (rd x0 (wrap64 (x5 + 1)))))) then (if (wrap64 ((wrap64 (x5 + 2)) + (wrap64 (rd x0 (wrap64 (x5 + 1)))))) ≤ (x0.length : Int) then (if y267.length + ((x0.take ((wrap64 ((wrap64 (x5 + 2)) + (wrap64 (rd x0 (wrap64 (x5 + 1)))))) : Int).toNat).drop ((wrap64 (x5 + 2)) : Int).toNat).length < 140737488355328 then (if x4.length < 4398046511104 then (lessorref02_Decode.l0 k x0 (x4 ++ [(⟨wrap64 (rd x0 x5), (y267 ++ ((x0.take ((wrap64 ((wrap64 (x5 + 2)) + (wrap64 (rd x0 (wrap64 (x5 + 1)))))) : Int).toNat).drop ((wrap64 (x5 + 2)) : Int).toNat))⟩ : S39)]) (wrap64 ((wrap64 (x5 + 2)) + (wrap64 (rd x0 (wrap64 (x5 + 1))))))) else (none)) else (none)) else (none)) else (none)) else (none)))) else (none)) else (none))))) else (none)) else (some (([] : List (S39)), 2))
def lessorref02_Decode.f (k : Nat) (l0 : List Int) : Option ((List (S39)) × Int) := if (l0.length : Int) > 1024 then (some (([] : List (S39)), 2)) else (lessorref02_Decode.l0 k l0 ([] : List (S39)) 0)
theorem lessorref02_Decode.mono_l : ∀ k, (∀ y0 y1 y2, LeO (lessorref02_Decode.l0 k y0 y1 y2) (lessorref02_Decode.l0 (k + 1) y0 y1 y2))
 | 0 => fun _ _ _ r h => by simp [lessorref02_Decode.l0] at h
 | k + 1 => by
  have ih0 := lessorref02_Decode.mono_l k
  ·intro y0 y1 y2
   unfold lessorref02_Decode.l0
   repeat' first
   | (with_reducible exact ih0 _ _ _)
   | (with_reducible exact lessorref02_zero.mono _ _)
   | (with_reducible exact LeO.refl _)
   | (with_reducible exact LeO.none _)
   | (with_reducible refine LeO.ite ?_ ?_)
   | (with_reducible refine LeO.bind ?_ (fun _ => ?_))
   | exact ih0 _ _ _
   | exact lessorref02_zero.mono _ _
   | exact LeO.none _
   | refine LeO.ite ?_ ?_
   | refine LeO.bind ?_ (fun _ => ?_)
theorem lessorref02_Decode.mono : ∀ a0 k, LeO (lessorref02_Decode.f k a0) (lessorref02_Decode.f (k + 1) a0) := by
 intro a0 k
 have ih0 := lessorref02_Decode.mono_l k
 unfold lessorref02_Decode.f
 repeat' first
   | (with_reducible exact ih0 _ _ _)
   | (with_reducible exact lessorref02_zero.mono _ _)
   | (with_reducible exact LeO.refl _)
   | (with_reducible exact LeO.none _)
   | (with_reducible refine LeO.ite ?_ ?_)
   | (with_reducible refine LeO.bind ?_ (fun _ => ?_))
   | exact ih0 _ _ _
   | exact lessorref02_zero.mono _ _
   | exact LeO.none _
   | refine LeO.ite ?_ ?_
   | refine LeO.bind ?_ (fun _ => ?_)
def lessorref02_Decode.T15 : Bool × List (List Nat × List Nat) := (true, [([], []), ([], []), ([], []), ([1, 2], [1, 2]), ([3], [3]), ([4], [4]), ([], []), ([], []), ([], []), ([8], [8]), ([], []), ([10], [10]), ([], []), ([], []), ([13], [13]), ([12, 14], [12, 14]), ([15], [15]), ([16], [16]), ([11, 17], [11, 17]), ([7, 9, 18], [7, 9, 18]), ([6, 19], [6, 19]), ([5, 20], [5, 20]), ([21], [21]), ([0, 22, 20], [0, 22]), ([23, 23, 0, 1, 2, 3, 4, 5, 6, 7, 8, 9, 10, 11, 12, 13, 14, 15, 16, 17, 18, 19, 20, 21, 22, 23], [0, 23])])
def lessorref02_Decode.B15 : List Nat := [0, 0, 0, 6, 14, 30, 0, 0, 0, 256, 0, 1024, 0, 0, 8192, 28672, 61440, 126976, 261120, 524160, 1048512, 2097150, 4194302, 8388607, 16777215]
theorem lessorref02_Decode.tab15 : rtab .any (opsOf Tryd.f15 15) = lessorref02_Decode.T15 := by kernel_rfl
theorem lessorref02_Decode.bits15 : waitsOk lessorref02_Decode.T15.2 lessorref02_Decode.B15 = true := by kernel_rfl
set_option maxHeartbeats 8000000 in
set_option maxRecDepth 100000 in
theorem lessorref02_Decode.calls (k : Nat) (A0 : Option Addr) (c0 : Nat) (l0 : List Int) (r1 : List (S39)) (r2 : Int) (w : World) (hr0 : Kd.C (Kd.int .u8) w A0 l0.length l0) (hc0 : l0.length ≤ c0) (h : lessorref02_Decode.f k l0 = some (r1, r2)) :
  Calls Tryd.prog 15 #[.slice A0 l0.length c0] w fun e w' => ∃ v0_ : Value, e = .returned (.tuple #[v0_, .int .i64 r2]) ∧ Kd.S k39 39 w' w.heap.size (fun _ => True) v0_ r1 ∧ Below w.heap.size w w' := by
 have hu39 := Tryd.underlying39
 have HR0 := Aside0.mk hr0
 have HC0 := Aside0.mk hc0
 clear hr0 hc0
 have HB := Aside0.mk (Below.refl w.heap.size w)
 have H : (if (l0.length : Int) > 1024 then (some (([] : List (S39)), 2)) else (lessorref02_Decode.l0 k l0 ([] : List (S39)) 0)) = some (r1, r2) := h
 clear h
 by_cases c2 : (l0.length : Int) > 1024
 ·rw [if_pos c2] at H
  have c2b0 : decide (1024 < (l0.length : Int)) = true := decide_eq_true c2
  have c2b1 : decide (1024 < l0.length) = true := decide_eq_true (by omega)
  clear c2
  simp only [Option.some.injEq, Prod.mk.injEq] at H
  obtain ⟨rfl, rfl⟩ := H
  go_enter Tryd.func15, Tryd.ntmps15
  go_wp2
  go_ret2
  exact ⟨_, by first | rfl | (simp [errW_none, errW_some] <;> rfl) | (simp [*, errW_none, errW_some] <;> rfl), by first | exact Kd.S_nil _ _ _ _ _ | exact Kd.N_nil _ _ _ _ _ | exact Kd.V_nil _ _ _ _ _ | exact Kd.Q_nil _ _ _ _ _ | exact Kd.R_nil _ _ _ _ _, by repeat (first | (with_reducible first | exact HB.out | apply below_alloc | apply pw_below_drewN | apply below_drew1) | exact HB.out)⟩
 ·rw [if_neg c2] at H
  have c2b0 : decide (1024 < (l0.length : Int)) = false := decide_eq_false c2
  have c2b1 : decide (1024 < l0.length) = false := decide_eq_false (by omega)
  clear c2
  have H' := Aside0.mk H
  clear H
  go_enter Tryd.func15, Tryd.ntmps15
  go_wp2
  go_loopg [4, 5] k (fun kq v4 v5 w' => ∃ (x4_1 : List (S39)) (x5_1 : Int), v5 = .int .i64 x5_1 ∧ Aside0 (lessorref02_Decode.l0 kq l0 x4_1 x5_1 = some (r1, r2)) ∧ Aside0 (kq ≤ k) ∧ Aside0 (Kd.S k39 39 w' w.heap.size (fun _ => True) v4 x4_1) ∧ Aside0 (Below w.heap.size w w'))
  case atStart => exact ⟨(([] : List (S39))), (0), (by first | rfl | (simp; done) | (simp [*]; done)), H', ⟨Nat.le_refl _⟩, ⟨by first | exact Kd.S_nil _ _ _ _ _ | exact Kd.N_nil _ _ _ _ _ | exact Kd.V_nil _ _ _ _ _ | exact Kd.Q_nil _ _ _ _ _ | exact Kd.R_nil _ _ _ _ _⟩, ⟨by repeat (first | (with_reducible first | exact HB.out | apply below_alloc | apply pw_below_drewN | apply below_drew1) | exact HB.out)⟩⟩
  case round =>
   clear H'
   try clear c1
   try clear c2
   try clear c2b0
   try clear c2b1
   try clear p2
   obtain ⟨x4_1, x5_1, rfl, HA, HK1, HO_4, HB⟩ := hrel
   cases gk with
   | zero => exact absurd HA.out (by simp [lessorref02_Decode.l0])
   | succ k1 =>
    have H := HA.out
    clear HA
    simp only [lessorref02_Decode.l0] at H
    by_cases c3 : x5_1 < (l0.length : Int)
    ·rw [if_pos c3] at H
     have c3b0 : decide (x5_1 < (l0.length : Int)) = true := decide_eq_true c3
     clear c3
     by_cases c4 : 0 ≤ x5_1
     ·rw [if_pos c4] at H
      have c4b0 : decide (0 ≤ x5_1) = true := decide_eq_true c4
      clear c4
      by_cases c5 : (rd l0 x5_1) = 0
      ·rw [if_pos c5] at H
       have c5b0 : ((rd l0 x5_1) == 0) = true := beq_iff_eq.mpr c5
       have c5b1 : ((rd l0 x5_1) != 0) = false := bne_eq_false_iff_eq.mpr c5
       clear c5
       have H' := Aside0.mk H
       clear H
       have p261 : 0 ≤ (x5_1 : Int) := of_decide_eq_true (by first | (with_reducible assumption) | assumption)
       have q261 : x5_1 < (l0.length : Int) := of_decide_eq_true (by first | (with_reducible assumption) | assumption)
       obtain ⟨ad261, e261, hx261_0⟩ := Kd.at_int HR0.out x5_1 p261 q261
       cases e261
       replace hx261_0 := (HB.out.cell (World.block_lt_of_cell? w _ hx261_0)).trans hx261_0
       replace p261 := eq_true p261
       replace q261 := eq_true q261
       go_wp2
       go_roundg k1
       case measure => have := HK1.out; omega
       case rel => exact ⟨(x4_1), (wrap64 (x5_1 + 1)), (by first | rfl | (simp; done) | (simp [*]; done)), H', ⟨by have := HK1.out; omega⟩, ⟨by (with_reducible repeat (first | apply Kd.S_alloc | apply Kd.S_drewN | apply Kd.S_drew)); exact HO_4.out⟩, ⟨by repeat (first | (with_reducible first | exact HB.out | apply below_alloc | apply pw_below_drewN | apply below_drew1) | exact HB.out)⟩⟩
      ·rw [if_neg c5] at H
       have c5b0 : ((rd l0 x5_1) == 0) = false := beq_eq_false_iff_ne.mpr c5
       have c5b1 : ((rd l0 x5_1) != 0) = true := bne_iff_ne.mpr c5
       by_cases c6 : (rd l0 x5_1) = 255
       ·rw [if_pos c6] at H
        have c6b0 : ((rd l0 x5_1) == 255) = true := beq_iff_eq.mpr c6
        have c6b1 : ((rd l0 x5_1) != 255) = false := bne_eq_false_iff_eq.mpr c6
        clear c6
        obtain ⟨ji7, hji7⟩ : ∃ j_ : Int, (wrap64 (x5_1 + 1)) = j_ := ⟨_, rfl⟩
        replace H : (if 0 ≤ (ji7) then (if (ji7) ≤ (l0.length : Int) then ((lessorref02_zero.f k1 (l0.drop ((ji7) : Int).toNat)).bind fun t264 => (if t264 = true then (some (x4_1, 0)) else (some (([] : List (S39)), 2)))) else (none)) else (none)) = some (r1, r2) := by first | (rw [hji7] at H; exact H) | (simp only [hji7] at H ⊢; exact H)
        have hji7w : (IntKind.i64.wrap (x5_1 + 1)) = ji7 := (i64_w _).trans hji7
        by_cases c8 : 0 ≤ (ji7)
        ·rw [if_pos c8] at H
         have c8b0 := eq_true c8
         have c8b1 : decide (0 ≤ (ji7)) = true := decide_eq_true c8
         clear c8
         by_cases c9 : (ji7) ≤ (l0.length : Int)
         ·rw [if_pos c9] at H
          have c9b0 := eq_true c9
          have c9b1 : decide ((ji7) ≤ (l0.length : Int)) = true := decide_eq_true c9
          clear c9
          replace H := Option.bind_eq_some_iff.mp H
          obtain ⟨t264, A100, H⟩ := H
          replace H : (if t264 = true then (some (x4_1, 0)) else (some (([] : List (S39)), 2))) = some (r1, r2) := H
          have A10 := Aside0.mk A100
          clear A100
          by_cases c11 : t264 = true
          ·subst c11
           have H1 : (some (x4_1, 0)) = some (r1, r2) := by rw [if_pos rfl] at H; exact H
           clear H
           have H := H1
           clear H1
           simp only [Option.some.injEq, Prod.mk.injEq] at H
           obtain ⟨rfl, rfl⟩ := H
           have p261 : 0 ≤ (x5_1 : Int) := of_decide_eq_true (by first | (with_reducible assumption) | assumption)
           have q261 : x5_1 < (l0.length : Int) := of_decide_eq_true (by first | (with_reducible assumption) | assumption)
           obtain ⟨ad261, e261, hx261_0⟩ := Kd.at_int HR0.out x5_1 p261 q261
           cases e261
           replace hx261_0 := (HB.out.cell (World.block_lt_of_cell? w _ hx261_0)).trans hx261_0
           replace p261 := eq_true p261
           replace q261 := eq_true q261
           have p262 : 0 ≤ (x5_1 : Int) := of_decide_eq_true (by first | (with_reducible assumption) | assumption)
           have q262 : x5_1 < (l0.length : Int) := of_decide_eq_true (by first | (with_reducible assumption) | assumption)
           obtain ⟨ad262, e262, hx262_0⟩ := Kd.at_int HR0.out x5_1 p262 q262
           obtain rfl : ad261 = ad262 := (by injection e262)
           replace hx262_0 := (HB.out.cell (World.block_lt_of_cell? w _ hx262_0)).trans hx262_0
           replace p262 := eq_true p262
           replace q262 := eq_true q262
           obtain ⟨i012, hi012, _, hsz12, _⟩ := info_parts info5
           obtain ⟨A12, hcut12, hA12, hC12⟩ := print_drop_of (P := Tryd.prog) (Value.int .u8) 0 22 5 .i64 Tryd.underlying22 hi012 hsz12 (some ad261) c0 l0 (ji7) (of_decide_eq_true (by first | (with_reducible assumption) | assumption)) (of_decide_eq_true (by first | (with_reducible assumption) | assumption)) HC0.out
           have HR263 := Aside0.mk (Kd.C_of_reads (h1 := fun _ => rfl) (hA12 _ (Kd.reads_of_C HR0.out)))
           have HC263 := Aside0.mk hC12
           clear hA12 hC12 hi012 hsz12
           go_wp2_with (first | ((with_reducible refine gate_callee (f := 33) rfl ?_); refine goesL_ (some 30) rfl rfl Tryd.func33 (by kernel_rfl) rfl #[.slice A12 (l0.drop ((ji7) : Int).toNat).length (c0 - (ji7).toNat)] rfl (by (try simp only [List.map_toArray, List.map_cons, List.map_nil]); first | done | (rw [show (l0.drop ((ji7) : Int).toNat).length = (l0.length - (ji7).toNat) from List.length_drop] <;> rfl) | (simp only [hji7]; rfl) | rfl | (simp only [List.length_drop, List.length_take]; rfl)) ?_; (with_reducible refine (lessorref02_zero.calls k1 _ _ (l0.drop ((ji7) : Int).toNat) true _ ?side1_1 ?side2_1 A10.out).mono ?_); (case side1_1 => repeat (first | exact (Kd.C_below HR263.out HB.out) | exact (Kd.C_below (Aside0.out (by assumption)) HB.out) | (with_reducible refine Kd.C_alloc ?_ _) | (with_reducible refine Kd.C_drewN ?_ _) | (with_reducible refine Kd.C_drew ?_))); (case side2_1 => exact HC263.out); rintro e w' ⟨rfl, ⟨nd, rfl⟩⟩; refine ⟨_, rfl, ?_⟩))
           go_ret2
           exact ⟨_, by first | rfl | (simp [errW_none, errW_some] <;> rfl) | (simp only [← hji7]; first | rfl | (simp [errW_none, errW_some] <;> rfl)) | (simp [*, errW_none, errW_some] <;> rfl), by (with_reducible repeat (first | apply Kd.S_alloc | apply Kd.S_drewN | apply Kd.S_drew)); exact HO_4.out, by repeat (first | (with_reducible first | exact HB.out | apply below_alloc | apply pw_below_drewN | apply below_drew1) | exact HB.out)⟩
          ·replace c11 := Bool.eq_false_iff.mpr c11
           subst c11
           have H1 : (some (([] : List (S39)), 2)) = some (r1, r2) := by rw [if_neg (show ¬ (false = true) by decide)] at H; exact H
           clear H
           have H := H1
           clear H1
           simp only [Option.some.injEq, Prod.mk.injEq] at H
           obtain ⟨rfl, rfl⟩ := H
           have p261 : 0 ≤ (x5_1 : Int) := of_decide_eq_true (by first | (with_reducible assumption) | assumption)
           have q261 : x5_1 < (l0.length : Int) := of_decide_eq_true (by first | (with_reducible assumption) | assumption)
           obtain ⟨ad261, e261, hx261_0⟩ := Kd.at_int HR0.out x5_1 p261 q261
           cases e261
           replace hx261_0 := (HB.out.cell (World.block_lt_of_cell? w _ hx261_0)).trans hx261_0
           replace p261 := eq_true p261
           replace q261 := eq_true q261
           have p262 : 0 ≤ (x5_1 : Int) := of_decide_eq_true (by first | (with_reducible assumption) | assumption)
           have q262 : x5_1 < (l0.length : Int) := of_decide_eq_true (by first | (with_reducible assumption) | assumption)
           obtain ⟨ad262, e262, hx262_0⟩ := Kd.at_int HR0.out x5_1 p262 q262
           obtain rfl : ad261 = ad262 := (by injection e262)
           replace hx262_0 := (HB.out.cell (World.block_lt_of_cell? w _ hx262_0)).trans hx262_0
           replace p262 := eq_true p262
           replace q262 := eq_true q262
           obtain ⟨i013, hi013, _, hsz13, _⟩ := info_parts info5
           obtain ⟨A13, hcut13, hA13, hC13⟩ := print_drop_of (P := Tryd.prog) (Value.int .u8) 0 22 5 .i64 Tryd.underlying22 hi013 hsz13 (some ad261) c0 l0 (ji7) (of_decide_eq_true (by first | (with_reducible assumption) | assumption)) (of_decide_eq_true (by first | (with_reducible assumption) | assumption)) HC0.out
           have HR263 := Aside0.mk (Kd.C_of_reads (h1 := fun _ => rfl) (hA13 _ (Kd.reads_of_C HR0.out)))
           have HC263 := Aside0.mk hC13
           clear hA13 hC13 hi013 hsz13
           go_wp2_with (first | ((with_reducible refine gate_callee (f := 33) rfl ?_); refine goesL_ (some 30) rfl rfl Tryd.func33 (by kernel_rfl) rfl #[.slice A13 (l0.drop ((ji7) : Int).toNat).length (c0 - (ji7).toNat)] rfl (by (try simp only [List.map_toArray, List.map_cons, List.map_nil]); first | done | (rw [show (l0.drop ((ji7) : Int).toNat).length = (l0.length - (ji7).toNat) from List.length_drop] <;> rfl) | (simp only [hji7]; rfl) | rfl | (simp only [List.length_drop, List.length_take]; rfl)) ?_; (with_reducible refine (lessorref02_zero.calls k1 _ _ (l0.drop ((ji7) : Int).toNat) false _ ?side1_2 ?side2_2 A10.out).mono ?_); (case side1_2 => repeat (first | exact (Kd.C_below HR263.out HB.out) | exact (Kd.C_below (Aside0.out (by assumption)) HB.out) | (with_reducible refine Kd.C_alloc ?_ _) | (with_reducible refine Kd.C_drewN ?_ _) | (with_reducible refine Kd.C_drew ?_))); (case side2_2 => exact HC263.out); rintro e w' ⟨rfl, ⟨nd, rfl⟩⟩; refine ⟨_, rfl, ?_⟩))
           go_ret2
           exact ⟨_, by first | rfl | (simp [errW_none, errW_some] <;> rfl) | (simp only [← hji7]; first | rfl | (simp [errW_none, errW_some] <;> rfl)) | (simp [*, errW_none, errW_some] <;> rfl), by first | exact Kd.S_nil _ _ _ _ _ | exact Kd.N_nil _ _ _ _ _ | exact Kd.V_nil _ _ _ _ _ | exact Kd.Q_nil _ _ _ _ _ | exact Kd.R_nil _ _ _ _ _, by repeat (first | (with_reducible first | exact HB.out | apply below_alloc | apply pw_below_drewN | apply below_drew1) | exact HB.out)⟩
         ·rw [if_neg c9] at H
          exact absurd H (by simp)
        ·rw [if_neg c8] at H
         exact absurd H (by simp)
       ·rw [if_neg c6] at H
        have c6b0 : ((rd l0 x5_1) == 255) = false := beq_eq_false_iff_ne.mpr c6
        have c6b1 : ((rd l0 x5_1) != 255) = true := bne_iff_ne.mpr c6
        by_cases c14 : (wrap64 (x5_1 + 1)) ≥ (l0.length : Int)
        ·rw [if_pos c14] at H
         have c14b0 : decide ((l0.length : Int) ≤ (wrap64 (x5_1 + 1))) = true := decide_eq_true c14
         clear c14
         simp only [Option.some.injEq, Prod.mk.injEq] at H
         obtain ⟨rfl, rfl⟩ := H
         have p261 : 0 ≤ (x5_1 : Int) := of_decide_eq_true (by first | (with_reducible assumption) | assumption)
         have q261 : x5_1 < (l0.length : Int) := of_decide_eq_true (by first | (with_reducible assumption) | assumption)
         obtain ⟨ad261, e261, hx261_0⟩ := Kd.at_int HR0.out x5_1 p261 q261
         cases e261
         replace hx261_0 := (HB.out.cell (World.block_lt_of_cell? w _ hx261_0)).trans hx261_0
         replace p261 := eq_true p261
         replace q261 := eq_true q261
         have p262 : 0 ≤ (x5_1 : Int) := of_decide_eq_true (by first | (with_reducible assumption) | assumption)
         have q262 : x5_1 < (l0.length : Int) := of_decide_eq_true (by first | (with_reducible assumption) | assumption)
         obtain ⟨ad262, e262, hx262_0⟩ := Kd.at_int HR0.out x5_1 p262 q262
         obtain rfl : ad261 = ad262 := (by injection e262)
         replace hx262_0 := (HB.out.cell (World.block_lt_of_cell? w _ hx262_0)).trans hx262_0
         replace p262 := eq_true p262
         replace q262 := eq_true q262
         go_wp2
         go_ret2
         exact ⟨_, by first | rfl | (simp [errW_none, errW_some] <;> rfl) | (simp [*, errW_none, errW_some] <;> rfl), by first | exact Kd.S_nil _ _ _ _ _ | exact Kd.N_nil _ _ _ _ _ | exact Kd.V_nil _ _ _ _ _ | exact Kd.Q_nil _ _ _ _ _ | exact Kd.R_nil _ _ _ _ _, by repeat (first | (with_reducible first | exact HB.out | apply below_alloc | apply pw_below_drewN | apply below_drew1) | exact HB.out)⟩
        ·rw [if_neg c14] at H
         have c14b0 : decide ((l0.length : Int) ≤ (wrap64 (x5_1 + 1))) = false := decide_eq_false c14
         clear c14
         obtain ⟨ji15, hji15⟩ : ∃ j_ : Int, (wrap64 (x5_1 + 1)) = j_ := ⟨_, rfl⟩
         replace H : (if 0 ≤ (ji15) then (if (ji15) < (l0.length : Int) then (if (wrap64 ((wrap64 (x5_1 + 2)) + (wrap64 (rd l0 (ji15))))) > (l0.length : Int) then (some (([] : List (S39)), 2)) else ((some (([] : List Int) : List Int)).bind fun y267 => (if 0 ≤ (wrap64 (x5_1 + 2)) then (if (wrap64 (x5_1 + 2)) ≤ (wrap64 ((wrap64 (x5_1 + 2)) + (wrap64 (rd l0 (ji15))))) then (if (wrap64 ((wrap64 (x5_1 + 2)) + (wrap64 (rd l0 (ji15))))) ≤ (l0.length : Int) then (if y267.length + ((l0.take ((wrap64 ((wrap64 (x5_1 + 2)) + (wrap64 (rd l0 (ji15))))) : Int).toNat).drop ((wrap64 (x5_1 + 2)) : Int).toNat).length < 140737488355328 then (if x4_1.length < 4398046511104 then (lessorref02_Decode.l0 k1 l0 (x4_1 ++ [(⟨wrap64 (rd l0 x5_1), (y267 ++ ((l0.take ((wrap64 ((wrap64 (x5_1 + 2)) + (wrap64 (rd l0 (ji15))))) : Int).toNat).drop ((wrap64 (x5_1 + 2)) : Int).toNat))⟩ : S39)]) (wrap64 ((wrap64 (x5_1 + 2)) + (wrap64 (rd l0 (ji15)))))) else (none)) else (none)) else (none)) else (none)) else (none)))) else (none)) else (none)) = some (r1, r2) := by first | (rw [hji15] at H; exact H) | (simp only [hji15] at H ⊢; exact H)
         (try rw [hji15] at c14b0)
         have hji15w : (IntKind.i64.wrap (x5_1 + 1)) = ji15 := (i64_w _).trans hji15
         by_cases c16 : 0 ≤ (ji15)
         ·rw [if_pos c16] at H
          have c16b0 : decide (0 ≤ (ji15)) = true := decide_eq_true c16
          clear c16
          by_cases c17 : (ji15) < (l0.length : Int)
          ·rw [if_pos c17] at H
           have c17b0 : decide ((ji15) < (l0.length : Int)) = true := decide_eq_true c17
           clear c17
           by_cases c18 : (wrap64 ((wrap64 (x5_1 + 2)) + (wrap64 (rd l0 (ji15))))) > (l0.length : Int)
           ·rw [if_pos c18] at H
            have c18b0 : decide ((l0.length : Int) < (wrap64 ((wrap64 (x5_1 + 2)) + (wrap64 (rd l0 (ji15)))))) = true := decide_eq_true c18
            clear c18
            simp only [Option.some.injEq, Prod.mk.injEq] at H
            obtain ⟨rfl, rfl⟩ := H
            have p261 : 0 ≤ (x5_1 : Int) := of_decide_eq_true (by first | (with_reducible assumption) | assumption)
            have q261 : x5_1 < (l0.length : Int) := of_decide_eq_true (by first | (with_reducible assumption) | assumption)
            obtain ⟨ad261, e261, hx261_0⟩ := Kd.at_int HR0.out x5_1 p261 q261
            cases e261
            replace hx261_0 := (HB.out.cell (World.block_lt_of_cell? w _ hx261_0)).trans hx261_0
            replace p261 := eq_true p261
            replace q261 := eq_true q261
            have p262 : 0 ≤ (x5_1 : Int) := of_decide_eq_true (by first | (with_reducible assumption) | assumption)
            have q262 : x5_1 < (l0.length : Int) := of_decide_eq_true (by first | (with_reducible assumption) | assumption)
            obtain ⟨ad262, e262, hx262_0⟩ := Kd.at_int HR0.out x5_1 p262 q262
            obtain rfl : ad261 = ad262 := (by injection e262)
            replace hx262_0 := (HB.out.cell (World.block_lt_of_cell? w _ hx262_0)).trans hx262_0
            replace p262 := eq_true p262
            replace q262 := eq_true q262
            have p265 : 0 ≤ ((ji15) : Int) := of_decide_eq_true (by first | (with_reducible assumption) | assumption)
            have q265 : (ji15) < (l0.length : Int) := of_decide_eq_true (by first | (with_reducible assumption) | assumption)
            obtain ⟨ad265, e265, hx265_0⟩ := Kd.at_int HR0.out (ji15) p265 q265
            obtain rfl : ad261 = ad265 := (by injection e265)
            replace hx265_0 := (HB.out.cell (World.block_lt_of_cell? w _ hx265_0)).trans hx265_0
            replace p265 := eq_true p265
            replace q265 := eq_true q265
            go_wp2
            go_ret2
            exact ⟨_, by first | rfl | (simp [errW_none, errW_some] <;> rfl) | (simp only [← hji15]; first | rfl | (simp [errW_none, errW_some] <;> rfl)) | (simp [*, errW_none, errW_some] <;> rfl), by first | exact Kd.S_nil _ _ _ _ _ | exact Kd.N_nil _ _ _ _ _ | exact Kd.V_nil _ _ _ _ _ | exact Kd.Q_nil _ _ _ _ _ | exact Kd.R_nil _ _ _ _ _, by repeat (first | (with_reducible first | exact HB.out | apply below_alloc | apply pw_below_drewN | apply below_drew1) | exact HB.out)⟩
           ·rw [if_neg c18] at H
            have c18b0 : decide ((l0.length : Int) < (wrap64 ((wrap64 (x5_1 + 2)) + (wrap64 (rd l0 (ji15)))))) = false := decide_eq_false c18
            clear c18
            obtain ⟨y267, hy267⟩ : ∃ y_ : List Int, y_ = (([] : List Int)) := ⟨_, rfl⟩
            replace H : (if 0 ≤ (wrap64 (x5_1 + 2)) then (if (wrap64 (x5_1 + 2)) ≤ (wrap64 ((wrap64 (x5_1 + 2)) + (wrap64 (rd l0 (ji15))))) then (if (wrap64 ((wrap64 (x5_1 + 2)) + (wrap64 (rd l0 (ji15))))) ≤ (l0.length : Int) then (if y267.length + ((l0.take ((wrap64 ((wrap64 (x5_1 + 2)) + (wrap64 (rd l0 (ji15))))) : Int).toNat).drop ((wrap64 (x5_1 + 2)) : Int).toNat).length < 140737488355328 then (if x4_1.length < 4398046511104 then (lessorref02_Decode.l0 k1 l0 (x4_1 ++ [(⟨wrap64 (rd l0 x5_1), (y267 ++ ((l0.take ((wrap64 ((wrap64 (x5_1 + 2)) + (wrap64 (rd l0 (ji15))))) : Int).toNat).drop ((wrap64 (x5_1 + 2)) : Int).toNat))⟩ : S39)]) (wrap64 ((wrap64 (x5_1 + 2)) + (wrap64 (rd l0 (ji15)))))) else (none)) else (none)) else (none)) else (none)) else (none)) = some (r1, r2) := by first | (rw [hy267]; with_reducible exact H) | (have H2_ := (Option.bind_some _ _).symm.trans H; rw [hy267]; with_reducible exact H2_) | (have H2_ := (Option.bind_some _ _).symm.trans H; with_reducible exact H2_) | with_reducible exact H | (rw [hy267]; exact H) | exact H
            have Ny267 := Aside0.mk hy267
            clear hy267
            obtain ⟨ji19, hji19⟩ : ∃ j_ : Int, (wrap64 (x5_1 + 2)) = j_ := ⟨_, rfl⟩
            replace H : (if 0 ≤ (ji19) then (if (ji19) ≤ (wrap64 ((ji19) + (wrap64 (rd l0 (ji15))))) then (if (wrap64 ((ji19) + (wrap64 (rd l0 (ji15))))) ≤ (l0.length : Int) then (if y267.length + ((l0.take ((wrap64 ((ji19) + (wrap64 (rd l0 (ji15))))) : Int).toNat).drop ((ji19) : Int).toNat).length < 140737488355328 then (if x4_1.length < 4398046511104 then (lessorref02_Decode.l0 k1 l0 (x4_1 ++ [(⟨wrap64 (rd l0 x5_1), (y267 ++ ((l0.take ((wrap64 ((ji19) + (wrap64 (rd l0 (ji15))))) : Int).toNat).drop ((ji19) : Int).toNat))⟩ : S39)]) (wrap64 ((ji19) + (wrap64 (rd l0 (ji15)))))) else (none)) else (none)) else (none)) else (none)) else (none)) = some (r1, r2) := by first | (rw [hji19] at H; exact H) | (simp only [hji19] at H ⊢; exact H)
            (try rw [hji19] at c18b0)
            have hji19w : (IntKind.i64.wrap (x5_1 + 2)) = ji19 := (i64_w _).trans hji19
            by_cases c20 : 0 ≤ (ji19)
            ·rw [if_pos c20] at H
             have c20b0 := eq_true c20
             have c20b1 : decide (0 ≤ (ji19)) = true := decide_eq_true c20
             clear c20
             by_cases c21 : (ji19) ≤ (wrap64 ((ji19) + (wrap64 (rd l0 (ji15)))))
             ·rw [if_pos c21] at H
              have c21b0 := eq_true c21
              have c21b1 : decide ((ji19) ≤ (wrap64 ((ji19) + (wrap64 (rd l0 (ji15)))))) = true := decide_eq_true c21
              by_cases c22 : (wrap64 ((ji19) + (wrap64 (rd l0 (ji15))))) ≤ (l0.length : Int)
              ·rw [if_pos c22] at H
               have c22b0 := eq_true c22
               have c22b1 : decide ((wrap64 ((ji19) + (wrap64 (rd l0 (ji15))))) ≤ (l0.length : Int)) = true := decide_eq_true c22
               by_cases c23 : y267.length + ((l0.take ((wrap64 ((ji19) + (wrap64 (rd l0 (ji15))))) : Int).toNat).drop ((ji19) : Int).toNat).length < 140737488355328
               ·rw [if_pos c23] at H
                have LMc23 := Aside0.mk c23
                clear c23
                obtain ⟨y272, hy272⟩ : ∃ y_ : List Int, y_ = (y267 ++ ((l0.take ((wrap64 ((ji19) + (wrap64 (rd l0 (ji15))))) : Int).toNat).drop ((ji19) : Int).toNat)) := ⟨_, rfl⟩
                replace H : (if x4_1.length < 4398046511104 then (lessorref02_Decode.l0 k1 l0 (x4_1 ++ [(⟨wrap64 (rd l0 x5_1), y272⟩ : S39)]) (wrap64 ((ji19) + (wrap64 (rd l0 (ji15)))))) else (none)) = some (r1, r2) := by first | (rw [hy272]; with_reducible exact H) | (have H2_ := (Option.bind_some _ _).symm.trans H; rw [hy272]; with_reducible exact H2_) | (have H2_ := (Option.bind_some _ _).symm.trans H; with_reducible exact H2_) | with_reducible exact H | (rw [hy272]; exact H) | exact H
                have Ny272 := Aside0.mk hy272
                clear hy272
                by_cases c24 : x4_1.length < 4398046511104
                ·rw [if_pos c24] at H
                 have LMc24 := Aside0.mk c24
                 clear c24
                 obtain ⟨y275, hy275⟩ : ∃ y_ : List (S39), y_ = (x4_1 ++ [(⟨wrap64 (rd l0 x5_1), y272⟩ : S39)]) := ⟨_, rfl⟩
                 replace H : (lessorref02_Decode.l0 k1 l0 y275 (wrap64 ((ji19) + (wrap64 (rd l0 (ji15)))))) = some (r1, r2) := by first | (rw [hy275]; with_reducible exact H) | (have H2_ := (Option.bind_some _ _).symm.trans H; rw [hy275]; with_reducible exact H2_) | (have H2_ := (Option.bind_some _ _).symm.trans H; with_reducible exact H2_) | with_reducible exact H | (rw [hy275]; exact H) | exact H
                 have Ny275 := Aside0.mk hy275
                 clear hy275
                 have H' := Aside0.mk H
                 clear H
                 have p261 : 0 ≤ (x5_1 : Int) := of_decide_eq_true (by first | (with_reducible assumption) | assumption)
                 have q261 : x5_1 < (l0.length : Int) := of_decide_eq_true (by first | (with_reducible assumption) | assumption)
                 obtain ⟨ad261, e261, hx261_0⟩ := Kd.at_int HR0.out x5_1 p261 q261
                 cases e261
                 replace hx261_0 := (HB.out.cell (World.block_lt_of_cell? w _ hx261_0)).trans hx261_0
                 replace p261 := eq_true p261
                 replace q261 := eq_true q261
                 have p262 : 0 ≤ (x5_1 : Int) := of_decide_eq_true (by first | (with_reducible assumption) | assumption)
                 have q262 : x5_1 < (l0.length : Int) := of_decide_eq_true (by first | (with_reducible assumption) | assumption)
                 obtain ⟨ad262, e262, hx262_0⟩ := Kd.at_int HR0.out x5_1 p262 q262
                 obtain rfl : ad261 = ad262 := (by injection e262)
                 replace hx262_0 := (HB.out.cell (World.block_lt_of_cell? w _ hx262_0)).trans hx262_0
                 replace p262 := eq_true p262
                 replace q262 := eq_true q262
                 have p265 : 0 ≤ ((ji15) : Int) := of_decide_eq_true (by first | (with_reducible assumption) | assumption)
                 have q265 : (ji15) < (l0.length : Int) := of_decide_eq_true (by first | (with_reducible assumption) | assumption)
                 obtain ⟨ad265, e265, hx265_0⟩ := Kd.at_int HR0.out (ji15) p265 q265
                 obtain rfl : ad261 = ad265 := (by injection e265)
                 replace hx265_0 := (HB.out.cell (World.block_lt_of_cell? w _ hx265_0)).trans hx265_0
                 replace p265 := eq_true p265
                 replace q265 := eq_true q265
                 try go_wp2
                 have n0_ := Aside0.mk (Kd.S_drew HO_4.out)
                 have n1_ := Aside0.mk (below_drew1 HB.out)
                 clear HO_4
                 clear HB
                 have HO_4 := n0_
                 have HB := n1_
                 clear n0_ n1_
                 have p266 : 0 ≤ (x5_1 : Int) := of_decide_eq_true (by first | (with_reducible assumption) | assumption)
                 have q266 : x5_1 < (l0.length : Int) := of_decide_eq_true (by first | (with_reducible assumption) | assumption)
                 obtain ⟨ad266, e266, hx266_0⟩ := Kd.at_int HR0.out x5_1 p266 q266
                 have hw266_0 := hx266_0
                 obtain rfl : ad261 = ad266 := (by injection e266)
                 replace hx266_0 := (HB.out.cell (World.block_lt_of_cell? w _ hx266_0)).trans hx266_0
                 replace p266 := eq_true p266
                 replace q266 := eq_true q266
                 have p270 : 0 ≤ ((ji15) : Int) := of_decide_eq_true (by first | (with_reducible assumption) | assumption)
                 have q270 : (ji15) < (l0.length : Int) := of_decide_eq_true (by first | (with_reducible assumption) | assumption)
                 obtain ⟨ad270, e270, hx270_0⟩ := Kd.at_int HR0.out (ji15) p270 q270
                 have hw270_0 := hx270_0
                 obtain rfl : ad261 = ad270 := (by injection e270)
                 replace hx270_0 := (HB.out.cell (World.block_lt_of_cell? w _ hx270_0)).trans hx270_0
                 replace p270 := eq_true p270
                 replace q270 := eq_true q270
                 obtain ⟨i026, hi026, _, hsz26, _⟩ := info_parts info5
                 obtain ⟨A26, hcut26, hA26, hC26⟩ := print_mid_of (P := Tryd.prog) (Value.int .u8) 0 22 5 .i64 .i64 Tryd.underlying22 hi026 hsz26 (some ad261) c0 l0 (ji19) (wrap64 ((ji19) + (wrap64 (rd l0 (ji15))))) (of_decide_eq_true (by first | (with_reducible assumption) | assumption)) (by first | omega | exact of_decide_eq_true (by first | (with_reducible assumption) | assumption)) (of_decide_eq_true (by first | (with_reducible assumption) | assumption)) HC0.out
                 have HR271 := Aside0.mk (Kd.C_of_reads (h1 := fun _ => rfl) (hA26 _ (Kd.reads_of_C HR0.out)))
                 have HC271 := Aside0.mk hC26
                 clear hA26 hC26 hi026 hsz26
                 refine start_ (n := 25) (S := fun w' => w'.cell? (ad261.add (x5_1).toNat) = some (.int .u8 (rd l0 x5_1)) ∧ w'.cell? (ad261.add ((ji15)).toNat) = some (.int .u8 (rd l0 (ji15)))) (ds := []) #[false, false, false, false, false, false, false, false, false, false, false, false, false, false, false, false, false, false, false, false, false, false, false, false, false] (by kernel_rfl) rfl rfl ⟨((HB.out.cell (World.block_lt_of_cell? w _ hw266_0)).trans hw266_0), ((HB.out.cell (World.block_lt_of_cell? w _ hw270_0)).trans hw270_0)⟩ (fun hHeld => ?_); refine with_tabW lessorref02_Decode.tab15 lessorref02_Decode.bits15 (fun HT_ HW_ => ?_)
                 generalize wr.drew = w25 at HO_4 HB HR271 hx266_0 hx270_0 hHeld ⊢
                 refine pure_ (i := 0) (N := some 53) (v := ?_) (a' := ?_) #[true, false, false, false, false, false, false, false, false, false, false, false, false, false, false, false, false, false, false, false, false, false, false, false, false] rfl rfl (any_of HT_.out (by kernel_rfl)) (fun _ _ _ h => h) (Or.inl ⟨by rfl, ?_⟩) ?_ ?_
                 rotate_left
                 ·intro w'
                  go_simp
                  with_reducible rfl
                 rotate_left
                 ·simp only [Act.put, List.setIfInBounds_toArray, List.set_cons_zero, List.set_cons_succ, i64_w, i32_w]
                  rfl
                 refine pure_ (i := 1) (N := some 54) (v := ?_) (a' := ?_) #[true, true, false, false, false, false, false, false, false, false, false, false, false, false, false, false, false, false, false, false, false, false, false, false, false] rfl rfl (any_of HT_.out (by kernel_rfl)) (fun _ _ _ h => h) (Or.inl ⟨by rfl, ?_⟩) ?_ ?_
                 rotate_left
                 ·intro w'
                  go_simp
                  with_reducible rfl
                 rotate_left
                 ·simp only [Act.put, List.setIfInBounds_toArray, List.set_cons_zero, List.set_cons_succ, i64_w, i32_w]
                  rfl
                 refine pure_ (i := 2) (N := some 55) (v := ?_) (a' := ?_) #[true, true, true, false, false, false, false, false, false, false, false, false, false, false, false, false, false, false, false, false, false, false, false, false, false] rfl rfl (any_of HT_.out (by kernel_rfl)) (fun _ _ _ h => h) (Or.inl ⟨by rfl, ?_⟩) ?_ ?_
                 rotate_left
                 ·intro w'
                  go_simp
                  with_reducible rfl
                 rotate_left
                 ·simp only [Act.put, List.setIfInBounds_toArray, List.set_cons_zero, List.set_cons_succ, i64_w, i32_w]
                  rfl
                 refine pure_ (i := 3) (N := some 56) (v := ?_) (a' := ?_) #[true, true, true, true, false, false, false, false, false, false, false, false, false, false, false, false, false, false, false, false, false, false, false, false, false] rfl rfl (any_of HT_.out (by kernel_rfl)) (fun _ _ _ h => h) (Or.inl ⟨by rfl, ?_⟩) ?_ ?_
                 rotate_left
                 ·intro w'
                  go_simp
                  with_reducible rfl
                 rotate_left
                 ·simp only [Act.put, List.setIfInBounds_toArray, List.set_cons_zero, List.set_cons_succ, i64_w, i32_w]
                  rfl
                 refine pure_ (i := 7) (N := some 60) (v := ?_) (a' := ?_) #[true, true, true, true, false, false, false, true, false, false, false, false, false, false, false, false, false, false, false, false, false, false, false, false, false] rfl rfl (any_of HT_.out (by kernel_rfl)) (fun _ _ _ h => h) (Or.inl ⟨by rfl, ?_⟩) ?_ ?_
                 rotate_left
                 ·intro w'
                  go_simp
                  with_reducible rfl
                 rotate_left
                 ·simp only [Act.put, List.setIfInBounds_toArray, List.set_cons_zero, List.set_cons_succ, i64_w, i32_w]
                  rfl
                 refine pure_ (i := 8) (N := some 61) (v := ?_) (a' := ?_) #[true, true, true, true, false, false, false, true, true, false, false, false, false, false, false, false, false, false, false, false, false, false, false, false, false] rfl rfl (any_of HT_.out (by kernel_rfl)) (fun _ _ _ h => h) (Or.inl ⟨by rfl, ?_⟩) ?_ ?_
                 rotate_left
                 ·intro w'
                  go_simp
                  with_reducible rfl
                 rotate_left
                 ·simp only [Act.put, List.setIfInBounds_toArray, List.set_cons_zero, List.set_cons_succ, i64_w, i32_w]
                  rfl
                 refine pure_ (i := 9) (N := some 62) (v := ?_) (a' := ?_) #[true, true, true, true, false, false, false, true, true, true, false, false, false, false, false, false, false, false, false, false, false, false, false, false, false] rfl rfl (any_of HT_.out (by kernel_rfl)) (fun _ _ _ h => h) (Or.inl ⟨by rfl, ?_⟩) ?_ ?_
                 rotate_left
                 ·intro w'
                  go_simp
                  with_reducible rfl
                 rotate_left
                 ·simp only [Act.put, List.setIfInBounds_toArray, List.set_cons_zero, List.set_cons_succ, i64_w, i32_w]
                  rfl
                 refine pure_ (i := 10) (N := some 63) (v := ?_) (a' := ?_) #[true, true, true, true, false, false, false, true, true, true, true, false, false, false, false, false, false, false, false, false, false, false, false, false, false] rfl rfl (any_of HT_.out (by kernel_rfl)) (fun _ _ _ h => h) (Or.inl ⟨by rfl, ?_⟩) ?_ ?_
                 rotate_left
                 ·intro w'
                  go_simp
                  with_reducible rfl
                 rotate_left
                 ·simp only [Act.put, List.setIfInBounds_toArray, List.set_cons_zero, List.set_cons_succ, i64_w, i32_w]
                  rfl
                 refine pure_ (i := 11) (N := some 64) (v := ?_) (a' := ?_) #[true, true, true, true, false, false, false, true, true, true, true, true, false, false, false, false, false, false, false, false, false, false, false, false, false] rfl rfl (any_of HT_.out (by kernel_rfl)) (fun _ _ _ h => h) (Or.inl ⟨by rfl, ?_⟩) ?_ ?_
                 rotate_left
                 ·intro w'
                  go_simp
                  with_reducible rfl
                 rotate_left
                 ·simp only [Act.put, List.setIfInBounds_toArray, List.set_cons_zero, List.set_cons_succ, i64_w, i32_w]
                  rfl
                 refine pure_ (i := 12) (N := some 65) (v := ?_) (a' := ?_) #[true, true, true, true, false, false, false, true, true, true, true, true, true, false, false, false, false, false, false, false, false, false, false, false, false] rfl rfl (any_of HT_.out (by kernel_rfl)) (fun _ _ _ h => h) (Or.inl ⟨by rfl, ?_⟩) ?_ ?_
                 rotate_left
                 ·intro w'
                  go_simp
                  with_reducible rfl
                 rotate_left
                 ·simp only [Act.put, List.setIfInBounds_toArray, List.set_cons_zero, List.set_cons_succ, i64_w, i32_w]
                  rfl
                 refine pure_ (i := 13) (N := some 66) (v := ?_) (a' := ?_) #[true, true, true, true, false, false, false, true, true, true, true, true, true, true, false, false, false, false, false, false, false, false, false, false, false] rfl rfl (any_of HT_.out (by kernel_rfl)) (fun _ _ _ h => h) (Or.inl ⟨by rfl, ?_⟩) ?_ ?_
                 rotate_left
                 ·intro w'
                  go_simp
                  with_reducible rfl
                 rotate_left
                 ·simp only [Act.put, List.setIfInBounds_toArray, List.set_cons_zero, List.set_cons_succ, i64_w, i32_w]
                  rfl
                 refine pure_ (i := 14) (N := some 67) (v := ?_) (a' := ?_) #[true, true, true, true, false, false, false, true, true, true, true, true, true, true, true, false, false, false, false, false, false, false, false, false, false] rfl rfl (any_of HT_.out (by kernel_rfl)) (fun _ _ _ h => h) (Or.inl ⟨by rfl, ?_⟩) ?_ ?_
                 rotate_left
                 ·intro w'
                  go_simp
                  with_reducible rfl
                 rotate_left
                 ·simp only [Act.put, List.setIfInBounds_toArray, List.set_cons_zero, List.set_cons_succ, i64_w, i32_w]
                  rfl
                 refine pure_ (i := 15) (N := some 68) (v := ?_) (a' := ?_) #[true, true, true, true, false, false, false, true, true, true, true, true, true, true, true, true, false, false, false, false, false, false, false, false, false] rfl rfl (any_of HT_.out (by kernel_rfl)) (fun _ _ _ h => h) (Or.inl ⟨by rfl, ?_⟩) ?_ ?_
                 rotate_left
                 ·intro w'
                  go_simp
                  with_reducible rfl
                 rotate_left
                 ·simp only [Act.put, List.setIfInBounds_toArray, List.set_cons_zero, List.set_cons_succ, i64_w, i32_w]
                  rfl
                 refine take_ (i := 4) (N := some 57) (v := ?_) (a' := ?_) #[true, true, true, true, true, false, false, true, true, true, true, true, true, true, true, true, false, false, false, false, false, false, false, false, false] rfl rfl (take_ofW HT_.out HW_.out (by kernel_rfl)) (fun _ _ _ h => h) (Or.inl ⟨by rfl, ?_⟩) hHeld ?_ ?_
                 rotate_left
                 ·rintro w' ⟨s0, s1⟩
                  go_simp
                  with_reducible rfl
                 rotate_left
                 ·simp only [Act.put, List.setIfInBounds_toArray, List.set_cons_zero, List.set_cons_succ, i64_w, i32_w]
                  rfl
                 refine pure_ (i := 5) (N := some 58) (v := ?_) (a' := ?_) #[true, true, true, true, true, true, false, true, true, true, true, true, true, true, true, true, false, false, false, false, false, false, false, false, false] rfl rfl (any_of HT_.out (by kernel_rfl)) (fun _ _ _ h => h) (Or.inl ⟨by rfl, ?_⟩) ?_ ?_
                 rotate_left
                 ·intro w'
                  go_simp
                  with_reducible rfl
                 rotate_left
                 ·simp only [Act.put, List.setIfInBounds_toArray, List.set_cons_zero, List.set_cons_succ, i64_w, i32_w]
                  rfl
                 refine take_ (i := 16) (N := some 69) (v := ?_) (a' := ?_) #[true, true, true, true, true, true, false, true, true, true, true, true, true, true, true, true, true, false, false, false, false, false, false, false, false] rfl rfl (take_ofW HT_.out HW_.out (by kernel_rfl)) (fun _ _ _ h => h) (Or.inl ⟨by rfl, ?_⟩) hHeld ?_ ?_
                 rotate_left
                 ·rintro w' ⟨s0, s1⟩
                  go_simp
                  with_reducible rfl
                 rotate_left
                 ·simp only [Act.put, List.setIfInBounds_toArray, List.set_cons_zero, List.set_cons_succ, i64_w, i32_w]
                  rfl
                 refine pure_ (i := 17) (N := some 70) (v := ?_) (a' := ?_) #[true, true, true, true, true, true, false, true, true, true, true, true, true, true, true, true, true, true, false, false, false, false, false, false, false] rfl rfl (any_of HT_.out (by kernel_rfl)) (fun _ _ _ h => h) (Or.inl ⟨by rfl, ?_⟩) ?_ ?_
                 rotate_left
                 ·intro w'
                  go_simp
                  with_reducible rfl
                 rotate_left
                 ·simp only [Act.put, List.setIfInBounds_toArray, List.set_cons_zero, List.set_cons_succ, i64_w, i32_w]
                  rfl
                 refine pure_ (i := 18) (N := some 71) (v := ?_) (a' := ?_) #[true, true, true, true, true, true, false, true, true, true, true, true, true, true, true, true, true, true, true, false, false, false, false, false, false] rfl rfl (any_of HT_.out (by kernel_rfl)) (fun _ _ _ h => h) (Or.inl ⟨by rfl, ?_⟩) ?_ ?_
                 rotate_left
                 ·intro w'
                  go_simp
                  with_reducible rfl
                 rotate_left
                 ·simp only [Act.put, List.setIfInBounds_toArray, List.set_cons_zero, List.set_cons_succ, i64_w, i32_w]
                  rfl
                 refine pure_ (i := 19) (N := some 72) (v := ?_) (a' := ?_) #[true, true, true, true, true, true, false, true, true, true, true, true, true, true, true, true, true, true, true, true, false, false, false, false, false] rfl rfl (any_of HT_.out (by kernel_rfl)) (fun _ _ _ h => h) (Or.inl ⟨by rfl, ?_⟩) ?_ ?_
                 rotate_left
                 ·intro w'
                  go_simp
                  with_reducible rfl
                 rotate_left
                 ·simp only [Act.put, List.setIfInBounds_toArray, List.set_cons_zero, List.set_cons_succ, i64_w, i32_w]
                  rfl
                 refine one_ (i := 6) (N := some 59) #[true, true, true, true, true, true, true, true, true, true, true, true, true, true, true, true, true, true, true, true, false, false, false, false, false] rfl rfl (one_of HT_.out (by kernel_rfl)) (by decide) (fun K hK => ?_)
                 refine Kd.R_lit_step (Kd.int .u8) _ 5 ?hg_3 (N := 59) ?hd_3 (xs := ([] : List Int)) (inner := []) (ok := fun _ => True) (okp := fun _ => True) ?hr_3 ?hp_3 (fun _ hk => hk) trivial (Below.refl _ _) (Nat.le_refl _) (by simp) ?_; (case hd_3 => rfl); (case hg_3 => rfl); (case hr_3 => first | (go_simp; done) | (go_simp; rfl)); (case hp_3 => exact (Reps.none _ _))
                 intro v268 w27 ho28 hb hg_ hnew_
                 clear hg_ hnew_
                 (first | rw [← Ny267.out] at ho28 | (simp only [Int.reduceToNat] at ho28; rw [← Ny267.out] at ho28))
                 have n0_ := Aside0.mk (Kd.S_elder' (by (with_reducible repeat (first | apply Kd.S_alloc | apply Kd.S_drewN | apply Kd.S_drew)); exact HO_4.out) (Kd.R_base ho28) hb)
                 have n1_ := Aside0.mk (Kd.R_lower ho28 (below_size (by repeat (first | (with_reducible first | exact HB.out | apply below_alloc | apply pw_below_drewN | apply below_drew1) | exact HB.out))))
                 have n2_ := Aside0.mk (below_step (by repeat (first | (with_reducible first | exact HB.out | apply below_alloc | apply pw_below_drewN | apply below_drew1) | exact HB.out)) hb)
                 clear HO_4
                 clear HB
                 have HO_4 := n0_
                 have HO269 := n1_
                 have HB := n2_
                 clear n0_ n1_ n2_
                 clear hb ho28
                 refine hK.out _ _ ⟨((HB.out.cell (World.block_lt_of_cell? w _ hw266_0)).trans hw266_0), ((HB.out.cell (World.block_lt_of_cell? w _ hw270_0)).trans hw270_0)⟩ (fun hHeld => ?_)
                 clear hK K
                 refine norm_ (a' := ?_) ?_ ?_
                 rotate_left
                 ·show Act.put _ (some 59) _ = _
                  simp only [Act.put, List.setIfInBounds_toArray, List.set_cons_zero, List.set_cons_succ, i64_w, i32_w]
                  rfl
                 refine one_ (i := 20) (N := some 73) #[true, true, true, true, true, true, true, true, true, true, true, true, true, true, true, true, true, true, true, true, true, false, false, false, false] rfl rfl (one_of HT_.out (by kernel_rfl)) (by decide) (fun K hK => ?_)
                 refine Kd.R_append_rows_step (Kd.int .u8) (w0 := w) w.heap.size (by rfl) (.tmp 59) (.tmp 72) 22 5 (.int .u8 0) 1 rfl Tryd.underlying22 info5 rfl (by decide) (by omega) v268 y267 ((l0.take ((wrap64 ((ji19) + (wrap64 (rd l0 (ji15))))) : Int).toNat).drop ((ji19) : Int).toNat) _ _ _ (fun _ => True) (fun _ => False) rfl rfl ?aO_4 ?aR_4 (fun _ _ h => h) (fun _ h => h.elim) ?aF_4 ?aB_4 ?aS_4 ?aL_4 ?_
                 (case aR_4 => first | (rw [← show ((l0.take ((wrap64 ((ji19) + (wrap64 (rd l0 (ji15))))) : Int).toNat).drop ((ji19) : Int).toNat).length = ((wrap64 ((ji19) + (wrap64 (rd l0 (ji15))))).toNat - (ji19).toNat) from (by rw [List.length_drop, List.length_take]; have h_ : ((wrap64 ((ji19) + (wrap64 (rd l0 (ji15))))) : Int) ≤ (l0.length : Int) := of_decide_eq_true (by first | (with_reducible assumption) | assumption); omega)]; repeat (first | exact (Kd.C_below HR271.out HB.out) | exact (Kd.C_below (Aside0.out (by assumption)) HB.out) | (with_reducible refine Kd.C_alloc ?_ _) | (with_reducible refine Kd.C_drewN ?_ _) | (with_reducible refine Kd.C_drew ?_))) | (repeat (first | exact (Kd.C_below HR271.out HB.out) | exact (Kd.C_below (Aside0.out (by assumption)) HB.out) | (with_reducible refine Kd.C_alloc ?_ _) | (with_reducible refine Kd.C_drewN ?_ _) | (with_reducible refine Kd.C_drew ?_))))
                 (case aB_4 => exact (by repeat (first | (with_reducible first | exact HB.out | apply below_alloc | apply pw_below_drewN | apply below_drew1) | exact HB.out)))
                 (case aF_4 => exact (fun _ _ => trivial))
                 (case aO_4 => exact (by (with_reducible repeat (first | apply Kd.R_alloc | apply Kd.R_drewN | apply Kd.R_drew)); exact HO269.out))
                 (case aS_4 => exact (below_size (by repeat (first | (with_reducible first | exact HB.out | apply below_alloc | apply pw_below_drewN | apply below_drew1) | exact HB.out))))
                 (case aL_4 => have := LMc23.out; have hlx_ := (show ((l0.take ((wrap64 ((ji19) + (wrap64 (rd l0 (ji15))))) : Int).toNat).drop ((ji19) : Int).toNat).length = ((wrap64 ((ji19) + (wrap64 (rd l0 (ji15))))).toNat - (ji19).toNat) from (by rw [List.length_drop, List.length_take]; have h_ : ((wrap64 ((ji19) + (wrap64 (rd l0 (ji15))))) : Int) ≤ (l0.length : Int) := of_decide_eq_true (by first | (with_reducible assumption) | assumption); omega)); omega)
                 intro v273 w29 ho hb hg hat
                 rw [← Ny272.out] at ho
                 have n0_ := Aside0.mk (Kd.S_after (ok := (fun _ => True)) (by (with_reducible repeat (first | apply Kd.S_alloc | apply Kd.S_drewN | apply Kd.S_drew)); exact HO_4.out) hg hat)
                 have n1_ := Aside0.mk (hb)
                 have n2_ := Aside0.mk (ho)
                 clear HO_4
                 clear HB
                 clear HO269
                 have HO_4 := n0_
                 have HB := n1_
                 have HO274 := n2_
                 clear n0_ n1_ n2_
                 clear ho hb hg hat
                 obtain ⟨Ao30, co30, eo30⟩ := Kd.R_slice HO274.out
                 (first | subst eo30 | (injection eo30 with f1_ f2_ f3_; have f4_ := f1_.symm; have f5_ := f3_.symm; clear f1_ f2_ f3_; subst f4_; subst f5_))
                 refine hK.out _ _ ⟨((HB.out.cell (World.block_lt_of_cell? w _ hw266_0)).trans hw266_0), ((HB.out.cell (World.block_lt_of_cell? w _ hw270_0)).trans hw270_0)⟩ (fun hHeld => ?_)
                 clear hK K
                 refine norm_ (a' := ?_) ?_ ?_
                 rotate_left
                 ·show Act.put _ (some 73) _ = _
                  simp only [Act.put, List.setIfInBounds_toArray, List.set_cons_zero, List.set_cons_succ, i64_w, i32_w]
                  rfl
                 refine pure_ (i := 21) (N := some 74) (v := ?_) (a' := ?_) #[true, true, true, true, true, true, true, true, true, true, true, true, true, true, true, true, true, true, true, true, true, true, false, false, false] rfl rfl (any_of HT_.out (by kernel_rfl)) (fun _ _ _ h => h) (Or.inl ⟨by rfl, ?_⟩) ?_ ?_
                 rotate_left
                 ·intro w'
                  go_simp
                  with_reducible rfl
                 rotate_left
                 ·simp only [Act.put, List.setIfInBounds_toArray, List.set_cons_zero, List.set_cons_succ, i64_w, i32_w]
                  rfl
                 refine one_ (i := 22) (N := some 75) #[true, true, true, true, true, true, true, true, true, true, true, true, true, true, true, true, true, true, true, true, true, true, true, false, false] rfl rfl (one_of HT_.out (by kernel_rfl)) (by decide) (fun K hK => ?_)
                 refine value_ (w1 := ?_) (v := ?_) (by rfl) rfl ?_ ?_
                 rotate_left 2
                 ·go_simp
                  constructor
                  ·rfl
                  ·rfl
                 refine hK.out _ _ ⟨(World.cell?_alloc_lt _ _ _ (World.block_lt_of_cell? _ _ (((HB.out.cell (World.block_lt_of_cell? w _ hw266_0)).trans hw266_0)))).trans (((HB.out.cell (World.block_lt_of_cell? w _ hw266_0)).trans hw266_0)), (World.cell?_alloc_lt _ _ _ (World.block_lt_of_cell? _ _ (((HB.out.cell (World.block_lt_of_cell? w _ hw270_0)).trans hw270_0)))).trans (((HB.out.cell (World.block_lt_of_cell? w _ hw270_0)).trans hw270_0))⟩ (fun hHeld => ?_)
                 clear hK K
                 refine norm_ (a' := ?_) ?_ ?_
                 rotate_left
                 ·show Act.put _ (some 75) _ = _
                  simp only [Act.put, List.setIfInBounds_toArray, List.set_cons_zero, List.set_cons_succ, i64_w, i32_w]
                  rfl
                 refine one_ (i := 23) (N := some 76) #[true, true, true, true, true, true, true, true, true, true, true, true, true, true, true, true, true, true, true, true, true, true, true, true, false] rfl rfl (one_of HT_.out (by kernel_rfl)) (by decide) (fun K hK => ?_)
                 refine Kd.S_append_step k39 (w0 := w) w.heap.size (by rfl) (.tmp 53) (.tmp 75) 26 39 (.agg #[(.int .i64 0), (.slice none 0 0)]) 32 rfl Tryd.underlying26 info39 rfl (by decide) (by omega) u4 x4_1 (⟨wrap64 (rd l0 x5_1), y272⟩ : S39) [.int .i64 (wrap64 (rd l0 x5_1)), .slice Ao30 y272.length co30] (fun _ => True) (fun k_ => some k_ = (.slice Ao30 y272.length co30 : Value).ownBlock) rfl rfl ?aP_5 (fun k_ hk_ => ((Kd.R_mono (ok' := fun k_ => ((fun _ => True)) k_ ∧ some k_ ≠ (u4 : Value).ownBlock) (Kd.R_apart' (HO274.out) (Kd.S_typed HO_4.out) (by decide)) (fun k_ hk => ⟨trivial, hk.2⟩))).1 k_ hk_.symm) ?aF_5 ?aO_5 ?aB_5 ?aS_5 ?aL_5 ?_
                 (case aP_5 => exact k39_mkM _ _ _ (⟨wrap64 (rd l0 x5_1), y272⟩ : S39) (Kd.R_mono (Kd.R_tight rfl (Kd.R_mono (ok' := fun k_ => ((fun _ => True)) k_ ∧ some k_ ≠ (u4 : Value).ownBlock) (Kd.R_apart' (HO274.out) (Kd.S_typed HO_4.out) (by decide)) (fun k_ hk => ⟨trivial, hk.2⟩))) (fun _ h_ => h_)))
                 (case aB_5 => exact (by repeat (first | (with_reducible first | exact HB.out | apply below_alloc | apply pw_below_drewN | apply below_drew1) | exact HB.out)))
                 (case aF_5 => exact (fun _ _ => trivial))
                 (case aO_5 => exact (by (with_reducible repeat (first | apply Kd.S_alloc | apply Kd.S_drewN | apply Kd.S_drew)); exact Kd.S_mono HO_4.out (fun k_ hk => ⟨trivial, fun e_ => hk.2 e_⟩)))
                 (case aS_5 => exact (below_size (by repeat (first | (with_reducible first | exact HB.out | apply below_alloc | apply pw_below_drewN | apply below_drew1) | exact HB.out))))
                 (case aL_5 => have := LMc24.out; omega)
                 intro v276 w31 ho hb hg hat
                 rw [← Ny275.out] at ho
                 have n0_ := Aside0.mk (hb)
                 have n1_ := Aside0.mk (ho)
                 clear HB
                 clear HO_4
                 clear HO274
                 have HB := n0_
                 have HO277 := n1_
                 clear n0_ n1_
                 clear ho hb hg hat
                 refine hK.out _ _ ⟨((HB.out.cell (World.block_lt_of_cell? w _ hw266_0)).trans hw266_0), ((HB.out.cell (World.block_lt_of_cell? w _ hw270_0)).trans hw270_0)⟩ (fun hHeld => ?_)
                 clear hK K
                 refine norm_ (a' := ?_) ?_ ?_
                 rotate_left
                 ·show Act.put _ (some 76) _ = _
                  simp only [Act.put, List.setIfInBounds_toArray, List.set_cons_zero, List.set_cons_succ, i64_w, i32_w]
                  rfl
                 refine pure_ (i := 24) (N := some 4) (v := ?_) (a' := ?_) #[true, true, true, true, true, true, true, true, true, true, true, true, true, true, true, true, true, true, true, true, true, true, true, true, true] rfl rfl (any_of HT_.out (by kernel_rfl)) (fun _ _ _ h => h) (Or.inl ⟨by rfl, ?_⟩) ?_ ?_
                 rotate_left
                 ·intro w'
                  go_simp
                  with_reducible rfl
                 rotate_left
                 ·simp only [Act.put, List.setIfInBounds_toArray, List.set_cons_zero, List.set_cons_succ, i64_w, i32_w]
                  rfl
                 refine done_ (done_of HT_.out (by kernel_rfl)) ?_
                 have p278 : 0 ≤ ((ji15) : Int) := of_decide_eq_true (by first | (with_reducible assumption) | assumption)
                 have q278 : (ji15) < (l0.length : Int) := of_decide_eq_true (by first | (with_reducible assumption) | assumption)
                 obtain ⟨ad278, e278, hx278_0⟩ := Kd.at_int HR0.out (ji15) p278 q278
                 obtain rfl : ad261 = ad278 := (by injection e278)
                 replace hx278_0 := (HB.out.cell (World.block_lt_of_cell? w _ hx278_0)).trans hx278_0
                 replace p278 := eq_true p278
                 replace q278 := eq_true q278
                 try go_wp2
                 go_roundg k1
                 case measure => have := HK1.out; omega
                 case rel => exact ⟨(y275), (wrap64 ((ji19) + (wrap64 (rd l0 (ji15))))), (by first | rfl | (simp; done) | (simp only [← hji15, ← hji19] <;> (first | rfl | simp)) | (simp [*]; done)), H', ⟨by have := HK1.out; omega⟩, ⟨by (with_reducible repeat (first | apply Kd.S_alloc | apply Kd.S_drewN | apply Kd.S_drew)); exact HO277.out⟩, ⟨by repeat (first | (with_reducible first | exact HB.out | apply below_alloc | apply pw_below_drewN | apply below_drew1) | exact HB.out)⟩⟩
                ·rw [if_neg c24] at H
                 exact absurd H (by simp)
               ·rw [if_neg c23] at H
                exact absurd H (by simp)
              ·rw [if_neg c22] at H
               exact absurd H (by simp)
             ·rw [if_neg c21] at H
              exact absurd H (by simp)
            ·rw [if_neg c20] at H
             exact absurd H (by simp)
          ·rw [if_neg c17] at H
           exact absurd H (by simp)
         ·rw [if_neg c16] at H
          exact absurd H (by simp)
     ·rw [if_neg c4] at H
      exact absurd H (by simp)
    ·rw [if_neg c3] at H
     have c3b0 : decide (x5_1 < (l0.length : Int)) = false := decide_eq_false c3
     clear c3
     simp only [Option.some.injEq, Prod.mk.injEq] at H
     obtain ⟨rfl, rfl⟩ := H
     go_wp2
     go_ret2
     exact ⟨_, by first | rfl | (simp [errW_none, errW_some] <;> rfl) | (simp [*, errW_none, errW_some] <;> rfl), by first | exact Kd.S_nil _ _ _ _ _ | exact Kd.N_nil _ _ _ _ _ | exact Kd.V_nil _ _ _ _ _ | exact Kd.Q_nil _ _ _ _ _ | exact Kd.R_nil _ _ _ _ _, by repeat (first | (with_reducible first | exact HB.out | apply below_alloc | apply pw_below_drewN | apply below_drew1) | exact HB.out)⟩

end Go.Proofs.YtmbfdmceameghaaDoor.Pr
end

section
namespace Go.Proofs.YtmbfdmceameghaaDoor
open Go.RowKit
set_option linter.unusedVariables false
set_option linter.unusedSimpArgs false

variable {P : Program}

/-- The loop's record. -/
def rfRec (fn : FuncId) (tmps : Array Value) (ps : Array Tmp) (assign body : Code) (dk : Nat) (st : LoopState) (pe : Option Code) : Loop :=
  { state := st, pending := pe, fn, tmps, params := ps, assign, body, defers := dk }

/-- What stands in the heap where the iterator begins. -/
def rfStart (w : World) (r : Loop) : World := (w.alloc (.deferred (some []))).alloc (.loop r)

theorem rfStart_size (w : World) (r : Loop) : (rfStart w r).heap.size = w.heap.size + 2 := by simp [rfStart]
theorem rfStart_below (w : World) (r : Loop) : Below w.heap.size w (rfStart w r) := ((Below.refl _ w).alloc (Nat.le_refl _) _).alloc (by simp) _
theorem rfStart_loop (w : World) (r : Loop) : (rfStart w r).heap[w.heap.size + 1]? = some (.loop r) := by
  have := World.alloc_heap_new (w.alloc (.deferred (some []))) (.loop r)
  rwa [World.size_alloc] at this
theorem rfStart_def (w : World) (r : Loop) : (rfStart w r).heap[w.heap.size]? = some (.deferred (some [])) :=
  (Below.heap_alloc _ _ _ (by simp)).trans (World.alloc_heap_new w _)

theorem rf_wide {n : Nat} {g : Operand} {ps : Array Tmp} {assign body : Code} {Q : Exit → Act → World → Prop} {a : Act} {w : World}
    {gf : Nat} {lb : Array Value} (hg : a.eval g = .func (.func gf) #[] lb) (eg : ∀ args w, (callFunc gf args).run P w = .ok (.enter gf args) w)
    (h : ∀ (fn : FuncId) (r : LoopState → Option Code → Loop), r = rfRec fn a.tmps ps assign body w.heap.size → Calls P gf (#[.func (.yield (w.heap.size + 1)) #[] #[]] ++ lb) (rfStart w (r .ready none)) fun e W =>
        (∃ v, e = .returned v) ∧
        ((W.heap[w.heap.size + 1]? = some (.loop (r .ready none)) ∧
            Q .normal { a with defers := { target := .collected w.heap.size, args := #[] } :: a.defers } (W.putObj (w.heap.size + 1) (.loop (r .exhausted none)))) ∨
         ∃ c, W.heap[w.heap.size + 1]? = some (.loop (r .done (some c))) ∧
            c.wpIn Fence.wide n P Q { a with defers := { target := .collected w.heap.size, args := #[] } :: a.defers } (W.putObj (w.heap.size + 1) (.loop (r .exhausted (some c)))))) :
    (Code.rangeFunc g ps assign body).wpIn Fence.wide n P Q a w := by
  refine wpIn_rangeFunc ?_
  intro fn _
  refine ⟨w.heap.size + 1, [{ target := .collected w.heap.size, args := #[] }], rfStart w (rfRec fn a.tmps ps assign body w.heap.size .ready none), { target := .fn (.func gf) lb, args := #[.func (.yield (w.heap.size + 1)) #[] #[]] },
    rfStart w (rfRec fn a.tmps ps assign body w.heap.size .ready none), gf, #[.func (.yield (w.heap.size + 1)) #[] #[]] ++ lb, rfStart w (rfRec fn a.tmps ps assign body w.heap.size .ready none), ?_, ?_, ?_, ?_, ?_, ?_⟩
  · exact run_enterLoop_outer _ _ _ _ _
  · simp only [resolve, hg]
    simp [go_sem]
  · intro _ _; trivial
  · simp [invoke, go_sem, eg]
  · intro h0; simp [Fence.wide] at h0
  · refine callsIn_wide.2 ((h fn _ rfl).mono ?_)
    rintro e W ⟨⟨v, rfl⟩, ⟨hl, hq⟩ | ⟨c, hl, hq⟩⟩
    · exact ⟨none, _, by have := run_endLoop (P := P) hl (by simp [rfRec]); simpa [rfRec] using this, hq⟩
    · exact ⟨some c, _, by have := run_endLoop (P := P) hl (by simp [rfRec]); simpa [rfRec] using this, hq⟩

/-- How a round may be left: where it goes on, yield answers true; where it leaves by a jump, false. -/
def rfPost (r : LoopState → Option Code → Loop) (l : Nat) (R : Bool → Option Code → World → Prop) : Exit → Act → World → Prop
  | .normal, _, W => W.heap[l]? = some (.loop (r .busy none)) ∧ R true none (W.putObj l (.loop (r .ready none)))
  | .ret, _, W => W.heap[l]? = some (.loop (r .busy none)) ∧ R false (some .ret) (W.putObj l (.loop (r .done (some .ret))))
  | .exit id, _, W => W.heap[l]? = some (.loop (r .busy none)) ∧ R false (some (.exit id)) (W.putObj l (.loop (r .done (some (.exit id)))))
  | _, _, _ => False

theorem rf_round {n l : Nat} {W : World} {args : Array Value} (R : Bool → Option Code → World → Prop) {fn : FuncId} {tmps : Array Value} {ps : Array Tmp} {assign body : Code} {dk : Nat} {r : LoopState → Option Code → Loop}
    (hr : r = rfRec fn tmps ps assign body dk) (hl : W.heap[l]? = some (.loop (r .ready none))) (hs : args.size = ps.size) (a₁ : Act)
    (hassign : ∀ K : Act → World → Prop, K a₁ W → assign.wpIn (Fence.wide.inRound l) n P (Exit.then K (fun _ _ _ => False)) { tmps := (ps.zip args).foldl (fun t (p, v) => t.setIfInBounds p v) tmps, defers := [] } W)
    (hbody : body.wpIn (Fence.wide.inRound l) n P (rfPost r l R) a₁ (W.putObj l (.loop (r .busy none)))) :
    YieldAt Fence.wide n P l args W fun e W' => ∃ b jump, e = .returned (.bool b) ∧ R b jump W' ∧ (b = true → jump = none) := by
  subst hr
  have hy := run_yield (P := P) (args := args) hl (by simpa [rfRec] using hs)
  refine ⟨fn, _, assign, body, hy, roundIn_of_wpIn trivial (hassign _ ⟨_, run_beginRound hl rfl, ?_⟩)⟩
  refine wpIn_mono hbody ?_
  intro e a W3 hp
  cases e with
  | normal =>
    obtain ⟨hb, hr⟩ := hp
    exact ⟨_, _, run_endRound (P := P) none hb, true, none, rfl, hr, fun _ => rfl⟩
  | ret =>
    obtain ⟨hb, hr⟩ := hp
    exact ⟨_, _, run_endRound (P := P) (some .ret) hb, false, some .ret, rfl, hr, fun h => by cases h⟩
  | exit id =>
    obtain ⟨hb, hr⟩ := hp
    exact ⟨_, _, run_endRound (P := P) (some (.exit id)) hb, false, some (.exit id), rfl, hr, fun h => by cases h⟩
  | goto t => exact hp.elim
  | panic ch => exact hp.elim
  | outgrown => exact hp.elim

/-- One operation of a round that is no 'defer', walked by the laws of the plain layer. -/
theorem wpListIn_of_one {n l : Nat} {ops : Array Oper} {Q : Exit → Act → World → Prop} {o : Oper} {rest : List Oper} {a : Act} {w : World}
    (hnd : ∀ c, o.op ≠ .defer c) (hno : ∀ a w, ¬ Q .outgrown a w)
    (h : wpList P ops (Exit.then (fun a w => wpListIn (Fence.wide.inRound l) n P ops Q rest a w) Q) [o] a w) :
    wpListIn (Fence.wide.inRound l) n P ops Q (o :: rest) a w := by
  have hlo : ¬ LetsOut (Exit.then (fun a w => wpListIn (Fence.wide.inRound l) n P ops Q rest a w) Q) := fun ⟨a, w, h⟩ => hno a w h
  simp only [wpList] at h
  simp only [wpListIn]
  by_cases hw : Region.wanted o (yielded ops a.tmps) = true
  · rw [if_pos hw] at h ⊢
    rcases h with h | ⟨_, h⟩
    · refine ⟨fun _ _ => trivial, ?_⟩
      have hs : o.semAt (some l) a.eval = execOp a.eval o := Oper.semAt_some l a.eval o hnd
      show o.uponIn _ _ _ _ _ _ ((o.semAt (some l) a.eval).run P w)
      rw [hs]
      unfold Oper.wp at h
      cases hr : (execOp a.eval o).run P w with
      | halt hh w' =>
        rw [hr] at h
        cases hh <;> first | exact h | exact h.elim
      | ok nx w' =>
        rw [hr] at h
        cases nx with
        | value v => exact h
        | skip => exact h
        | defer d => exact h
        | enter f args =>
          refine ⟨fun hd => by simp [Fence.wide, Fence.inRound] at hd, CallsIn.inRound l (callsIn_wide.2 (Calls.mono h ?_))⟩
          intro e w2 he
          cases e with
          | returned v => exact he
          | panicked c => exact he
          | outgrown => exact (hlo he).elim
        | row r args =>
          refine ⟨fun hd => by simp [Fence.wide, Fence.inRound] at hd, fun c cs _ => ?_⟩
          obtain ⟨v, w2, hq, hst⟩ := h c cs
          exact ⟨v, w2, hq, stepsIn_wide.2 hst⟩
        | _ => exact h.elim
    · exact (hlo h).elim
  · rw [if_neg hw] at h ⊢
    exact ⟨fun _ _ => trivial, h⟩

theorem wpList_back {n l : Nat} {ops : Array Oper} {Q : Exit → Act → World → Prop} {rest : List Oper} {a : Act} {w : World} (h : wpListIn (Fence.wide.inRound l) n P ops Q rest a w) :
    wpList P ops (Exit.then (fun a w => wpListIn (Fence.wide.inRound l) n P ops Q rest a w) Q) [] a w := h

end Go.Proofs.YtmbfdmceameghaaDoor
end

section
namespace Go.Proofs.YtmbfdmceameghaaDoor
open Go.RowKit Go.Proofs.YtmbfdmceameghaaDoorW.PrintWords Go.Proofs.YtmbfdmceameghaaDoorW.PrintLast Go.Proofs.YtmbfdmceameghaaDoorW.PrintMore
set_option linter.unusedVariables false
set_option linter.unusedSimpArgs false

theorem S_put {α : Type} {d : Kd α} {e : Nat} {w : World} {base : Nat} {ok : Nat → Prop} {v : Value} {xs : List α} (h : Kd.S d e w base ok v xs) {l : Nat} {o : Obj} (o' : Obj) (hl : w.heap[l]? = some o) (ho : o.isCells = false) : Kd.S d e (w.putObj l o') base ok v xs :=
  Kd.S_mono (Kd.S_move (Kd.S_bound h) (fun k hk => World.putObj_heap_other (by
    rintro rfl
    obtain ⟨_, _, _, q, _, cells, hc⟩ := hk
    rw [hl] at hc; cases hc; cases ho))) (fun _ hk => hk.1)
theorem R_put {α : Type} {d : Kd α} {e : Nat} {w : World} {base : Nat} {ok : Nat → Prop} {v : Value} {xs : List α} (h : d.R e w base ok v xs) {l : Nat} {o : Obj} (o' : Obj) (hl : w.heap[l]? = some o) (ho : o.isCells = false) : d.R e (w.putObj l o') base ok v xs :=
  Kd.R_mono (Kd.R_move (Kd.R_bound h) (fun k hk => World.putObj_heap_other (by
    rintro rfl
    obtain ⟨_, _, _, q, _, cells, hc⟩ := hk
    rw [hl] at hc; cases hc; cases ho))) (fun _ hk => hk.1)
theorem boxed_put {W : World} {B : Nat} {t : TypeId} {v : Value} (h : Boxed W B t v) {l : Nat} {o : Obj} (o' : Obj) (hl : W.heap[l]? = some o) (ho : o.isCells = false) : Boxed (W.putObj l o') B t v :=
  (World.putObj_heap_other (by rintro rfl; rw [show W.heap[B]? = _ from h] at hl; cases hl; cases ho)).trans h
theorem boxed_below {W W' : World} {B : Nat} {t : TypeId} {v : Value} (h : Boxed W B t v) (hb : Below W.heap.size W W') : Boxed W' B t v := (hb.block B h.lt).trans h
theorem below_put {B : Nat} {w W : World} (h : Below B w W) {l : Nat} (o' : Obj) (hl : B ≤ l) : Below B w (W.putObj l o') :=
  h.trans ⟨rfl, rfl, rfl, by simp, fun k hk => World.putObj_heap_other (by omega)⟩
theorem put_other {W : World} {l k : Nat} (o' : Obj) (hne : k ≠ l) {o : Obj} (h : W.heap[k]? = some o) : (W.putObj l o').heap[k]? = some o := (World.putObj_heap_other hne).trans h
theorem put_same {W : World} {l : Nat} (o' : Obj) {o : Obj} (h : W.heap[l]? = some o) : (W.putObj l o').heap[l]? = some o' := World.putObj_heap_same (Array.getElem?_eq_some_iff.1 h).1
theorem lt_of_heap {W : World} {k : Nat} {o : Obj} (h : W.heap[k]? = some o) : k < W.heap.size := (Array.getElem?_eq_some_iff.1 h).1
theorem below_heap {W W' : World} (hb : Below W.heap.size W W') {k : Nat} {o : Obj} (h : W.heap[k]? = some o) : W'.heap[k]? = some o := (hb.block k (lt_of_heap h)).trans h
theorem yieldAt_mono {F : Fence} {n : Nat} {P : Program} {l : Nat} {args : Array Value} {W : World} {R R' : Ending → World → Prop} (h : YieldAt F n P l args W R) (hr : ∀ e w', R e w' → R' e w') : YieldAt F n P l args W R' := by
  obtain ⟨fn, tmps, assign, body, hy, hR⟩ := h
  exact ⟨fn, tmps, assign, body, hy, hR.mono hr⟩

theorem grown_heap {α : Type} {d : Kd α} {e : Nat} {w w1 : World} {base : Nat} {ok : Nat → Prop} {v : Value} {xs : List α} (h : Kd.S d e w base ok v xs) (hg : w.grownBy w1 v.ownBlock) {k : Nat} {o : Obj} (hk : w.heap[k]? = some o) (ho : o.isCells = false) : w1.heap[k]? = some o := by
  refine (hg.block k (lt_of_heap hk) ?_).trans hk
  intro e
  obtain ⟨cells, hc⟩ := Kd.S_typed h k e.symm
  rw [hk] at hc; cases hc; cases ho
theorem boxed_set_other {W : World} {B B' : Nat} {t : TypeId} {v : Value} (u : Value) (h : Boxed W B t v) (hne : B ≠ B') : Boxed (W.setCell ⟨B', 0, none⟩ u) B t v := (Below.heap_setCell _ _ _ _ hne).trans h
theorem set_heap {W : World} {B k : Nat} {t : TypeId} {v u : Value} (h : Boxed W B t v) {o : Obj} (hk : W.heap[k]? = some o) (ho : o.isCells = false) : (W.setCell ⟨B, 0, none⟩ u).heap[k]? = some o :=
  (Below.heap_setCell _ _ _ _ (by rintro rfl; rw [show W.heap[k]? = _ from h] at hk; cases hk; cases ho)).trans hk

end Go.Proofs.YtmbfdmceameghaaDoor
end

section
namespace Go.Proofs.YtmbfdmceameghaaDoor
open Go.RowKit Go.Proofs.YtmbfdmceameghaaDoorW.PrintWords Go.Proofs.YtmbfdmceameghaaDoorW.PrintLast Go.Proofs.YtmbfdmceameghaaDoorW.PrintMore Go.Proofs.YtmbfdmceameghaaDoor.Pr
set_option linter.unusedVariables false
set_option linter.unusedSimpArgs false

theorem cl_info : (Tryd.prog.info? 5).map (fun i => (i.zero, i.size, i.bytes)) = some (some (.int .u8 0), 1, 1) := by kernel_rfl
set_option maxHeartbeats 1000000 in
set_option maxRecDepth 100000 in
theorem clone_calls (A0 : Option Addr) (c0 : Nat) (l0 : List Int) (w : World) (hr0 : Kd.C (Kd.int .u8) w A0 l0.length l0) (hc0 : l0.length ≤ c0) (hl : l0.length < 140737488355328) :
    Calls Tryd.prog 26 #[.slice A0 l0.length c0] w fun e w' => ∃ v0_ : Value, e = .returned v0_ ∧ Kd.R (Kd.int .u8) 5 w' w.heap.size (fun _ => True) v0_ l0 ∧ Below w.heap.size w w' := by
  have HR0 := Aside0.mk hr0
  have HC0 := Aside0.mk hc0
  have HL := Aside0.mk hl
  clear hc0 hl
  have HB := Aside0.mk (Below.refl w.heap.size w)
  have hq := Lib.run_eql_slice_nil (P := Tryd.prog) w 22 5 A0 l0.length c0 0 0 Tryd.underlying22
  cases A0 with
  | none =>
    obtain rfl : l0 = [] := by
      cases l0 with
      | nil => rfl
      | cons x xs =>
        obtain ⟨ad, h, _⟩ := hr0.2.2 (by simp)
        cases h
    clear hr0 HR0
    simp only [List.length_nil] at hq ⊢
    go_enter Tryd.func26, Tryd.ntmps26
    go_wp2
    go_ret
    exact ⟨_, rfl, Kd.R_nil _ _ _ _ _, HB.out⟩
  | some ad =>
    clear hr0
    go_enter Tryd.func26, Tryd.ntmps26
    go_wp2_with (first | ((with_reducible refine gate_dst (N := 5) rfl ?_); (try (refine gate_guard (by rfl) ?_; dsimp only)); refine Kd.R_lit (Kd.int .u8) _ 5 ?hg (N := 5) ?hd (xs := ([] : List Int)) (inner := []) (ok := fun _ => True) (okp := fun _ => True) ?hr ?hp (fun _ hk => hk) trivial (Below.refl _ _) (Nat.le_refl _) (by simp) ?_; (case hd => rfl); (case hg => rfl); (case hr => first | (go_simp; done) | (go_simp; rfl)); (case hp => exact (Reps.none _ _)); intro v102 w6 ho7 hb hg_ hnew_; clear hg_ hnew_; have HO := Aside0.mk ho7; have n1_ := Aside0.mk (below_step HB.out hb); clear HB; have HB := n1_; clear n1_ hb ho7) | ((with_reducible refine gate_builtin (b := .append) (xs := #[.tmp 5, .tmp 6]) rfl ?_); (try (refine gate_guard (by rfl) ?_; dsimp only)); at_builtin; refine Kd.R_append_rows (Kd.int .u8) (w0 := w) w.heap.size rfl (.tmp 5) (.tmp 6) 22 5 (.int .u8 0) 1 rfl Tryd.underlying22 cl_info rfl (by decide) (by omega) v102 [] l0 _ _ _ (fun _ => True) (fun _ => False) rfl rfl ?aO ?aR (fun _ _ h => h) (fun _ h => h.elim) ?aF ?aB ?aS ?aL ?_; (case aR => exact (Kd.C_below HR0.out HB.out)); (case aB => exact HB.out); (case aF => exact (fun _ _ => trivial)); (case aO => exact HO.out); (case aS => exact (below_size HB.out)); (case aL => have := HL.out; simp; omega); intro v128 w8 ho hb hg hat; have HB2 := Aside0.mk hb; have HO2 := Aside0.mk ho; clear HB; have HB := HB2; clear HB2; clear ho hb hg hat))
    go_ret
    exact ⟨_, rfl, by have := HO2.out; simpa using this, HB.out⟩

end Go.Proofs.YtmbfdmceameghaaDoor
end

section
namespace Go.Proofs.YtmbfdmceameghaaDoor
open Go.RowKit Go.Proofs.YtmbfdmceameghaaDoor.Pr Go.Proofs.YtmbfdmceameghaaDoorW.PrintWords Go.Proofs.YtmbfdmceameghaaDoorW.PrintLast Go.Proofs.YtmbfdmceameghaaDoorW.PrintMore
attribute [local go_sem] max2_int min2_int max_two min_two max_three min_three max_four min_four
set_option linter.unusedVariables false
set_option linter.unusedSimpArgs false

abbrev OptP := S39
/-! ### what is handed on -/
def pGo (l : List Int) (pre : List OptP) : List OptP × Option (List Int) :=
  match l with
  | [] => (pre, none)
  | x :: r => if x = 0 then pGo r pre else if x = 255 then (pre, some r) else
    match r with
    | [] => (pre, none)
    | n :: s => if n.toNat ≤ s.length then pGo (s.drop n.toNat) (pre ++ [⟨x, s.take n.toNat⟩]) else (pre, none)
termination_by l.length
decreasing_by
  · simp
  · simp only [List.length_cons, List.length_drop]; omega
theorem pGo_nil {pre : List OptP} : pGo [] pre = (pre, none) := by rw [pGo.eq_def]
theorem pGo_zero {r : List Int} {pre : List OptP} : pGo (0 :: r) pre = pGo r pre := by rw [pGo.eq_def]; dsimp only; rw [if_pos rfl]
theorem pGo_end {r : List Int} {pre : List OptP} : pGo (255 :: r) pre = (pre, some r) := by rw [pGo.eq_def]; dsimp only; rw [if_neg (by decide), if_pos rfl]
theorem pGo_lone {x : Int} {pre : List OptP} (h0 : x ≠ 0) (h1 : x ≠ 255) : pGo [x] pre = (pre, none) := by rw [pGo.eq_def]; dsimp only; rw [if_neg h0, if_neg h1]
theorem pGo_step {x n : Int} {s : List Int} {pre : List OptP} (h0 : x ≠ 0) (h1 : x ≠ 255) (h : n.toNat ≤ s.length) : pGo (x :: n :: s) pre = pGo (s.drop n.toNat) (pre ++ [⟨x, s.take n.toNat⟩]) := by
  rw [pGo.eq_def]; dsimp only; rw [if_neg h0, if_neg h1, if_pos h]
theorem pGo_stop {x n : Int} {s : List Int} {pre : List OptP} (h0 : x ≠ 0) (h1 : x ≠ 255) (h : ¬ n.toNat ≤ s.length) : pGo (x :: n :: s) pre = (pre, none) := by
  rw [pGo.eq_def]; dsimp only; rw [if_neg h0, if_neg h1, if_neg h]

/-- All but one block is as it was. -/
structure OneBut (w W : World) (q : Nat) : Prop where
  os : W.os = w.os
  tape : W.tape = w.tape
  output : W.output = w.output
  size : w.heap.size ≤ W.heap.size
  block : ∀ k, k < w.heap.size → k ≠ q → W.heap[k]? = w.heap[k]?
theorem OneBut.of_below {w W : World} (h : Below w.heap.size w W) (q : Nat) : OneBut w W q := ⟨h.os, h.tape, h.output, h.size, fun k hk _ => h.block k hk⟩
theorem OneBut.set {w W : World} {q : Nat} (h : OneBut w W q) (u : Value) : OneBut w (W.setCell ⟨q, 0, none⟩ u) q := by
  have hb : Below q W (W.setCell ⟨q, 0, none⟩ u) := (Below.refl q W).setCell (p := ⟨q, 0, none⟩) (Nat.le_refl _) u
  exact ⟨hb.os.trans h.os, hb.tape.trans h.tape, hb.output.trans h.output, Nat.le_trans h.size hb.size, fun k hk hn => (Below.heap_setCell W ⟨q, 0, none⟩ u k hn).trans (h.block k hk hn)⟩
theorem boxed_blw {W W' : World} {B : Nat} {t : TypeId} {v : Value} (h : Boxed W B t v) (hb : Below W.heap.size W W') : Boxed W' B t v := (hb.block B h.lt).trans h
theorem mid_kp {α : Type} {P : Program} (k : Kd α) (t e : TypeId) {i : TypeInfo} (ht : P.underlying t = some (.slice e)) (hi : P.info? e = some i) (hsz : i.size = k.sz) (A : Option Addr) (c : Nat) (xs : List α) (a b : Int) (h0 : 0 ≤ a) (h1 : a ≤ b) (hm : b ≤ xs.length) (hc : xs.length ≤ c) (w : World) (h : k.C w A xs.length xs) :
    ∃ (A' : Option Addr) (c' : Nat) (ys : List α), Hid (ys = (xs.take b.toNat).drop a.toNat) ∧ (∀ W : World, (Instr.slice t (.slice A xs.length c) (some (.int .i64 a)) (some (.int .i64 b)) none).run P W = .ok (.slice A' ys.length c') W) ∧ k.C w A' ys.length ys ∧ ys.length ≤ c' := by
  have hl : ((xs.take b.toNat).drop a.toNat).length = b.toNat - a.toNat := by rw [List.length_drop, List.length_take]; omega
  refine ⟨_, c - a.toNat, _, rfl, ?_, Kd.C_mid h (lo := a.toNat) (hi := b.toNat) (by omega) (by omega) hc, by rw [hl]; omega⟩
  intro W
  rw [hl]
  exact cut_mid t e .i64 .i64 ht hi k.sz hsz A xs.length c a b h0 h1 hm hc W

set_option maxHeartbeats 4000000 in
set_option maxRecDepth 100000 in
theorem parts1_calls (b : List Int) (w0 : World) (hbytes : ∀ x ∈ b, 0 ≤ x ∧ x ≤ 255) (hlen : b.length < 1099511627776) (n l Bn : Nat) (J : List OptP → World → Prop) (End : World → Prop) (hBn : w0.heap.size ≤ Bn)
    (hJb : ∀ pre W, J pre W → Below w0.heap.size w0 W)
    (hJg : ∀ pre W W', J pre W → Below W.heap.size W W' → J pre W')
    (hJs : ∀ pre W v u, J pre W → Boxed W Bn 22 v → J pre (W.setCell ⟨Bn, 0, none⟩ u))
    (hY1 : ∀ pre W0 W x d Ad cd As ns cs bv, J pre W0 → (∃ bv0, Boxed W0 Bn 22 bv0) → OneBut W0 W Bn → pre.length < b.length → d.length ≤ b.length → Kd.R (Kd.int .u8) 5 W W0.heap.size (fun _ => True) (.slice Ad d.length cd) d → x ≠ 0 → x ≠ 255 → Boxed W Bn 22 bv →
      YieldAt Fence.wide n Tryd.prog l #[.agg #[.int .i64 x, .slice Ad d.length cd], .slice As ns cs] W fun e W' => e = .returned (.bool true) ∧ J (pre ++ [⟨x, d⟩]) W' ∧ Boxed W' Bn 22 bv)
    (hY2 : ∀ pre W r As cs, J pre W → (Kd.int .u8).C w0 As r.length r → r.length ≤ cs → pGo b [] = (pre, some r) →
      YieldAt Fence.wide n Tryd.prog l #[.agg #[.int .i64 255, .slice none 0 0], .slice As r.length cs] W fun e W' => (∃ q, e = .returned (.bool q)) ∧ End W')
    (hY3 : ∀ pre W, J pre W → pGo b [] = (pre, none) →
      YieldAt Fence.wide n Tryd.prog l #[.agg #[.int .i64 0, .slice none 0 0], .slice none 0 0] W fun e W' => (∃ q, e = .returned (.bool q)) ∧ End W')
    (W : World) (h0 : J [] W) (A0 : Option Addr) (c : Nat) (hC : (Kd.int .u8).C w0 A0 b.length b) (hc : b.length ≤ c) (hBx : Boxed W Bn 22 (.slice A0 b.length c)) :
    Calls Tryd.prog 49 #[.func (.yield l) #[] #[], .pointer (some ⟨Bn, 0, none⟩)] W fun e W' => (∃ v, e = .returned v) ∧ End W' := by
  have HC := Lib.hid hC
  have HBY := Lib.hid hbytes
  have HY1 := Lib.hid hY1
  have HY2 := Lib.hid hY2
  have HY3 := Lib.hid hY3
  have HJB := Lib.hid hJb
  have HJG := Lib.hid hJg
  have HJS := Lib.hid hJs
  have HJ0 := Lib.hid h0
  have HBX0 := Lib.hid hBx
  clear hC hbytes hY1 hY2 hY3 hJb hJg hJs h0 hBx
  go_enter Tryd.func49, Tryd.ntmps49
  go_wp2_with fail
  go_loopg [] (b.length) (fun kq wr => ∃ (l' : List Int) (A' : Option Addr) (c' : Nat) (pre : List OptP), Hid (l'.length = kq) ∧ Hid (l'.length ≤ c') ∧ Hid (l'.length + pre.length ≤ b.length) ∧ Hid (∀ x ∈ l', 0 ≤ x ∧ x ≤ 255) ∧ Hid ((Kd.int .u8).C w0 A' l'.length l') ∧
      Hid (Boxed wr Bn 22 (.slice A' l'.length c')) ∧ Hid (J pre wr) ∧ Hid (pGo l' pre = pGo b []))
  case atStart => exact ⟨b, A0, c, [], rfl, hc, Lib.hid (by simp), HBY, HC, HBX0, HJ0, rfl⟩
  case round =>
    obtain ⟨l', A', c', pre, HK, HCL, HLP, HBY', HC', HBX, HJ, HP⟩ := hrel
    clear HC HBX0 HJ0
    have y1 := HBX.out.cell
    have z1 := HBX.out.frozen
    cases l' with
    | nil =>
      have HR := Lib.hid (HP.out.symm.trans pGo_nil)
      go_upto_region 11 with fail
      refine (wpIn_wide (n := n + 1)).1 ?_
      obtain ⟨fn, tmps, assign, body, hy, hR⟩ := HY3.out _ _ HJ.out HR.out
      gi_wp2_with fail
      refine hR.mono ?_
      rintro e W3 ⟨⟨q, rfl⟩, hE⟩
      gi_wp2_with fail
      go_end0
      exact ⟨⟨_, rfl⟩, hE⟩
    | cons x r =>
      have hx := HBY'.out x (by simp)
      obtain ⟨ad, rfl, x0⟩ := Kd.at_int HC'.out 0 (by omega) (by simp only [List.length_cons]; omega)
      have x0w : w0.cell? ad = some (.int .u8 x) := x0
      have HX0 := Lib.hid x0w
      have x0' := ((HJB.out _ _ HJ.out).cell (World.block_lt_of_cell? w0 _ x0w)).trans x0w
      have C2 := Kd.C_drop (c := c') (m := 1) HC'.out (by simp) HCL.out
      rw [show (Kd.int .u8).sz = 1 from rfl, Nat.mul_one] at C2
      change (Kd.int .u8).C w0 _ r.length r at C2
      obtain ⟨i0, hinf, hzz⟩ := Option.map_eq_some_iff.1 cl_info
      simp only [Prod.mk.injEq] at hzz
      obtain ⟨nn, hnn⟩ : ∃ nn, nn = (x :: r).length := ⟨_, rfl⟩
      have hn2 : nn = r.length + 1 := hnn
      have hcl := HCL.out
      have hlp := HLP.out
      have hk := HK.out
      rw [← hnn] at hcl hlp hk y1
      have r1 := cut_from (P := Tryd.prog) 22 5 .i64 Tryd.underlying22 hinf 1 hzz.2.1 (some ad) nn c' 1 (by omega) (by omega)
      rw [show (1 : Int).toNat = 1 from rfl, Nat.mul_one, show nn - 1 = r.length from by omega] at r1
      obtain ⟨A2, hA2⟩ : ∃ A2, A2 = (if c' = 1 then some ad else (some ad).map (·.add 1)) := ⟨_, rfl⟩
      obtain ⟨c2, hc2⟩ : ∃ c2, c2 = c' - 1 := ⟨_, rfl⟩
      rw [← hA2] at C2
      rw [← hA2, ← hc2] at r1
      have HC2 := Lib.hid C2
      have HL2 : Hid (r.length ≤ c2) := by show _ ≤ _; omega
      have HGK : Hid (r.length + 1 = gk) := by show _ = _; omega
      have HLP2 : Hid (r.length + 1 + pre.length ≤ b.length) := by show _ ≤ _; omega
      have p0 : ((nn : Int) > 0) = True := eq_true (by omega)
      have p1 : (0 < nn) = True := eq_true (by omega)
      have e6 : IntKind.i64.wrap x = x := IntWalk.i64_in _ (by omega)
      have HBY2 : Hid (∀ y ∈ r, 0 ≤ y ∧ y ≤ 255) := fun y hy => HBY'.out y (List.mem_cons_of_mem _ hy)
      have HBX2 : Hid (Boxed (wr.setCell ⟨Bn, 0, none⟩ (.slice A2 r.length c2)) Bn 22 (.slice A2 r.length c2)) := HBX.out.set _
      have HJ2 := Lib.hid (HJS.out _ _ _ (.slice A2 r.length c2) HJ.out HBX.out)
      have HINF : Hid (Tryd.prog.info? 5 = some i0) := hinf
      have HONE : Hid (i0.size = 1) := hzz.2.1
      clear x0 x0w C2 hA2 hc2 hnn hn2 hcl hlp hk HC' HK HCL HLP HBY' hinf hzz HBX HJ
      by_cases hz0 : x = 0
      · subst hz0
        have HP2 := Lib.hid (pGo_zero.symm.trans HP.out)
        go_wp2_with fail
        go_roundg (r.length)
        case measure => have := HGK.out; omega
        case rel => exact ⟨r, A2, c2, pre, rfl, HL2, Lib.hid (by have := HLP2.out; omega), HBY2, HC2, HBX2, HJ2, HP2⟩
      · have q0 : (x == 0) = false := beq_eq_false_iff_ne.2 hz0
        have HZ0 := Lib.hid hz0
        clear hz0
        by_cases hz1 : x = 255
        · subst hz1
          have HR := Lib.hid (HP.out.symm.trans pGo_end)
          go_upto_region 5 with fail
          have y2 := HBX2.out.cell
          refine (wpIn_wide (n := n + 1)).1 ?_
          obtain ⟨fn, tmps, assign, body, hy, hR⟩ := HY2.out _ _ _ _ _ HJ2.out HC2.out HL2.out HR.out
          gi_wp2_with fail
          refine hR.mono ?_
          rintro e W3 ⟨⟨q, rfl⟩, hE⟩
          gi_wp2_with fail
          go_wp2_with fail
          refine bodyPost_ret (results_none rfl _ _ _) rfl ⟨⟨_, rfl⟩, hE⟩
        · have q1 : (x == 255) = false := beq_eq_false_iff_ne.2 hz1
          have HZ1 := Lib.hid hz1
          clear hz1
          obtain ⟨rn, hrn⟩ : ∃ rn, rn = r.length := ⟨_, rfl⟩
          obtain ⟨w2, hw2⟩ : ∃ W, wr.setCell ⟨Bn, 0, none⟩ (.slice A2 r.length c2) = W := ⟨_, rfl⟩
          rw [hw2] at HBX2 HJ2
          rw [← hrn] at r1 HBX2 hw2
          have HRN := Lib.hid hrn
          cases r with
          | nil =>
            have HR := Lib.hid (HP.out.symm.trans (pGo_lone HZ0.out HZ1.out))
            obtain rfl : rn = 0 := hrn
            go_wp2_with fail
            try rw [hw2]
            have y2 := HBX2.out.cell
            clear y1 z1 x0' hw2
            refine start_ (n := 13) (S := fun w' => w'.cell? ⟨Bn, 0, none⟩ = some (.slice A2 0 c2)) (ds := []) #[false, false, false, false, false, false, false, false, false, false, false, false, false] (by kernel_rfl) rfl rfl y2 (fun hHeld => ?_)
            refine take_ (i := 0) (N := some 23) (v := .slice A2 0 c2) (a' := ?_) #[true, false, false, false, false, false, false, false, false, false, false, false, false] rfl rfl (by kernel_rfl) (fun _ _ _ h => h) (Or.inl ⟨by rfl, ?_⟩) hHeld ?_ ?_
            · rintro w' s0
              go_simp
              try (with_reducible rfl)
            rotate_left
            · simp only [Act.put, List.setIfInBounds_toArray, List.set_cons_zero, List.set_cons_succ, i64_w, i32_w]
              rfl
            refine pure_ (i := 1) (N := some 24) (v := .int .i64 0) (a' := ?_) #[true, true, false, false, false, false, false, false, false, false, false, false, false] rfl rfl (by kernel_rfl) (fun _ _ _ h => h) (Or.inl ⟨by rfl, ?_⟩) ?_ ?_
            · intro w'
              go_simp
              try (with_reducible rfl)
            rotate_left
            · simp only [Act.put, List.setIfInBounds_toArray, List.set_cons_zero, List.set_cons_succ, i64_w, i32_w]
              rfl
            refine pure_ (i := 2) (N := some 25) (v := .bool true) (a' := ?_) #[true, true, true, false, false, false, false, false, false, false, false, false, false] rfl rfl (by kernel_rfl) (fun _ _ _ h => h) (Or.inl ⟨by rfl, ?_⟩) ?_ ?_
            · intro w'
              go_simp
              try (with_reducible rfl)
            rotate_left
            · simp only [Act.put, List.setIfInBounds_toArray, List.set_cons_zero, List.set_cons_succ, i64_w, i32_w]
              rfl
            refine pure_ (i := 3) (N := some 26) (v := .bool true) (a' := ?_) #[true, true, true, true, false, false, false, false, false, false, false, false, false] rfl rfl (by kernel_rfl) (fun _ _ _ h => h) (Or.inl ⟨by rfl, ?_⟩) ?_ ?_
            · intro w'
              go_simp
              try (with_reducible rfl)
            rotate_left
            · simp only [Act.put, List.setIfInBounds_toArray, List.set_cons_zero, List.set_cons_succ, i64_w, i32_w]
              rfl
            refine pure_ (i := 4) (N := some 27) (v := undef) (a' := ?_) #[true, true, true, true, true, false, false, false, false, false, false, false, false] rfl rfl (by kernel_rfl) (fun _ _ _ h => h) (Or.inr ⟨by rfl, rfl⟩) ?_ ?_
            rotate_left
            · simp only [Act.put, List.setIfInBounds_toArray, List.set_cons_zero, List.set_cons_succ, i64_w, i32_w]
              rfl
            refine pure_ (i := 5) (N := some 28) (v := undef) (a' := ?_) #[true, true, true, true, true, true, false, false, false, false, false, false, false] rfl rfl (by kernel_rfl) (fun _ _ _ h => h) (Or.inr ⟨by rfl, rfl⟩) ?_ ?_
            rotate_left
            · simp only [Act.put, List.setIfInBounds_toArray, List.set_cons_zero, List.set_cons_succ, i64_w, i32_w]
              rfl
            refine pure_ (i := 6) (N := some 29) (v := undef) (a' := ?_) #[true, true, true, true, true, true, true, false, false, false, false, false, false] rfl rfl (by kernel_rfl) (fun _ _ _ h => h) (Or.inr ⟨by rfl, rfl⟩) ?_ ?_
            rotate_left
            · simp only [Act.put, List.setIfInBounds_toArray, List.set_cons_zero, List.set_cons_succ, i64_w, i32_w]
              rfl
            refine pure_ (i := 7) (N := some 30) (v := undef) (a' := ?_) #[true, true, true, true, true, true, true, true, false, false, false, false, false] rfl rfl (by kernel_rfl) (fun _ _ _ h => h) (Or.inr ⟨by rfl, rfl⟩) ?_ ?_
            rotate_left
            · simp only [Act.put, List.setIfInBounds_toArray, List.set_cons_zero, List.set_cons_succ, i64_w, i32_w]
              rfl
            refine pure_ (i := 8) (N := some 31) (v := undef) (a' := ?_) #[true, true, true, true, true, true, true, true, true, false, false, false, false] rfl rfl (by kernel_rfl) (fun _ _ _ h => h) (Or.inr ⟨by rfl, rfl⟩) ?_ ?_
            rotate_left
            · simp only [Act.put, List.setIfInBounds_toArray, List.set_cons_zero, List.set_cons_succ, i64_w, i32_w]
              rfl
            refine pure_ (i := 9) (N := some 32) (v := undef) (a' := ?_) #[true, true, true, true, true, true, true, true, true, true, false, false, false] rfl rfl (by kernel_rfl) (fun _ _ _ h => h) (Or.inr ⟨by rfl, rfl⟩) ?_ ?_
            rotate_left
            · simp only [Act.put, List.setIfInBounds_toArray, List.set_cons_zero, List.set_cons_succ, i64_w, i32_w]
              rfl
            refine pure_ (i := 10) (N := some 33) (v := undef) (a' := ?_) #[true, true, true, true, true, true, true, true, true, true, true, false, false] rfl rfl (by kernel_rfl) (fun _ _ _ h => h) (Or.inr ⟨by rfl, rfl⟩) ?_ ?_
            rotate_left
            · simp only [Act.put, List.setIfInBounds_toArray, List.set_cons_zero, List.set_cons_succ, i64_w, i32_w]
              rfl
            refine pure_ (i := 11) (N := some 34) (v := undef) (a' := ?_) #[true, true, true, true, true, true, true, true, true, true, true, true, false] rfl rfl (by kernel_rfl) (fun _ _ _ h => h) (Or.inr ⟨by rfl, rfl⟩) ?_ ?_
            rotate_left
            · simp only [Act.put, List.setIfInBounds_toArray, List.set_cons_zero, List.set_cons_succ, i64_w, i32_w]
              rfl
            refine pure_ (i := 12) (N := some 35) (v := .bool true) (a' := ?_) #[true, true, true, true, true, true, true, true, true, true, true, true, true] rfl rfl (by kernel_rfl) (fun _ _ _ h => h) (Or.inl ⟨by rfl, ?_⟩) ?_ ?_
            · intro w'
              go_simp
              try (with_reducible rfl)
            rotate_left
            · simp only [Act.put, List.setIfInBounds_toArray, List.set_cons_zero, List.set_cons_succ, i64_w, i32_w]
              rfl
            refine done_ (by kernel_rfl) ?_
            go_upto_region 11 with fail
            refine (wpIn_wide (n := n + 1)).1 ?_
            obtain ⟨fn, tmps, assign, body, hy, hR⟩ := HY3.out _ _ (HJG.out _ _ _ HJ2.out (below_drew (Below.refl _ _))) HR.out
            gi_wp2_with fail
            refine hR.mono ?_
            rintro e W3 ⟨⟨q, rfl⟩, hE⟩
            gi_wp2_with fail
            go_end0
            exact ⟨⟨_, rfl⟩, hE⟩
          | cons m s =>
            obtain ⟨mm, rfl⟩ : ∃ mm : Nat, m = mm := Int.eq_ofNat_of_zero_le (HBY2.out m (by simp)).1
            have hm255 : (mm : Int) ≤ 255 := (HBY2.out mm (by simp)).2
            obtain ⟨ad2, rfl, xm⟩ := Kd.at_int HC2.out 0 (by omega) (by simp only [List.length_cons]; omega)
            have xm0 : w0.cell? ad2 = some (.int .u8 (mm : Int)) := xm
            have HXM := Lib.hid xm0
            have hrs : rn = s.length + 1 := hrn
            have hlb := HLP2.out
            have hl2 := HL2.out
            rw [← hrn] at hlb hl2
            have e7 : IntKind.i64.wrap (mm : Int) = (mm : Int) := IntWalk.i64_in _ (by omega)
            have e8 : IntKind.i64.wrap ((rn : Int) - 1) = (s.length : Int) := by rw [IntWalk.i64_in _ (by omega)]; omega
            have q2 : ((rn : Int) == 0) = false := beq_eq_false_iff_ne.2 (by omega)
            have q3 : (rn == 0) = false := beq_eq_false_iff_ne.2 (by omega)
            have q4 : (rn = 0) = False := eq_false (by omega)
            have p2 : ((0 : Int) < (rn : Int)) = True := eq_true (by omega)
            have p3 : (0 < rn) = True := eq_true (by omega)
            have HRS := Lib.hid hrs
            have HLB := Lib.hid hlb
            clear xm xm0 hrs hrn
            by_cases hms : mm ≤ s.length
            · have HP2 := Lib.hid ((pGo_step HZ0.out HZ1.out (by rw [Int.toNat_natCast]; exact hms)).symm.trans HP.out)
              obtain ⟨m1, hm1⟩ : ∃ m1 : Int, (mm : Int) + 1 = m1 := ⟨_, rfl⟩
              have g1 : ((mm : Int) > (s.length : Int)) = False := eq_false (by omega)
              have g2 : (s.length < mm) = False := eq_false (by omega)
              have e9 : IntKind.i64.wrap ((mm : Int) + 1) = m1 := by rw [IntWalk.i64_in _ (by omega)]; exact hm1
              have hrs := HRS.out
              have hrl : ((mm : Int) :: s).length = rn := HRS.out.symm
              have hC2 := HC2.out
              obtain ⟨A4, c4, ys, HYS, hrun, hC4, hcl4⟩ := mid_kp (P := Tryd.prog) (Kd.int .u8) 22 5 Tryd.underlying22 HINF.out HONE.out (some ad2) c2 ((mm : Int) :: s) 1 m1 (by omega) (by omega) (by rw [hrl]; omega) (by rw [hrl]; exact hl2) w0 hC2
              rw [hrl] at hrun
              have HYE : Hid (ys = s.take mm) := by
                show _ = _
                rw [HYS.out, ← hm1, show ((mm : Int) + 1).toNat = mm + 1 from by omega]
                rfl
              have hyl : ys.length = mm := by rw [HYE.out, List.length_take]; omega
              have HCC := Lib.hid (fun W9 (hW9 : Below w0.heap.size w0 W9) => clone_calls A4 c4 ys W9 (Kd.C_below hC4 hW9) hcl4 (by omega))
              have r3 := cut_from (P := Tryd.prog) 22 5 .i64 Tryd.underlying22 HINF.out 1 HONE.out (some ad2) rn c2 m1 (by omega) (by omega)
              have C5 := Kd.C_drop (c := c2) (m := mm + 1) hC2 (by rw [hrl]; omega) (by rw [hrl]; exact hl2)
              rw [show (Kd.int .u8).sz = 1 from rfl, Nat.mul_one] at C5
              change (Kd.int .u8).C w0 _ (s.drop mm).length (s.drop mm) at C5
              obtain ⟨s5, hs5⟩ : ∃ s5, s5 = s.drop mm := ⟨_, rfl⟩
              have hs5l : s5.length = s.length - mm := by rw [hs5, List.length_drop]
              rw [← hs5] at C5
              rw [show m1.toNat = mm + 1 from by omega, Nat.mul_one, show rn - (mm + 1) = s5.length from by omega] at r3
              obtain ⟨A5, hA5⟩ : ∃ A5, A5 = (if c2 = mm + 1 then some ad2 else (some ad2).map (·.add (mm + 1))) := ⟨_, rfl⟩
              obtain ⟨c5, hc5⟩ : ∃ c5, c5 = c2 - (mm + 1) := ⟨_, rfl⟩
              rw [← hA5, ← hc5] at r3
              rw [← hA5] at C5
              have HC5 := Lib.hid C5
              have HL5 : Hid (s5.length ≤ c5) := by show _ ≤ _; omega
              have HLP5 : Hid (s5.length + (pre.length + 1) ≤ b.length) := by show _ ≤ _; omega
              have HPL : Hid (pre.length < b.length) := by show _ < _; omega
              have HYL : Hid (ys.length ≤ b.length) := by show _ ≤ _; omega
              have HS5 := Lib.hid hs5
              have HM5 : Hid (s5.length < gk) := by have h1 := HGK.out; have h2 := HRS.out; show _ < _; simp only [List.length_cons] at h1; omega
              clear hA5 hc5 hs5 hs5l C5 hC4 hcl4 hyl hC2 hrl hm1 hrs
              go_wp2_with fail
              try rw [hw2]
              have y2 := HBX2.out.cell
              have y3 := ((HJB.out _ _ HJ2.out).cell (World.block_lt_of_cell? w0 _ HXM.out)).trans HXM.out
              clear y1 z1 x0' hw2 hlb
              refine start_ (n := 13) (S := fun w' => w'.cell? ⟨Bn, 0, none⟩ = some (.slice (some ad2) rn c2) ∧ w'.cell? ad2 = some (.int .u8 (mm : Int))) (ds := []) #[false, false, false, false, false, false, false, false, false, false, false, false, false] (by kernel_rfl) rfl rfl ⟨y2, y3⟩ (fun hHeld => ?_)
              refine take_ (i := 0) (N := some 23) (v := .slice (some ad2) rn c2) (a' := ?_) #[true, false, false, false, false, false, false, false, false, false, false, false, false] rfl rfl (by kernel_rfl) (fun _ _ _ h => h) (Or.inl ⟨by rfl, ?_⟩) hHeld ?_ ?_
              · rintro w' ⟨s0, s1⟩
                go_simp
                try (with_reducible rfl)
              rotate_left
              · simp only [Act.put, List.setIfInBounds_toArray, List.set_cons_zero, List.set_cons_succ, i64_w, i32_w]
                rfl
              refine pure_ (i := 1) (N := some 24) (v := .int .i64 rn) (a' := ?_) #[true, true, false, false, false, false, false, false, false, false, false, false, false] rfl rfl (by kernel_rfl) (fun _ _ _ h => h) (Or.inl ⟨by rfl, ?_⟩) ?_ ?_
              · intro w'
                go_simp
                try (with_reducible rfl)
              rotate_left
              · simp only [Act.put, List.setIfInBounds_toArray, List.set_cons_zero, List.set_cons_succ, i64_w, i32_w]
                rfl
              refine pure_ (i := 2) (N := some 25) (v := .bool false) (a' := ?_) #[true, true, true, false, false, false, false, false, false, false, false, false, false] rfl rfl (by kernel_rfl) (fun _ _ _ h => h) (Or.inl ⟨by rfl, ?_⟩) ?_ ?_
              · intro w'
                go_simp
                try (with_reducible rfl)
              rotate_left
              · simp only [Act.put, List.setIfInBounds_toArray, List.set_cons_zero, List.set_cons_succ, i64_w, i32_w]
                rfl
              refine pure_ (i := 3) (N := some 26) (v := .bool false) (a' := ?_) #[true, true, true, true, false, false, false, false, false, false, false, false, false] rfl rfl (by kernel_rfl) (fun _ _ _ h => h) (Or.inl ⟨by rfl, ?_⟩) ?_ ?_
              · intro w'
                go_simp
                try (with_reducible rfl)
              rotate_left
              · simp only [Act.put, List.setIfInBounds_toArray, List.set_cons_zero, List.set_cons_succ, i64_w, i32_w]
                rfl
              refine take_ (i := 4) (N := some 27) (v := .slice (some ad2) rn c2) (a' := ?_) #[true, true, true, true, true, false, false, false, false, false, false, false, false] rfl rfl (by kernel_rfl) (fun _ _ _ h => h) (Or.inl ⟨by rfl, ?_⟩) hHeld ?_ ?_
              · rintro w' ⟨s0, s1⟩
                go_simp
                try (with_reducible rfl)
              rotate_left
              · simp only [Act.put, List.setIfInBounds_toArray, List.set_cons_zero, List.set_cons_succ, i64_w, i32_w]
                rfl
              refine pure_ (i := 5) (N := some 28) (v := .pointer (some ad2)) (a' := ?_) #[true, true, true, true, true, true, false, false, false, false, false, false, false] rfl rfl (by kernel_rfl) (fun _ _ _ h => h) (Or.inl ⟨by rfl, ?_⟩) ?_ ?_
              · intro w'
                go_simp
                try (with_reducible rfl)
              rotate_left
              · simp only [Act.put, List.setIfInBounds_toArray, List.set_cons_zero, List.set_cons_succ, i64_w, i32_w]
                rfl
              refine take_ (i := 6) (N := some 29) (v := .int .u8 (mm : Int)) (a' := ?_) #[true, true, true, true, true, true, true, false, false, false, false, false, false] rfl rfl (by kernel_rfl) (fun _ _ _ h => h) (Or.inl ⟨by rfl, ?_⟩) hHeld ?_ ?_
              · rintro w' ⟨s0, s1⟩
                go_simp
                try (with_reducible rfl)
              rotate_left
              · simp only [Act.put, List.setIfInBounds_toArray, List.set_cons_zero, List.set_cons_succ, i64_w, i32_w]
                rfl
              refine pure_ (i := 7) (N := some 30) (v := .int .i64 (mm : Int)) (a' := ?_) #[true, true, true, true, true, true, true, true, false, false, false, false, false] rfl rfl (by kernel_rfl) (fun _ _ _ h => h) (Or.inl ⟨by rfl, ?_⟩) ?_ ?_
              · intro w'
                go_simp
                try (with_reducible rfl)
              rotate_left
              · simp only [Act.put, List.setIfInBounds_toArray, List.set_cons_zero, List.set_cons_succ, i64_w, i32_w]
                rfl
              refine take_ (i := 8) (N := some 31) (v := .slice (some ad2) rn c2) (a' := ?_) #[true, true, true, true, true, true, true, true, true, false, false, false, false] rfl rfl (by kernel_rfl) (fun _ _ _ h => h) (Or.inl ⟨by rfl, ?_⟩) hHeld ?_ ?_
              · rintro w' ⟨s0, s1⟩
                go_simp
                try (with_reducible rfl)
              rotate_left
              · simp only [Act.put, List.setIfInBounds_toArray, List.set_cons_zero, List.set_cons_succ, i64_w, i32_w]
                rfl
              refine pure_ (i := 9) (N := some 32) (v := .int .i64 rn) (a' := ?_) #[true, true, true, true, true, true, true, true, true, true, false, false, false] rfl rfl (by kernel_rfl) (fun _ _ _ h => h) (Or.inl ⟨by rfl, ?_⟩) ?_ ?_
              · intro w'
                go_simp
                try (with_reducible rfl)
              rotate_left
              · simp only [Act.put, List.setIfInBounds_toArray, List.set_cons_zero, List.set_cons_succ, i64_w, i32_w]
                rfl
              refine pure_ (i := 10) (N := some 33) (v := .int .i64 (s.length : Int)) (a' := ?_) #[true, true, true, true, true, true, true, true, true, true, true, false, false] rfl rfl (by kernel_rfl) (fun _ _ _ h => h) (Or.inl ⟨by rfl, ?_⟩) ?_ ?_
              · intro w'
                go_simp
                try (with_reducible rfl)
              rotate_left
              · simp only [Act.put, List.setIfInBounds_toArray, List.set_cons_zero, List.set_cons_succ, i64_w, i32_w]
                rfl
              refine pure_ (i := 11) (N := some 34) (v := .bool false) (a' := ?_) #[true, true, true, true, true, true, true, true, true, true, true, true, false] rfl rfl (by kernel_rfl) (fun _ _ _ h => h) (Or.inl ⟨by rfl, ?_⟩) ?_ ?_
              · intro w'
                go_simp
                try (with_reducible rfl)
              rotate_left
              · simp only [Act.put, List.setIfInBounds_toArray, List.set_cons_zero, List.set_cons_succ, i64_w, i32_w]
                rfl
              refine pure_ (i := 12) (N := some 35) (v := .bool false) (a' := ?_) #[true, true, true, true, true, true, true, true, true, true, true, true, true] rfl rfl (by kernel_rfl) (fun _ _ _ h => h) (Or.inl ⟨by rfl, ?_⟩) ?_ ?_
              · intro w'
                go_simp
                try (with_reducible rfl)
              rotate_left
              · simp only [Act.put, List.setIfInBounds_toArray, List.set_cons_zero, List.set_cons_succ, i64_w, i32_w]
                rfl
              refine done_ (by kernel_rfl) ?_
              obtain ⟨w3, hw3⟩ : ∃ W, w2.drew = W := ⟨_, rfl⟩
              have hb3 : Below w2.heap.size w2 w3 := by rw [← hw3]; exact below_drew (Below.refl _ _)
              have HBX3 := Lib.hid (boxed_blw HBX2.out hb3)
              have HJ3 := Lib.hid (HJG.out _ _ _ HJ2.out hb3)
              rw [hw3]
              clear hw3 hb3 y2 y3 HBX2 HJ2
              have y2 := HBX3.out.cell
              have y3 := ((HJB.out _ _ HJ3.out).cell (World.block_lt_of_cell? w0 _ HXM.out)).trans HXM.out
              go_wp2_with fail
              refine (HCC.out _ (HJB.out _ _ HJ3.out)).mono ?_
              rintro e w4 ⟨v4, rfl, hv4, hb4⟩
              obtain ⟨Ad, cd, rfl⟩ := Kd.R_slice hv4
              have HBX4 := Lib.hid (boxed_blw HBX3.out hb4)
              have HB4 := Lib.hid hb4
              have HV4 := Lib.hid hv4
              clear y2 y3 hv4 hb4
              have y2 := HBX4.out.cell
              go_upto_region 9 with fail
              obtain ⟨bx, hbx⟩ : ∃ b, w4.heap.size = b := ⟨_, rfl⟩
              obtain ⟨w5, hw5⟩ : ∃ W, w4.alloc (.cells #[.int .i64 x, .slice Ad ys.length cd] 39) = W := ⟨_, rfl⟩
              have hb5 : Below w4.heap.size w4 w5 := by rw [← hw5]; exact below_alloc (Below.refl _ _) _
              have HX5 : Hid (w5.heap[bx]? = some (.cells #[.int .i64 x, .slice Ad ys.length cd] 39 (0, 0))) := by show _ = _; rw [← hw5, ← hbx]; exact blk_new _ _
              have HBX5 := Lib.hid (boxed_blw HBX4.out hb5)
              have HNB : Hid (bx ≠ Bn) := by have := HBX4.out.lt; show _ ≠ _; omega
              have HV5 := Lib.hid (Kd.R_below HV4.out hb5)
              have HO5 := Lib.hid (OneBut.of_below (HB4.out.trans (hb5.mono HB4.out.size)) Bn)
              rw [hw5, hbx]
              clear hw5 hbx hb5 y2 HV4 HB4 HBX4
              have y2 := HBX5.out.cell
              have z2 := HBX5.out.frozen
              go_upto_region 10 with fail
              obtain ⟨w6, hw6⟩ : ∃ W, w5.setCell ⟨Bn, 0, none⟩ (.slice A5 s5.length c5) = W := ⟨_, rfl⟩
              have HBX6 : Hid (Boxed w6 Bn 22 (.slice A5 s5.length c5)) := by show Boxed _ _ _ _; rw [← hw6]; exact HBX5.out.set _
              have HX6 : Hid (w6.heap[bx]? = some (.cells #[.int .i64 x, .slice Ad ys.length cd] 39 (0, 0))) := by show _ = _; rw [← hw6]; exact (Below.heap_setCell _ _ _ _ HNB.out).trans HX5.out
              have HO6 : Hid (OneBut w3 w6 Bn) := by show OneBut _ _ _; rw [← hw6]; exact HO5.out.set _
              have HV6 : Hid ((Kd.int .u8).R 5 w6 w3.heap.size (fun _ => True) (.slice Ad ys.length cd) ys) := by
                show Kd.R _ _ _ _ _ _ _
                rw [← hw6]
                refine Kd.R_mono (Kd.R_move (Kd.R_bound HV5.out) (fun k hk => Below.heap_setCell _ _ _ _ ?_)) (fun _ hk => hk.1)
                have h1 := hk.2.1
                have h2 := HBX3.out.lt
                show k ≠ Bn
                omega
              rw [hw6]
              clear hw6 y2 z2 HV5 HO5 HX5 HBX5
              have y2 := HBX6.out.cell
              have y3 := (blk_cell HX6.out 0).trans rfl
              have y4 := (blk_cell HX6.out 1).trans rfl
              refine (wpIn_wide (n := n + 1)).1 ?_
              obtain ⟨fn, tmps, assign, body, hy, hR⟩ := HY1.out _ _ _ x ys Ad cd A5 s5.length c5 _ HJ3.out ⟨_, HBX3.out⟩ HO6.out HPL.out HYL.out HV6.out HZ0.out HZ1.out HBX6.out
              gi_wp2_with fail
              refine hR.mono ?_
              rintro e W3 ⟨rfl, hJ7, hB7⟩
              gi_wp2_with fail
              go_wp2_with fail
              have HBY5 : Hid (∀ y ∈ s5, 0 ≤ y ∧ y ≤ 255) := fun y hy2 => HBY2.out y (List.mem_cons_of_mem _ (List.mem_of_mem_drop (HS5.out ▸ hy2)))
              have HP5 : Hid (pGo s5 (pre ++ [⟨x, ys⟩]) = pGo b []) := by
                have h1 := HP2.out
                rw [Int.toNat_natCast, ← HYE.out, ← HS5.out] at h1
                exact h1
              go_roundg (s5.length)
              case measure => exact HM5.out
              case rel => exact ⟨s5, A5, c5, pre ++ [⟨x, ys⟩], rfl, HL5, Lib.hid (by have := HLP5.out; simp only [List.length_append, List.length_singleton]; omega), HBY5, HC5, Lib.hid hB7, Lib.hid hJ7, HP5⟩
            · have HR := Lib.hid (HP.out.symm.trans (pGo_stop HZ0.out HZ1.out (by rw [Int.toNat_natCast]; exact hms)))
              have g1 : ((mm : Int) > (s.length : Int)) = True := eq_true (by omega)
              have g2 : (s.length < mm) = True := eq_true (by omega)
              go_wp2_with fail
              try rw [hw2]
              have y2 := HBX2.out.cell
              have y3 := ((HJB.out _ _ HJ2.out).cell (World.block_lt_of_cell? w0 _ HXM.out)).trans HXM.out
              clear y1 z1 x0' hw2 hlb
              refine start_ (n := 13) (S := fun w' => w'.cell? ⟨Bn, 0, none⟩ = some (.slice (some ad2) rn c2) ∧ w'.cell? ad2 = some (.int .u8 (mm : Int))) (ds := []) #[false, false, false, false, false, false, false, false, false, false, false, false, false] (by kernel_rfl) rfl rfl ⟨y2, y3⟩ (fun hHeld => ?_)
              refine take_ (i := 0) (N := some 23) (v := .slice (some ad2) rn c2) (a' := ?_) #[true, false, false, false, false, false, false, false, false, false, false, false, false] rfl rfl (by kernel_rfl) (fun _ _ _ h => h) (Or.inl ⟨by rfl, ?_⟩) hHeld ?_ ?_
              · rintro w' ⟨s0, s1⟩
                go_simp
                try (with_reducible rfl)
              rotate_left
              · simp only [Act.put, List.setIfInBounds_toArray, List.set_cons_zero, List.set_cons_succ, i64_w, i32_w]
                rfl
              refine pure_ (i := 1) (N := some 24) (v := .int .i64 rn) (a' := ?_) #[true, true, false, false, false, false, false, false, false, false, false, false, false] rfl rfl (by kernel_rfl) (fun _ _ _ h => h) (Or.inl ⟨by rfl, ?_⟩) ?_ ?_
              · intro w'
                go_simp
                try (with_reducible rfl)
              rotate_left
              · simp only [Act.put, List.setIfInBounds_toArray, List.set_cons_zero, List.set_cons_succ, i64_w, i32_w]
                rfl
              refine pure_ (i := 2) (N := some 25) (v := .bool false) (a' := ?_) #[true, true, true, false, false, false, false, false, false, false, false, false, false] rfl rfl (by kernel_rfl) (fun _ _ _ h => h) (Or.inl ⟨by rfl, ?_⟩) ?_ ?_
              · intro w'
                go_simp
                try (with_reducible rfl)
              rotate_left
              · simp only [Act.put, List.setIfInBounds_toArray, List.set_cons_zero, List.set_cons_succ, i64_w, i32_w]
                rfl
              refine pure_ (i := 3) (N := some 26) (v := .bool false) (a' := ?_) #[true, true, true, true, false, false, false, false, false, false, false, false, false] rfl rfl (by kernel_rfl) (fun _ _ _ h => h) (Or.inl ⟨by rfl, ?_⟩) ?_ ?_
              · intro w'
                go_simp
                try (with_reducible rfl)
              rotate_left
              · simp only [Act.put, List.setIfInBounds_toArray, List.set_cons_zero, List.set_cons_succ, i64_w, i32_w]
                rfl
              refine take_ (i := 4) (N := some 27) (v := .slice (some ad2) rn c2) (a' := ?_) #[true, true, true, true, true, false, false, false, false, false, false, false, false] rfl rfl (by kernel_rfl) (fun _ _ _ h => h) (Or.inl ⟨by rfl, ?_⟩) hHeld ?_ ?_
              · rintro w' ⟨s0, s1⟩
                go_simp
                try (with_reducible rfl)
              rotate_left
              · simp only [Act.put, List.setIfInBounds_toArray, List.set_cons_zero, List.set_cons_succ, i64_w, i32_w]
                rfl
              refine pure_ (i := 5) (N := some 28) (v := .pointer (some ad2)) (a' := ?_) #[true, true, true, true, true, true, false, false, false, false, false, false, false] rfl rfl (by kernel_rfl) (fun _ _ _ h => h) (Or.inl ⟨by rfl, ?_⟩) ?_ ?_
              · intro w'
                go_simp
                try (with_reducible rfl)
              rotate_left
              · simp only [Act.put, List.setIfInBounds_toArray, List.set_cons_zero, List.set_cons_succ, i64_w, i32_w]
                rfl
              refine take_ (i := 6) (N := some 29) (v := .int .u8 (mm : Int)) (a' := ?_) #[true, true, true, true, true, true, true, false, false, false, false, false, false] rfl rfl (by kernel_rfl) (fun _ _ _ h => h) (Or.inl ⟨by rfl, ?_⟩) hHeld ?_ ?_
              · rintro w' ⟨s0, s1⟩
                go_simp
                try (with_reducible rfl)
              rotate_left
              · simp only [Act.put, List.setIfInBounds_toArray, List.set_cons_zero, List.set_cons_succ, i64_w, i32_w]
                rfl
              refine pure_ (i := 7) (N := some 30) (v := .int .i64 (mm : Int)) (a' := ?_) #[true, true, true, true, true, true, true, true, false, false, false, false, false] rfl rfl (by kernel_rfl) (fun _ _ _ h => h) (Or.inl ⟨by rfl, ?_⟩) ?_ ?_
              · intro w'
                go_simp
                try (with_reducible rfl)
              rotate_left
              · simp only [Act.put, List.setIfInBounds_toArray, List.set_cons_zero, List.set_cons_succ, i64_w, i32_w]
                rfl
              refine take_ (i := 8) (N := some 31) (v := .slice (some ad2) rn c2) (a' := ?_) #[true, true, true, true, true, true, true, true, true, false, false, false, false] rfl rfl (by kernel_rfl) (fun _ _ _ h => h) (Or.inl ⟨by rfl, ?_⟩) hHeld ?_ ?_
              · rintro w' ⟨s0, s1⟩
                go_simp
                try (with_reducible rfl)
              rotate_left
              · simp only [Act.put, List.setIfInBounds_toArray, List.set_cons_zero, List.set_cons_succ, i64_w, i32_w]
                rfl
              refine pure_ (i := 9) (N := some 32) (v := .int .i64 rn) (a' := ?_) #[true, true, true, true, true, true, true, true, true, true, false, false, false] rfl rfl (by kernel_rfl) (fun _ _ _ h => h) (Or.inl ⟨by rfl, ?_⟩) ?_ ?_
              · intro w'
                go_simp
                try (with_reducible rfl)
              rotate_left
              · simp only [Act.put, List.setIfInBounds_toArray, List.set_cons_zero, List.set_cons_succ, i64_w, i32_w]
                rfl
              refine pure_ (i := 10) (N := some 33) (v := .int .i64 (s.length : Int)) (a' := ?_) #[true, true, true, true, true, true, true, true, true, true, true, false, false] rfl rfl (by kernel_rfl) (fun _ _ _ h => h) (Or.inl ⟨by rfl, ?_⟩) ?_ ?_
              · intro w'
                go_simp
                try (with_reducible rfl)
              rotate_left
              · simp only [Act.put, List.setIfInBounds_toArray, List.set_cons_zero, List.set_cons_succ, i64_w, i32_w]
                rfl
              refine pure_ (i := 11) (N := some 34) (v := .bool true) (a' := ?_) #[true, true, true, true, true, true, true, true, true, true, true, true, false] rfl rfl (by kernel_rfl) (fun _ _ _ h => h) (Or.inl ⟨by rfl, ?_⟩) ?_ ?_
              · intro w'
                go_simp
                try (with_reducible rfl)
              rotate_left
              · simp only [Act.put, List.setIfInBounds_toArray, List.set_cons_zero, List.set_cons_succ, i64_w, i32_w]
                rfl
              refine pure_ (i := 12) (N := some 35) (v := .bool true) (a' := ?_) #[true, true, true, true, true, true, true, true, true, true, true, true, true] rfl rfl (by kernel_rfl) (fun _ _ _ h => h) (Or.inl ⟨by rfl, ?_⟩) ?_ ?_
              · intro w'
                go_simp
                try (with_reducible rfl)
              rotate_left
              · simp only [Act.put, List.setIfInBounds_toArray, List.set_cons_zero, List.set_cons_succ, i64_w, i32_w]
                rfl
              refine done_ (by kernel_rfl) ?_
              go_upto_region 11 with fail
              refine (wpIn_wide (n := n + 1)).1 ?_
              obtain ⟨fn, tmps, assign, body, hy, hR⟩ := HY3.out _ _ (HJG.out _ _ _ HJ2.out (below_drew (Below.refl _ _))) HR.out
              gi_wp2_with fail
              refine hR.mono ?_
              rintro e W3 ⟨⟨q, rfl⟩, hE⟩
              gi_wp2_with fail
              go_end0
              exact ⟨⟨_, rfl⟩, hE⟩
end Go.Proofs.YtmbfdmceameghaaDoor
end
