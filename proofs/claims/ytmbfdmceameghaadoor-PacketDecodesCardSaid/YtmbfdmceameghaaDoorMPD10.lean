/-
  Printed: PrF7.
-/
import Derived.Test.YtmbfdmceameghaaDoorMPD2
import Derived.Test.YtmbfdmceameghaaDoorMPD9
import Derived.Test.YtmbfdmceameghaaDoorMPD8
import Derived.Test.YtmbfdmceameghaaDoorMPD3

section
-- written by a program of this session (wip/tools/gen.py) over the kit's print
namespace Go.Proofs.YtmbfdmceameghaaDoor.Pr
open Go.RowKit Go.Proofs.YtmbfdmceameghaaDoorW.PrintWords Go.Proofs.YtmbfdmceameghaaDoorW.PrintLast Go.Proofs.YtmbfdmceameghaaDoorW.PrintMore
attribute [local go_sem] max2_int min2_int max_two min_two max_three min_three max_four min_four   -- for this text's walks alone
set_option linter.unusedVariables false
set_option linter.unusedSimpArgs false

/-! ### lessorref03_Decode: function 7 -/
mutual
def lessorref03_Decode.j0 : Nat → List Int → Bool → Option (Int × Int × Int × Int × Int × Int × Int × Int × List Int × (List (S39)) × Int)
 | 0, _, _ => none
 | k + 1, x0, x23 => if x23 = true then (some (0, 0, 0, 0, 0, 0, 0, 0, ([] : List Int), ([] : List (S39)), 2)) else (if 0 < (x0.length : Int) then (if 4 ≤ 8 then (if 8 ≤ (x0.length : Int) then ((lessorref03_of.f k ((x0.take 8).drop 4)).bind fun t259 => (if 8 ≤ 10 then (if 10 ≤ (x0.length : Int) then ((lessorref03_of.f k ((x0.take 10).drop 8)).bind fun t261 => (if 10 ≤ 12 then (if 12 ≤ (x0.length : Int) then ((lessorref03_of.f k ((x0.take 12).drop 10)).bind fun t263 => (if 12 ≤ 16 then (if 16 ≤ (x0.length : Int) then ((lessorref03_of.f k ((x0.take 16).drop 12)).bind fun t266 => (if 16 ≤ 20 then (if 20 ≤ (x0.length : Int) then ((lessorref03_of.f k ((x0.take 20).drop 16)).bind fun t268 => (if 20 ≤ 24 then (if 24 ≤ (x0.length : Int) then ((lessorref03_of.f k ((x0.take 24).drop 20)).bind fun t270 => (if 24 ≤ 28 then (if 28 ≤ (x0.length : Int) then ((lessorref03_of.f k ((x0.take 28).drop 24)).bind fun t272 => ((some (([] : List Int) : List Int)).bind fun y273 => (if 2 < (x0.length : Int) then (if 28 ≤ (wrap64 (28 + (wrap64 (rd x0 2)))) then (if (wrap64 (28 + (wrap64 (rd x0 2)))) ≤ (x0.length : Int) then (if y273.length + ((x0.take ((wrap64 (28 + (wrap64 (rd x0 2)))) : Int).toNat).drop 28).length < 140737488355328 then ((some (y273 ++ ((x0.take ((wrap64 (28 + (wrap64 (rd x0 2)))) : Int).toNat).drop 28) : List Int)).bind fun y278 => ((lessorref03_Encode.f k (wrap64 (rd x0 0)) ((t259) % 4294967296) t261 t263 ((t266) % 4294967296) ((t268) % 4294967296) ((t270) % 4294967296) ((t272) % 4294967296) y278 ([] : List (S39))).bind fun bt281 => (if bt281.2 = 0 then (if 240 ≤ (bt281.1.length : Int) then (if 240 ≤ (x0.length : Int) then (lessorref03_Decode.j1 k x0 ((strOfNums (bt281.1.take 240)).toList != (strOfNums (x0.take 240)).toList) (wrap64 (rd x0 0)) ((t259) % 4294967296) t261 t263 ((t266) % 4294967296) ((t268) % 4294967296) ((t270) % 4294967296) ((t272) % 4294967296) y278) else (none)) else (none)) else (lessorref03_Decode.j1 k x0 true (wrap64 (rd x0 0)) ((t259) % 4294967296) t261 t263 ((t266) % 4294967296) ((t268) % 4294967296) ((t270) % 4294967296) ((t272) % 4294967296) y278)))) else (none)) else (none)) else (none)) else (none)))) else (none)) else (none))) else (none)) else (none))) else (none)) else (none))) else (none)) else (none))) else (none)) else (none))) else (none)) else (none))) else (none)) else (none)) else (none))
def lessorref03_Decode.j1 : Nat → List Int → Bool → Int → Int → Int → Int → Int → Int → Int → Int → List Int → Option (Int × Int × Int × Int × Int × Int × Int × Int × List Int × (List (S39)) × Int)
 | 0, _, _, _, _, _, _, _, _, _, _, _ => none
 | k + 1, x0, x85, x265000, x265001, x265002, x265003, x265004, x265005, x265006, x265007, x265008 => if x85 = true then (some (0, 0, 0, 0, 0, 0, 0, 0, ([] : List Int), ([] : List (S39)), 2)) else (if 240 ≤ (x0.length : Int) then ((lessorref02_Decode.f k (x0.drop 240)).bind fun bt291 => (if bt291.2 = 0 then (some (x265000, x265001, x265002, x265003, x265004, x265005, x265006, x265007, x265008, bt291.1, 0)) else (some (0, 0, 0, 0, 0, 0, 0, 0, ([] : List Int), ([] : List (S39)), 2)))) else (none))
end
def lessorref03_Decode.f (k : Nat) (l0 : List Int) : Option (Int × Int × Int × Int × Int × Int × Int × Int × List Int × (List (S39)) × Int) := if (l0.length : Int) < 240 then (lessorref03_Decode.j0 k l0 true) else (if 2 < (l0.length : Int) then (if (rd l0 2) < 1 then (lessorref03_Decode.j0 k l0 true) else (lessorref03_Decode.j0 k l0 (decide ((rd l0 2) > 16)))) else (none))
theorem lessorref03_Decode.mono_l : ∀ k, (∀ y0 y1, LeO (lessorref03_Decode.j0 k y0 y1) (lessorref03_Decode.j0 (k + 1) y0 y1)) ∧ (∀ y0 y1 y2 y3 y4 y5 y6 y7 y8 y9 y10, LeO (lessorref03_Decode.j1 k y0 y1 y2 y3 y4 y5 y6 y7 y8 y9 y10) (lessorref03_Decode.j1 (k + 1) y0 y1 y2 y3 y4 y5 y6 y7 y8 y9 y10))
 | 0 => ⟨fun _ _ r h => by simp [lessorref03_Decode.j0] at h, fun _ _ _ _ _ _ _ _ _ _ _ r h => by simp [lessorref03_Decode.j1] at h⟩
 | k + 1 => by
  obtain ⟨ih0, ih1⟩ := lessorref03_Decode.mono_l k
  refine ⟨?_, ?_⟩
  ·intro y0 y1
   unfold lessorref03_Decode.j0
   repeat' first
   | (with_reducible exact ih0 _ _)
   | (with_reducible exact ih1 _ _ _ _ _ _ _ _ _ _ _)
   | (with_reducible exact lessorref02_Decode.mono _ _)
   | (with_reducible exact lessorref03_Encode.mono _ _ _ _ _ _ _ _ _ _ _)
   | (with_reducible exact lessorref03_of.mono _ _)
   | (with_reducible exact LeO.refl _)
   | (with_reducible exact LeO.none _)
   | (with_reducible refine LeO.ite ?_ ?_)
   | (with_reducible refine LeO.bind ?_ (fun _ => ?_))
   | exact ih0 _ _
   | exact ih1 _ _ _ _ _ _ _ _ _ _ _
   | exact lessorref02_Decode.mono _ _
   | exact lessorref03_Encode.mono _ _ _ _ _ _ _ _ _ _ _
   | exact lessorref03_of.mono _ _
   | exact LeO.none _
   | refine LeO.ite ?_ ?_
   | refine LeO.bind ?_ (fun _ => ?_)
  ·intro y0 y1 y2 y3 y4 y5 y6 y7 y8 y9 y10
   unfold lessorref03_Decode.j1
   repeat' first
   | (with_reducible exact ih0 _ _)
   | (with_reducible exact ih1 _ _ _ _ _ _ _ _ _ _ _)
   | (with_reducible exact lessorref02_Decode.mono _ _)
   | (with_reducible exact lessorref03_Encode.mono _ _ _ _ _ _ _ _ _ _ _)
   | (with_reducible exact lessorref03_of.mono _ _)
   | (with_reducible exact LeO.refl _)
   | (with_reducible exact LeO.none _)
   | (with_reducible refine LeO.ite ?_ ?_)
   | (with_reducible refine LeO.bind ?_ (fun _ => ?_))
   | exact ih0 _ _
   | exact ih1 _ _ _ _ _ _ _ _ _ _ _
   | exact lessorref02_Decode.mono _ _
   | exact lessorref03_Encode.mono _ _ _ _ _ _ _ _ _ _ _
   | exact lessorref03_of.mono _ _
   | exact LeO.none _
   | refine LeO.ite ?_ ?_
   | refine LeO.bind ?_ (fun _ => ?_)
theorem lessorref03_Decode.mono : ∀ a0 k, LeO (lessorref03_Decode.f k a0) (lessorref03_Decode.f (k + 1) a0) := by
 intro a0 k
 obtain ⟨ih0, ih1⟩ := lessorref03_Decode.mono_l k
 unfold lessorref03_Decode.f
 repeat' first
   | (with_reducible exact ih0 _ _)
   | (with_reducible exact ih1 _ _ _ _ _ _ _ _ _ _ _)
   | (with_reducible exact lessorref02_Decode.mono _ _)
   | (with_reducible exact lessorref03_Encode.mono _ _ _ _ _ _ _ _ _ _ _)
   | (with_reducible exact lessorref03_of.mono _ _)
   | (with_reducible exact LeO.refl _)
   | (with_reducible exact LeO.none _)
   | (with_reducible refine LeO.ite ?_ ?_)
   | (with_reducible refine LeO.bind ?_ (fun _ => ?_))
   | exact ih0 _ _
   | exact ih1 _ _ _ _ _ _ _ _ _ _ _
   | exact lessorref02_Decode.mono _ _
   | exact lessorref03_Encode.mono _ _ _ _ _ _ _ _ _ _ _
   | exact lessorref03_of.mono _ _
   | exact LeO.none _
   | refine LeO.ite ?_ ?_
   | refine LeO.bind ?_ (fun _ => ?_)
def lessorref03_Decode.T3 : Bool × List (List Nat × List Nat) := (true, [([], []), ([0], [0]), ([1], [1]), ([2], [2]), ([], []), ([4], [4]), ([5], [5]), ([6], [6]), ([], []), ([8], [8]), ([9, 6], [9]), ([], []), ([11], [11]), ([12, 10], [12]), ([3, 7, 10, 13], [3, 7, 10, 13]), ([], []), ([15, 14, 13, 0, 1, 2, 3, 4, 5, 6, 7, 8, 9, 10, 11, 12, 13, 14, 15], [14, 15])])
def lessorref03_Decode.B3 : List Nat := [0, 1, 3, 7, 0, 16, 48, 112, 0, 256, 880, 0, 2048, 8048, 16383, 0, 65535]
theorem lessorref03_Decode.tab3 : rtab .any (opsOf Tryd.f7 3) = lessorref03_Decode.T3 := by kernel_rfl
theorem lessorref03_Decode.bits3 : waitsOk lessorref03_Decode.T3.2 lessorref03_Decode.B3 = true := by kernel_rfl
def lessorref03_Decode.T10 : Bool × List (List Nat × List Nat) := (true, [([], []), ([0], [0]), ([1], [1]), ([2], [2]), ([3, 2], [2, 3]), ([4, 2], [2, 4]), ([2], [2]), ([6, 2], [2, 6]), ([7, 2], [2, 7]), ([5, 8, 2], [2, 5, 8]), ([2, 9], [2, 9])])
def lessorref03_Decode.B10 : List Nat := [0, 1, 3, 7, 15, 31, 7, 71, 199, 511, 1023]
theorem lessorref03_Decode.tab10 : rtab .any (opsOf Tryd.f7 10) = lessorref03_Decode.T10 := by kernel_rfl
theorem lessorref03_Decode.bits10 : waitsOk lessorref03_Decode.T10.2 lessorref03_Decode.B10 = true := by kernel_rfl
set_option maxHeartbeats 8000000 in
set_option maxRecDepth 100000 in
theorem lessorref03_Decode.calls (k : Nat) (A0 : Option Addr) (c0 : Nat) (l0 : List Int) (r1 : Int) (r2 : Int) (r3 : Int) (r4 : Int) (r5 : Int) (r6 : Int) (r7 : Int) (r8 : Int) (r9 : List Int) (r10 : List (S39)) (r11 : Int) (w : World) (hr0 : Kd.C (Kd.int .u8) w A0 l0.length l0) (hc0 : l0.length ≤ c0) (h : lessorref03_Decode.f k l0 = some (r1, r2, r3, r4, r5, r6, r7, r8, r9, r10, r11)) :
  Calls Tryd.prog 7 #[.slice A0 l0.length c0] w fun e w' => ∃ v8_ v9_ : Value, e = .returned (.tuple #[.agg #[.int .i64 r1, .int .u32 r2, .int .i64 r3, .int .i64 r4, .int .u32 r5, .int .u32 r6, .int .u32 r7, .int .u32 r8, v8_, v9_], .int .i64 r11]) ∧ Kd.R (Kd.int .u8) 5 w' w.heap.size (fun _ => True) v8_ r9 ∧ Kd.S k39 39 w' w.heap.size (fun k_ => some k_ ≠ (v8_ : Value).ownBlock) v9_ r10 ∧ Below w.heap.size w w' := by
 have hu28 := Tryd.underlying28
 have HR0 := Aside0.mk hr0
 have HC0 := Aside0.mk hc0
 clear hr0 hc0
 have HB := Aside0.mk (Below.refl w.heap.size w)
 have H : (if (l0.length : Int) < 240 then (lessorref03_Decode.j0 k l0 true) else (if 2 < (l0.length : Int) then (if (rd l0 2) < 1 then (lessorref03_Decode.j0 k l0 true) else (lessorref03_Decode.j0 k l0 (decide ((rd l0 2) > 16)))) else (none))) = some (r1, r2, r3, r4, r5, r6, r7, r8, r9, r10, r11) := h
 clear h
 have HC2 := Aside0.mk H
 clear H
 go_enter Tryd.func7, Tryd.ntmps7
 go_upto_region 1 with (first | ((with_reducible refine gate_dst (N := 2) rfl ?_); refine box_event ?hg_1 (N := 2) ?hd_1 (cs := #[.int .i64 0, .int .u32 0, .int .i64 0, .int .i64 0, .int .u32 0, .int .u32 0, .int .u32 0, .int .u32 0, .slice none 0 0, .slice none 0 0]) (t := 28) ?hr_1 ?_; (case hd_1 => rfl); (case hg_1 => rfl); (case hr_1 => first | (go_simp; done) | (go_simp; rfl)); intro gb254 hg w3 hbox hb; have n0_ := Aside0.mk (below_step (by repeat (first | (with_reducible first | exact HB.out | apply below_alloc | apply pw_below_drewN | apply below_drew1) | exact HB.out)) hb); have n1_ := Aside0.mk (hbox); have n2_ := Aside0.mk ((by rw [hg]; exact (below_size (by repeat (first | (with_reducible first | exact HB.out | apply below_alloc | apply pw_below_drewN | apply below_drew1) | exact HB.out))) : w.heap.size ≤ gb254)); have n3_ := Aside0.mk ((by rw [hg]; exact (below_size (by repeat (first | (with_reducible first | exact HB.out | apply below_alloc | apply pw_below_drewN | apply below_drew1) | exact HB.out))) : w.heap.size ≤ gb254)); clear HB; have HB := n0_; have BK254 := n1_; have GW254 := n2_; have GE254 := n3_; clear n0_ n1_ n2_ n3_; clear hb hbox hg))
 (try simp only [Act.put, List.setIfInBounds_toArray, List.set_cons_zero, List.set_cons_succ])
 go_cut [23] (fun v23 wc => ∃ (kq : Nat) (x23_1 : Bool), v23 = .bool x23_1 ∧ Aside0 (lessorref03_Decode.j0 kq l0 x23_1 = some (r1, r2, r3, r4, r5, r6, r7, r8, r9, r10, r11)) ∧ Aside0 (kq ≤ k) ∧ Aside0 (wc.heap[gb254]? = some (.cells #[.int .i64 0, .int .u32 0, .int .i64 0, .int .i64 0, .int .u32 0, .int .u32 0, .int .u32 0, .int .u32 0, (.slice none 0 0), (.slice none 0 0)] 28 (0, 0))) ∧ Aside0 (Below w.heap.size w wc))
 case first =>
  have H := HC2.out
  clear HC2
  by_cases c4 : (l0.length : Int) < 240
  ·rw [if_pos c4] at H
   have c4b0 : decide ((l0.length : Int) < 240) = true := decide_eq_true c4
   have c4b1 : decide (l0.length < 240) = true := decide_eq_true (by omega)
   clear c4
   (first | rw [c4b0] | (simp only [i64_w, i32_w]; rw [c4b0]) | skip)
   have H' := Aside0.mk H
   clear H
   go_wp2
   go_meet
   case rel => exact ⟨_, (true), (by first | rfl | (simp; done) | (simp [*]; done)), H', ⟨by first | omega | exact Nat.le_refl _⟩, ⟨by (with_reducible repeat (first | refine blk_drewN ?_ _ | refine blk_drew ?_ | refine blk_alloc ?_ _)); exact BK254.out⟩, ⟨by repeat (first | (with_reducible first | exact HB.out | apply below_alloc | apply pw_below_drewN | apply below_drew1 | refine below_set ?_ GE254.out) | exact HB.out)⟩⟩
  ·rw [if_neg c4] at H
   have c4b0 : decide ((l0.length : Int) < 240) = false := decide_eq_false c4
   have c4b1 : decide (l0.length < 240) = false := decide_eq_false (by omega)
   clear c4
   (first | rw [c4b0] | (simp only [i64_w, i32_w]; rw [c4b0]) | skip)
   by_cases c5 : 2 < (l0.length : Int)
   ·rw [if_pos c5] at H
    have c5b0 : decide (2 < (l0.length : Int)) = true := decide_eq_true c5
    have c5b1 : decide (2 < l0.length) = true := decide_eq_true (by omega)
    clear c5
    by_cases c6 : (rd l0 2) < 1
    ·rw [if_pos c6] at H
     have c6b0 : decide ((rd l0 2) < 1) = true := decide_eq_true c6
     clear c6
     have H' := Aside0.mk H
     clear H
     have p255 : 0 ≤ (2 : Int) := (by omega)
     have q255 : 2 < (l0.length : Int) := of_decide_eq_true (by first | (with_reducible assumption) | assumption)
     obtain ⟨ad255, e255, hx255_0⟩ := Kd.at_int HR0.out 2 p255 q255
     cases e255
     (try simp only [show (2 : Int).toNat = 2 from rfl, Nat.reduceMul, Nat.reduceEqDiff, Go.Addr.add, ↓reduceIte] at hx255_0)
     have qi255 : (2 < l0.length) = True := eq_true (by omega)
     (try rw [show ((2 : Int)).toNat = 2 from rfl] at hx255_0)
     replace hx255_0 := (HB.out.cell (World.block_lt_of_cell? w _ hx255_0)).trans hx255_0
     replace p255 := eq_true p255
     replace q255 := eq_true q255
     go_wp2
     go_meet
     case rel => exact ⟨_, (true), (by first | rfl | (simp; done) | (simp [*]; done)), H', ⟨by first | omega | exact Nat.le_refl _⟩, ⟨by (with_reducible repeat (first | refine blk_drewN ?_ _ | refine blk_drew ?_ | refine blk_alloc ?_ _)); exact BK254.out⟩, ⟨by repeat (first | (with_reducible first | exact HB.out | apply below_alloc | apply pw_below_drewN | apply below_drew1 | refine below_set ?_ GE254.out) | exact HB.out)⟩⟩
    ·rw [if_neg c6] at H
     have c6b0 : decide ((rd l0 2) < 1) = false := decide_eq_false c6
     clear c6
     have H' := Aside0.mk H
     clear H
     have p255 : 0 ≤ (2 : Int) := (by omega)
     have q255 : 2 < (l0.length : Int) := of_decide_eq_true (by first | (with_reducible assumption) | assumption)
     obtain ⟨ad255, e255, hx255_0⟩ := Kd.at_int HR0.out 2 p255 q255
     cases e255
     (try simp only [show (2 : Int).toNat = 2 from rfl, Nat.reduceMul, Nat.reduceEqDiff, Go.Addr.add, ↓reduceIte] at hx255_0)
     have qi255 : (2 < l0.length) = True := eq_true (by omega)
     (try rw [show ((2 : Int)).toNat = 2 from rfl] at hx255_0)
     replace hx255_0 := (HB.out.cell (World.block_lt_of_cell? w _ hx255_0)).trans hx255_0
     replace p255 := eq_true p255
     replace q255 := eq_true q255
     have p256 : 0 ≤ (2 : Int) := (by omega)
     have q256 : 2 < (l0.length : Int) := of_decide_eq_true (by first | (with_reducible assumption) | assumption)
     obtain ⟨ad256, e256, hx256_0⟩ := Kd.at_int HR0.out 2 p256 q256
     obtain rfl : ad255 = ad256 := (by injection e256)
     (try simp only [show (2 : Int).toNat = 2 from rfl, Nat.reduceMul, Nat.reduceEqDiff, Go.Addr.add, ↓reduceIte] at hx256_0)
     have qi256 : (2 < l0.length) = True := eq_true (by omega)
     (try rw [show ((2 : Int)).toNat = 2 from rfl] at hx256_0)
     replace hx256_0 := (HB.out.cell (World.block_lt_of_cell? w _ hx256_0)).trans hx256_0
     replace p256 := eq_true p256
     replace q256 := eq_true q256
     go_wp2
     go_meet
     case rel => exact ⟨_, (decide ((rd l0 2) > 16)), (by first | rfl | (simp; done) | (simp [*]; done)), H', ⟨by first | omega | exact Nat.le_refl _⟩, ⟨by (with_reducible repeat (first | refine blk_drewN ?_ _ | refine blk_drew ?_ | refine blk_alloc ?_ _)); exact BK254.out⟩, ⟨by repeat (first | (with_reducible first | exact HB.out | apply below_alloc | apply pw_below_drewN | apply below_drew1 | refine below_set ?_ GE254.out) | exact HB.out)⟩⟩
   ·rw [if_neg c5] at H
    exact absurd H (by simp)
 case rest =>
  clear HC2
  try clear p2
  try clear q2
  try clear hx2
  try clear qi2
  try clear c4
  try clear c4b0
  try clear c4b1
  try clear c5
  try clear c5b0
  try clear c5b1
  try clear c6
  try clear c6b0
  try clear hx255_0
  try clear hx256_0
  try clear p255
  try clear p256
  try clear q255
  try clear q256
  obtain ⟨kq, x23_1, rfl, HA, HJ1, BK254, HB⟩ := hcut
  cases kq with
  | zero => exact absurd HA.out (by simp [lessorref03_Decode.j0])
  | succ kj1 =>
   have H := HA.out
   clear HA
   simp only [lessorref03_Decode.j0] at H
   by_cases c7 : x23_1 = true
   ·subst c7
    have H1 : (some (0, 0, 0, 0, 0, 0, 0, 0, ([] : List Int), ([] : List (S39)), 2)) = some (r1, r2, r3, r4, r5, r6, r7, r8, r9, r10, r11) := by rw [if_pos rfl] at H; exact H
    clear H
    have H := H1
    clear H1
    simp only [Option.some.injEq, Prod.mk.injEq] at H
    obtain ⟨rfl, rfl, rfl, rfl, rfl, rfl, rfl, rfl, rfl, rfl, rfl⟩ := H
    have hcz8_0 : wc.cell? ⟨gb254, 0, none⟩ = some (.int .i64 0) := (blk_cell BK254.out 0).trans rfl
    have hcz8_1 : wc.cell? ⟨gb254, 1, none⟩ = some (.int .u32 0) := (blk_cell BK254.out 1).trans rfl
    have hcz8_2 : wc.cell? ⟨gb254, 2, none⟩ = some (.int .i64 0) := (blk_cell BK254.out 2).trans rfl
    have hcz8_3 : wc.cell? ⟨gb254, 3, none⟩ = some (.int .i64 0) := (blk_cell BK254.out 3).trans rfl
    have hcz8_4 : wc.cell? ⟨gb254, 4, none⟩ = some (.int .u32 0) := (blk_cell BK254.out 4).trans rfl
    have hcz8_5 : wc.cell? ⟨gb254, 5, none⟩ = some (.int .u32 0) := (blk_cell BK254.out 5).trans rfl
    have hcz8_6 : wc.cell? ⟨gb254, 6, none⟩ = some (.int .u32 0) := (blk_cell BK254.out 6).trans rfl
    have hcz8_7 : wc.cell? ⟨gb254, 7, none⟩ = some (.int .u32 0) := (blk_cell BK254.out 7).trans rfl
    have hcz8_8 : wc.cell? ⟨gb254, 8, none⟩ = some (.slice none 0 0) := (blk_cell BK254.out 8).trans rfl
    have hcz8_9 : wc.cell? ⟨gb254, 9, none⟩ = some (.slice none 0 0) := (blk_cell BK254.out 9).trans rfl
    have hfz8_0 := blk_frozen BK254.out 0
    have hfz8_1 := blk_frozen BK254.out 1
    have hfz8_2 := blk_frozen BK254.out 2
    have hfz8_3 := blk_frozen BK254.out 3
    have hfz8_4 := blk_frozen BK254.out 4
    have hfz8_5 := blk_frozen BK254.out 5
    have hfz8_6 := blk_frozen BK254.out 6
    have hfz8_7 := blk_frozen BK254.out 7
    have hfz8_8 := blk_frozen BK254.out 8
    have hfz8_9 := blk_frozen BK254.out 9
    go_wp2
    refine bodyPost_ret (results_ct rfl _ _ gb254 28 #[.int .i64 0, .int .u32 0, .int .i64 0, .int .i64 0, .int .u32 0, .int .u32 0, .int .u32 0, .int .u32 0, .slice none 0 0, .slice none 0 0] (0, 0) _ rfl (by (with_reducible repeat (first | refine blk_drewN ?_ _ | refine blk_drew ?_ | refine blk_alloc ?_ _)); refine blk_put (cs := #[.int .i64 0, .int .u32 0, .int .i64 0, .int .i64 0, .int .u32 0, .int .u32 0, .int .u32 0, .int .u32 0, .slice none 0 0, .slice none 0 0]) ?_ 9 _ rfl; (with_reducible repeat (first | refine blk_drewN ?_ _ | refine blk_drew ?_ | refine blk_alloc ?_ _)); refine blk_put (cs := #[.int .i64 0, .int .u32 0, .int .i64 0, .int .i64 0, .int .u32 0, .int .u32 0, .int .u32 0, .int .u32 0, .slice none 0 0, .slice none 0 0]) ?_ 8 _ rfl; (with_reducible repeat (first | refine blk_drewN ?_ _ | refine blk_drew ?_ | refine blk_alloc ?_ _)); refine blk_put (cs := #[.int .i64 0, .int .u32 0, .int .i64 0, .int .i64 0, .int .u32 0, .int .u32 0, .int .u32 0, .int .u32 0, .slice none 0 0, .slice none 0 0]) ?_ 7 _ rfl; (with_reducible repeat (first | refine blk_drewN ?_ _ | refine blk_drew ?_ | refine blk_alloc ?_ _)); refine blk_put (cs := #[.int .i64 0, .int .u32 0, .int .i64 0, .int .i64 0, .int .u32 0, .int .u32 0, .int .u32 0, .int .u32 0, .slice none 0 0, .slice none 0 0]) ?_ 6 _ rfl; (with_reducible repeat (first | refine blk_drewN ?_ _ | refine blk_drew ?_ | refine blk_alloc ?_ _)); refine blk_put (cs := #[.int .i64 0, .int .u32 0, .int .i64 0, .int .i64 0, .int .u32 0, .int .u32 0, .int .u32 0, .int .u32 0, .slice none 0 0, .slice none 0 0]) ?_ 5 _ rfl; (with_reducible repeat (first | refine blk_drewN ?_ _ | refine blk_drew ?_ | refine blk_alloc ?_ _)); refine blk_put (cs := #[.int .i64 0, .int .u32 0, .int .i64 0, .int .i64 0, .int .u32 0, .int .u32 0, .int .u32 0, .int .u32 0, .slice none 0 0, .slice none 0 0]) ?_ 4 _ rfl; (with_reducible repeat (first | refine blk_drewN ?_ _ | refine blk_drew ?_ | refine blk_alloc ?_ _)); refine blk_put (cs := #[.int .i64 0, .int .u32 0, .int .i64 0, .int .i64 0, .int .u32 0, .int .u32 0, .int .u32 0, .int .u32 0, .slice none 0 0, .slice none 0 0]) ?_ 3 _ rfl; (with_reducible repeat (first | refine blk_drewN ?_ _ | refine blk_drew ?_ | refine blk_alloc ?_ _)); refine blk_put (cs := #[.int .i64 0, .int .u32 0, .int .i64 0, .int .i64 0, .int .u32 0, .int .u32 0, .int .u32 0, .int .u32 0, .slice none 0 0, .slice none 0 0]) ?_ 2 _ rfl; (with_reducible repeat (first | refine blk_drewN ?_ _ | refine blk_drew ?_ | refine blk_alloc ?_ _)); refine blk_put (cs := #[.int .i64 0, .int .u32 0, .int .i64 0, .int .i64 0, .int .u32 0, .int .u32 0, .int .u32 0, .int .u32 0, .slice none 0 0, .slice none 0 0]) ?_ 1 _ rfl; (with_reducible repeat (first | refine blk_drewN ?_ _ | refine blk_drew ?_ | refine blk_alloc ?_ _)); refine blk_put (cs := #[.int .i64 0, .int .u32 0, .int .i64 0, .int .i64 0, .int .u32 0, .int .u32 0, .int .u32 0, .int .u32 0, .slice none 0 0, .slice none 0 0]) ?_ 0 _ rfl; (with_reducible repeat (first | refine blk_drewN ?_ _ | refine blk_drew ?_ | refine blk_alloc ?_ _)); exact BK254.out) Tryd.underlying28 rfl (by kernel_rfl)) rfl ?_
    exact ⟨_, _, by first | rfl | (simp [errW_none, errW_some] <;> rfl) | (simp [*, errW_none, errW_some] <;> rfl), by first | exact Kd.R_nil _ _ _ _ _ | exact Kd.N_nil _ _ _ _ _ | exact Kd.V_nil _ _ _ _ _ | exact Kd.Q_nil _ _ _ _ _ | exact Kd.S_nil _ _ _ _ _, by first | exact Kd.S_nil _ _ _ _ _ | exact Kd.N_nil _ _ _ _ _ | exact Kd.V_nil _ _ _ _ _ | exact Kd.Q_nil _ _ _ _ _ | exact Kd.R_nil _ _ _ _ _, by repeat (first | (with_reducible first | exact HB.out | apply below_alloc | apply pw_below_drewN | apply below_drew1 | refine below_set ?_ GE254.out) | exact HB.out)⟩
   ·replace c7 := Bool.eq_false_iff.mpr c7
    subst c7
    have H1 : (if 0 < (l0.length : Int) then (if 4 ≤ 8 then (if 8 ≤ (l0.length : Int) then ((lessorref03_of.f kj1 ((l0.take 8).drop 4)).bind fun t259 => (if 8 ≤ 10 then (if 10 ≤ (l0.length : Int) then ((lessorref03_of.f kj1 ((l0.take 10).drop 8)).bind fun t261 => (if 10 ≤ 12 then (if 12 ≤ (l0.length : Int) then ((lessorref03_of.f kj1 ((l0.take 12).drop 10)).bind fun t263 => (if 12 ≤ 16 then (if 16 ≤ (l0.length : Int) then ((lessorref03_of.f kj1 ((l0.take 16).drop 12)).bind fun t266 => (if 16 ≤ 20 then (if 20 ≤ (l0.length : Int) then ((lessorref03_of.f kj1 ((l0.take 20).drop 16)).bind fun t268 => (if 20 ≤ 24 then (if 24 ≤ (l0.length : Int) then ((lessorref03_of.f kj1 ((l0.take 24).drop 20)).bind fun t270 => (if 24 ≤ 28 then (if 28 ≤ (l0.length : Int) then ((lessorref03_of.f kj1 ((l0.take 28).drop 24)).bind fun t272 => ((some (([] : List Int) : List Int)).bind fun y273 => (if 2 < (l0.length : Int) then (if 28 ≤ (wrap64 (28 + (wrap64 (rd l0 2)))) then (if (wrap64 (28 + (wrap64 (rd l0 2)))) ≤ (l0.length : Int) then (if y273.length + ((l0.take ((wrap64 (28 + (wrap64 (rd l0 2)))) : Int).toNat).drop 28).length < 140737488355328 then ((some (y273 ++ ((l0.take ((wrap64 (28 + (wrap64 (rd l0 2)))) : Int).toNat).drop 28) : List Int)).bind fun y278 => ((lessorref03_Encode.f kj1 (wrap64 (rd l0 0)) ((t259) % 4294967296) t261 t263 ((t266) % 4294967296) ((t268) % 4294967296) ((t270) % 4294967296) ((t272) % 4294967296) y278 ([] : List (S39))).bind fun bt281 => (if bt281.2 = 0 then (if 240 ≤ (bt281.1.length : Int) then (if 240 ≤ (l0.length : Int) then (lessorref03_Decode.j1 kj1 l0 ((strOfNums (bt281.1.take 240)).toList != (strOfNums (l0.take 240)).toList) (wrap64 (rd l0 0)) ((t259) % 4294967296) t261 t263 ((t266) % 4294967296) ((t268) % 4294967296) ((t270) % 4294967296) ((t272) % 4294967296) y278) else (none)) else (none)) else (lessorref03_Decode.j1 kj1 l0 true (wrap64 (rd l0 0)) ((t259) % 4294967296) t261 t263 ((t266) % 4294967296) ((t268) % 4294967296) ((t270) % 4294967296) ((t272) % 4294967296) y278)))) else (none)) else (none)) else (none)) else (none)))) else (none)) else (none))) else (none)) else (none))) else (none)) else (none))) else (none)) else (none))) else (none)) else (none))) else (none)) else (none))) else (none)) else (none)) else (none)) = some (r1, r2, r3, r4, r5, r6, r7, r8, r9, r10, r11) := by rw [if_neg (show ¬ (false = true) by decide)] at H; exact H
    clear H
    have H := H1
    clear H1
    by_cases c9 : 0 < (l0.length : Int)
    ·rw [if_pos c9] at H
     have c9b0 : decide (0 < (l0.length : Int)) = true := decide_eq_true c9
     have c9b1 : decide (0 < l0.length) = true := decide_eq_true (by omega)
     clear c9
     by_cases c10 : 4 ≤ 8
     ·rw [if_pos c10] at H
      have c10b0 := eq_true c10
      have c10b1 : decide (4 ≤ 8) = true := decide_eq_true c10
      clear c10
      by_cases c11 : 8 ≤ (l0.length : Int)
      ·rw [if_pos c11] at H
       have c11b0 := eq_true c11
       have c11b1 : decide (8 ≤ (l0.length : Int)) = true := decide_eq_true c11
       clear c11
       replace H := Option.bind_eq_some_iff.mp H
       obtain ⟨t259, A120, H⟩ := H
       replace H : (if 8 ≤ 10 then (if 10 ≤ (l0.length : Int) then ((lessorref03_of.f kj1 ((l0.take 10).drop 8)).bind fun t261 => (if 10 ≤ 12 then (if 12 ≤ (l0.length : Int) then ((lessorref03_of.f kj1 ((l0.take 12).drop 10)).bind fun t263 => (if 12 ≤ 16 then (if 16 ≤ (l0.length : Int) then ((lessorref03_of.f kj1 ((l0.take 16).drop 12)).bind fun t266 => (if 16 ≤ 20 then (if 20 ≤ (l0.length : Int) then ((lessorref03_of.f kj1 ((l0.take 20).drop 16)).bind fun t268 => (if 20 ≤ 24 then (if 24 ≤ (l0.length : Int) then ((lessorref03_of.f kj1 ((l0.take 24).drop 20)).bind fun t270 => (if 24 ≤ 28 then (if 28 ≤ (l0.length : Int) then ((lessorref03_of.f kj1 ((l0.take 28).drop 24)).bind fun t272 => ((some (([] : List Int) : List Int)).bind fun y273 => (if 2 < (l0.length : Int) then (if 28 ≤ (wrap64 (28 + (wrap64 (rd l0 2)))) then (if (wrap64 (28 + (wrap64 (rd l0 2)))) ≤ (l0.length : Int) then (if y273.length + ((l0.take ((wrap64 (28 + (wrap64 (rd l0 2)))) : Int).toNat).drop 28).length < 140737488355328 then ((some (y273 ++ ((l0.take ((wrap64 (28 + (wrap64 (rd l0 2)))) : Int).toNat).drop 28) : List Int)).bind fun y278 => ((lessorref03_Encode.f kj1 (wrap64 (rd l0 0)) ((t259) % 4294967296) t261 t263 ((t266) % 4294967296) ((t268) % 4294967296) ((t270) % 4294967296) ((t272) % 4294967296) y278 ([] : List (S39))).bind fun bt281 => (if bt281.2 = 0 then (if 240 ≤ (bt281.1.length : Int) then (if 240 ≤ (l0.length : Int) then (lessorref03_Decode.j1 kj1 l0 ((strOfNums (bt281.1.take 240)).toList != (strOfNums (l0.take 240)).toList) (wrap64 (rd l0 0)) ((t259) % 4294967296) t261 t263 ((t266) % 4294967296) ((t268) % 4294967296) ((t270) % 4294967296) ((t272) % 4294967296) y278) else (none)) else (none)) else (lessorref03_Decode.j1 kj1 l0 true (wrap64 (rd l0 0)) ((t259) % 4294967296) t261 t263 ((t266) % 4294967296) ((t268) % 4294967296) ((t270) % 4294967296) ((t272) % 4294967296) y278)))) else (none)) else (none)) else (none)) else (none)))) else (none)) else (none))) else (none)) else (none))) else (none)) else (none))) else (none)) else (none))) else (none)) else (none))) else (none)) else (none)) = some (r1, r2, r3, r4, r5, r6, r7, r8, r9, r10, r11) := H
       have A12 := Aside0.mk A120
       clear A120
       by_cases c13 : 8 ≤ 10
       ·rw [if_pos c13] at H
        have c13b0 := eq_true c13
        have c13b1 : decide (8 ≤ 10) = true := decide_eq_true c13
        clear c13
        by_cases c14 : 10 ≤ (l0.length : Int)
        ·rw [if_pos c14] at H
         have c14b0 := eq_true c14
         have c14b1 : decide (10 ≤ (l0.length : Int)) = true := decide_eq_true c14
         clear c14
         replace H := Option.bind_eq_some_iff.mp H
         obtain ⟨t261, A150, H⟩ := H
         replace H : (if 10 ≤ 12 then (if 12 ≤ (l0.length : Int) then ((lessorref03_of.f kj1 ((l0.take 12).drop 10)).bind fun t263 => (if 12 ≤ 16 then (if 16 ≤ (l0.length : Int) then ((lessorref03_of.f kj1 ((l0.take 16).drop 12)).bind fun t266 => (if 16 ≤ 20 then (if 20 ≤ (l0.length : Int) then ((lessorref03_of.f kj1 ((l0.take 20).drop 16)).bind fun t268 => (if 20 ≤ 24 then (if 24 ≤ (l0.length : Int) then ((lessorref03_of.f kj1 ((l0.take 24).drop 20)).bind fun t270 => (if 24 ≤ 28 then (if 28 ≤ (l0.length : Int) then ((lessorref03_of.f kj1 ((l0.take 28).drop 24)).bind fun t272 => ((some (([] : List Int) : List Int)).bind fun y273 => (if 2 < (l0.length : Int) then (if 28 ≤ (wrap64 (28 + (wrap64 (rd l0 2)))) then (if (wrap64 (28 + (wrap64 (rd l0 2)))) ≤ (l0.length : Int) then (if y273.length + ((l0.take ((wrap64 (28 + (wrap64 (rd l0 2)))) : Int).toNat).drop 28).length < 140737488355328 then ((some (y273 ++ ((l0.take ((wrap64 (28 + (wrap64 (rd l0 2)))) : Int).toNat).drop 28) : List Int)).bind fun y278 => ((lessorref03_Encode.f kj1 (wrap64 (rd l0 0)) ((t259) % 4294967296) t261 t263 ((t266) % 4294967296) ((t268) % 4294967296) ((t270) % 4294967296) ((t272) % 4294967296) y278 ([] : List (S39))).bind fun bt281 => (if bt281.2 = 0 then (if 240 ≤ (bt281.1.length : Int) then (if 240 ≤ (l0.length : Int) then (lessorref03_Decode.j1 kj1 l0 ((strOfNums (bt281.1.take 240)).toList != (strOfNums (l0.take 240)).toList) (wrap64 (rd l0 0)) ((t259) % 4294967296) t261 t263 ((t266) % 4294967296) ((t268) % 4294967296) ((t270) % 4294967296) ((t272) % 4294967296) y278) else (none)) else (none)) else (lessorref03_Decode.j1 kj1 l0 true (wrap64 (rd l0 0)) ((t259) % 4294967296) t261 t263 ((t266) % 4294967296) ((t268) % 4294967296) ((t270) % 4294967296) ((t272) % 4294967296) y278)))) else (none)) else (none)) else (none)) else (none)))) else (none)) else (none))) else (none)) else (none))) else (none)) else (none))) else (none)) else (none))) else (none)) else (none)) = some (r1, r2, r3, r4, r5, r6, r7, r8, r9, r10, r11) := H
         have A15 := Aside0.mk A150
         clear A150
         by_cases c16 : 10 ≤ 12
         ·rw [if_pos c16] at H
          have c16b0 := eq_true c16
          have c16b1 : decide (10 ≤ 12) = true := decide_eq_true c16
          clear c16
          by_cases c17 : 12 ≤ (l0.length : Int)
          ·rw [if_pos c17] at H
           have c17b0 := eq_true c17
           have c17b1 : decide (12 ≤ (l0.length : Int)) = true := decide_eq_true c17
           clear c17
           replace H := Option.bind_eq_some_iff.mp H
           obtain ⟨t263, A180, H⟩ := H
           replace H : (if 12 ≤ 16 then (if 16 ≤ (l0.length : Int) then ((lessorref03_of.f kj1 ((l0.take 16).drop 12)).bind fun t266 => (if 16 ≤ 20 then (if 20 ≤ (l0.length : Int) then ((lessorref03_of.f kj1 ((l0.take 20).drop 16)).bind fun t268 => (if 20 ≤ 24 then (if 24 ≤ (l0.length : Int) then ((lessorref03_of.f kj1 ((l0.take 24).drop 20)).bind fun t270 => (if 24 ≤ 28 then (if 28 ≤ (l0.length : Int) then ((lessorref03_of.f kj1 ((l0.take 28).drop 24)).bind fun t272 => ((some (([] : List Int) : List Int)).bind fun y273 => (if 2 < (l0.length : Int) then (if 28 ≤ (wrap64 (28 + (wrap64 (rd l0 2)))) then (if (wrap64 (28 + (wrap64 (rd l0 2)))) ≤ (l0.length : Int) then (if y273.length + ((l0.take ((wrap64 (28 + (wrap64 (rd l0 2)))) : Int).toNat).drop 28).length < 140737488355328 then ((some (y273 ++ ((l0.take ((wrap64 (28 + (wrap64 (rd l0 2)))) : Int).toNat).drop 28) : List Int)).bind fun y278 => ((lessorref03_Encode.f kj1 (wrap64 (rd l0 0)) ((t259) % 4294967296) t261 t263 ((t266) % 4294967296) ((t268) % 4294967296) ((t270) % 4294967296) ((t272) % 4294967296) y278 ([] : List (S39))).bind fun bt281 => (if bt281.2 = 0 then (if 240 ≤ (bt281.1.length : Int) then (if 240 ≤ (l0.length : Int) then (lessorref03_Decode.j1 kj1 l0 ((strOfNums (bt281.1.take 240)).toList != (strOfNums (l0.take 240)).toList) (wrap64 (rd l0 0)) ((t259) % 4294967296) t261 t263 ((t266) % 4294967296) ((t268) % 4294967296) ((t270) % 4294967296) ((t272) % 4294967296) y278) else (none)) else (none)) else (lessorref03_Decode.j1 kj1 l0 true (wrap64 (rd l0 0)) ((t259) % 4294967296) t261 t263 ((t266) % 4294967296) ((t268) % 4294967296) ((t270) % 4294967296) ((t272) % 4294967296) y278)))) else (none)) else (none)) else (none)) else (none)))) else (none)) else (none))) else (none)) else (none))) else (none)) else (none))) else (none)) else (none)) = some (r1, r2, r3, r4, r5, r6, r7, r8, r9, r10, r11) := H
           have A18 := Aside0.mk A180
           clear A180
           by_cases c19 : 12 ≤ 16
           ·rw [if_pos c19] at H
            have c19b0 := eq_true c19
            have c19b1 : decide (12 ≤ 16) = true := decide_eq_true c19
            clear c19
            by_cases c20 : 16 ≤ (l0.length : Int)
            ·rw [if_pos c20] at H
             have c20b0 := eq_true c20
             have c20b1 : decide (16 ≤ (l0.length : Int)) = true := decide_eq_true c20
             clear c20
             replace H := Option.bind_eq_some_iff.mp H
             obtain ⟨t266, A210, H⟩ := H
             replace H : (if 16 ≤ 20 then (if 20 ≤ (l0.length : Int) then ((lessorref03_of.f kj1 ((l0.take 20).drop 16)).bind fun t268 => (if 20 ≤ 24 then (if 24 ≤ (l0.length : Int) then ((lessorref03_of.f kj1 ((l0.take 24).drop 20)).bind fun t270 => (if 24 ≤ 28 then (if 28 ≤ (l0.length : Int) then ((lessorref03_of.f kj1 ((l0.take 28).drop 24)).bind fun t272 => ((some (([] : List Int) : List Int)).bind fun y273 => (if 2 < (l0.length : Int) then (if 28 ≤ (wrap64 (28 + (wrap64 (rd l0 2)))) then (if (wrap64 (28 + (wrap64 (rd l0 2)))) ≤ (l0.length : Int) then (if y273.length + ((l0.take ((wrap64 (28 + (wrap64 (rd l0 2)))) : Int).toNat).drop 28).length < 140737488355328 then ((some (y273 ++ ((l0.take ((wrap64 (28 + (wrap64 (rd l0 2)))) : Int).toNat).drop 28) : List Int)).bind fun y278 => ((lessorref03_Encode.f kj1 (wrap64 (rd l0 0)) ((t259) % 4294967296) t261 t263 ((t266) % 4294967296) ((t268) % 4294967296) ((t270) % 4294967296) ((t272) % 4294967296) y278 ([] : List (S39))).bind fun bt281 => (if bt281.2 = 0 then (if 240 ≤ (bt281.1.length : Int) then (if 240 ≤ (l0.length : Int) then (lessorref03_Decode.j1 kj1 l0 ((strOfNums (bt281.1.take 240)).toList != (strOfNums (l0.take 240)).toList) (wrap64 (rd l0 0)) ((t259) % 4294967296) t261 t263 ((t266) % 4294967296) ((t268) % 4294967296) ((t270) % 4294967296) ((t272) % 4294967296) y278) else (none)) else (none)) else (lessorref03_Decode.j1 kj1 l0 true (wrap64 (rd l0 0)) ((t259) % 4294967296) t261 t263 ((t266) % 4294967296) ((t268) % 4294967296) ((t270) % 4294967296) ((t272) % 4294967296) y278)))) else (none)) else (none)) else (none)) else (none)))) else (none)) else (none))) else (none)) else (none))) else (none)) else (none)) = some (r1, r2, r3, r4, r5, r6, r7, r8, r9, r10, r11) := H
             have A21 := Aside0.mk A210
             clear A210
             by_cases c22 : 16 ≤ 20
             ·rw [if_pos c22] at H
              have c22b0 := eq_true c22
              have c22b1 : decide (16 ≤ 20) = true := decide_eq_true c22
              clear c22
              by_cases c23 : 20 ≤ (l0.length : Int)
              ·rw [if_pos c23] at H
               have c23b0 := eq_true c23
               have c23b1 : decide (20 ≤ (l0.length : Int)) = true := decide_eq_true c23
               clear c23
               replace H := Option.bind_eq_some_iff.mp H
               obtain ⟨t268, A240, H⟩ := H
               replace H : (if 20 ≤ 24 then (if 24 ≤ (l0.length : Int) then ((lessorref03_of.f kj1 ((l0.take 24).drop 20)).bind fun t270 => (if 24 ≤ 28 then (if 28 ≤ (l0.length : Int) then ((lessorref03_of.f kj1 ((l0.take 28).drop 24)).bind fun t272 => ((some (([] : List Int) : List Int)).bind fun y273 => (if 2 < (l0.length : Int) then (if 28 ≤ (wrap64 (28 + (wrap64 (rd l0 2)))) then (if (wrap64 (28 + (wrap64 (rd l0 2)))) ≤ (l0.length : Int) then (if y273.length + ((l0.take ((wrap64 (28 + (wrap64 (rd l0 2)))) : Int).toNat).drop 28).length < 140737488355328 then ((some (y273 ++ ((l0.take ((wrap64 (28 + (wrap64 (rd l0 2)))) : Int).toNat).drop 28) : List Int)).bind fun y278 => ((lessorref03_Encode.f kj1 (wrap64 (rd l0 0)) ((t259) % 4294967296) t261 t263 ((t266) % 4294967296) ((t268) % 4294967296) ((t270) % 4294967296) ((t272) % 4294967296) y278 ([] : List (S39))).bind fun bt281 => (if bt281.2 = 0 then (if 240 ≤ (bt281.1.length : Int) then (if 240 ≤ (l0.length : Int) then (lessorref03_Decode.j1 kj1 l0 ((strOfNums (bt281.1.take 240)).toList != (strOfNums (l0.take 240)).toList) (wrap64 (rd l0 0)) ((t259) % 4294967296) t261 t263 ((t266) % 4294967296) ((t268) % 4294967296) ((t270) % 4294967296) ((t272) % 4294967296) y278) else (none)) else (none)) else (lessorref03_Decode.j1 kj1 l0 true (wrap64 (rd l0 0)) ((t259) % 4294967296) t261 t263 ((t266) % 4294967296) ((t268) % 4294967296) ((t270) % 4294967296) ((t272) % 4294967296) y278)))) else (none)) else (none)) else (none)) else (none)))) else (none)) else (none))) else (none)) else (none)) = some (r1, r2, r3, r4, r5, r6, r7, r8, r9, r10, r11) := H
               have A24 := Aside0.mk A240
               clear A240
               by_cases c25 : 20 ≤ 24
               ·rw [if_pos c25] at H
                have c25b0 := eq_true c25
                have c25b1 : decide (20 ≤ 24) = true := decide_eq_true c25
                clear c25
                by_cases c26 : 24 ≤ (l0.length : Int)
                ·rw [if_pos c26] at H
                 have c26b0 := eq_true c26
                 have c26b1 : decide (24 ≤ (l0.length : Int)) = true := decide_eq_true c26
                 clear c26
                 replace H := Option.bind_eq_some_iff.mp H
                 obtain ⟨t270, A270, H⟩ := H
                 replace H : (if 24 ≤ 28 then (if 28 ≤ (l0.length : Int) then ((lessorref03_of.f kj1 ((l0.take 28).drop 24)).bind fun t272 => ((some (([] : List Int) : List Int)).bind fun y273 => (if 2 < (l0.length : Int) then (if 28 ≤ (wrap64 (28 + (wrap64 (rd l0 2)))) then (if (wrap64 (28 + (wrap64 (rd l0 2)))) ≤ (l0.length : Int) then (if y273.length + ((l0.take ((wrap64 (28 + (wrap64 (rd l0 2)))) : Int).toNat).drop 28).length < 140737488355328 then ((some (y273 ++ ((l0.take ((wrap64 (28 + (wrap64 (rd l0 2)))) : Int).toNat).drop 28) : List Int)).bind fun y278 => ((lessorref03_Encode.f kj1 (wrap64 (rd l0 0)) ((t259) % 4294967296) t261 t263 ((t266) % 4294967296) ((t268) % 4294967296) ((t270) % 4294967296) ((t272) % 4294967296) y278 ([] : List (S39))).bind fun bt281 => (if bt281.2 = 0 then (if 240 ≤ (bt281.1.length : Int) then (if 240 ≤ (l0.length : Int) then (lessorref03_Decode.j1 kj1 l0 ((strOfNums (bt281.1.take 240)).toList != (strOfNums (l0.take 240)).toList) (wrap64 (rd l0 0)) ((t259) % 4294967296) t261 t263 ((t266) % 4294967296) ((t268) % 4294967296) ((t270) % 4294967296) ((t272) % 4294967296) y278) else (none)) else (none)) else (lessorref03_Decode.j1 kj1 l0 true (wrap64 (rd l0 0)) ((t259) % 4294967296) t261 t263 ((t266) % 4294967296) ((t268) % 4294967296) ((t270) % 4294967296) ((t272) % 4294967296) y278)))) else (none)) else (none)) else (none)) else (none)))) else (none)) else (none)) = some (r1, r2, r3, r4, r5, r6, r7, r8, r9, r10, r11) := H
                 have A27 := Aside0.mk A270
                 clear A270
                 by_cases c28 : 24 ≤ 28
                 ·rw [if_pos c28] at H
                  have c28b0 := eq_true c28
                  have c28b1 : decide (24 ≤ 28) = true := decide_eq_true c28
                  clear c28
                  by_cases c29 : 28 ≤ (l0.length : Int)
                  ·rw [if_pos c29] at H
                   have c29b0 := eq_true c29
                   have c29b1 : decide (28 ≤ (l0.length : Int)) = true := decide_eq_true c29
                   clear c29
                   replace H := Option.bind_eq_some_iff.mp H
                   obtain ⟨t272, A300, H⟩ := H
                   replace H : ((some (([] : List Int) : List Int)).bind fun y273 => (if 2 < (l0.length : Int) then (if 28 ≤ (wrap64 (28 + (wrap64 (rd l0 2)))) then (if (wrap64 (28 + (wrap64 (rd l0 2)))) ≤ (l0.length : Int) then (if y273.length + ((l0.take ((wrap64 (28 + (wrap64 (rd l0 2)))) : Int).toNat).drop 28).length < 140737488355328 then ((some (y273 ++ ((l0.take ((wrap64 (28 + (wrap64 (rd l0 2)))) : Int).toNat).drop 28) : List Int)).bind fun y278 => ((lessorref03_Encode.f kj1 (wrap64 (rd l0 0)) ((t259) % 4294967296) t261 t263 ((t266) % 4294967296) ((t268) % 4294967296) ((t270) % 4294967296) ((t272) % 4294967296) y278 ([] : List (S39))).bind fun bt281 => (if bt281.2 = 0 then (if 240 ≤ (bt281.1.length : Int) then (if 240 ≤ (l0.length : Int) then (lessorref03_Decode.j1 kj1 l0 ((strOfNums (bt281.1.take 240)).toList != (strOfNums (l0.take 240)).toList) (wrap64 (rd l0 0)) ((t259) % 4294967296) t261 t263 ((t266) % 4294967296) ((t268) % 4294967296) ((t270) % 4294967296) ((t272) % 4294967296) y278) else (none)) else (none)) else (lessorref03_Decode.j1 kj1 l0 true (wrap64 (rd l0 0)) ((t259) % 4294967296) t261 t263 ((t266) % 4294967296) ((t268) % 4294967296) ((t270) % 4294967296) ((t272) % 4294967296) y278)))) else (none)) else (none)) else (none)) else (none))) = some (r1, r2, r3, r4, r5, r6, r7, r8, r9, r10, r11) := H
                   have A30 := Aside0.mk A300
                   clear A300
                   obtain ⟨y273, hy273⟩ : ∃ y_ : List Int, y_ = (([] : List Int)) := ⟨_, rfl⟩
                   replace H : (if 2 < (l0.length : Int) then (if 28 ≤ (wrap64 (28 + (wrap64 (rd l0 2)))) then (if (wrap64 (28 + (wrap64 (rd l0 2)))) ≤ (l0.length : Int) then (if y273.length + ((l0.take ((wrap64 (28 + (wrap64 (rd l0 2)))) : Int).toNat).drop 28).length < 140737488355328 then ((some (y273 ++ ((l0.take ((wrap64 (28 + (wrap64 (rd l0 2)))) : Int).toNat).drop 28) : List Int)).bind fun y278 => ((lessorref03_Encode.f kj1 (wrap64 (rd l0 0)) ((t259) % 4294967296) t261 t263 ((t266) % 4294967296) ((t268) % 4294967296) ((t270) % 4294967296) ((t272) % 4294967296) y278 ([] : List (S39))).bind fun bt281 => (if bt281.2 = 0 then (if 240 ≤ (bt281.1.length : Int) then (if 240 ≤ (l0.length : Int) then (lessorref03_Decode.j1 kj1 l0 ((strOfNums (bt281.1.take 240)).toList != (strOfNums (l0.take 240)).toList) (wrap64 (rd l0 0)) ((t259) % 4294967296) t261 t263 ((t266) % 4294967296) ((t268) % 4294967296) ((t270) % 4294967296) ((t272) % 4294967296) y278) else (none)) else (none)) else (lessorref03_Decode.j1 kj1 l0 true (wrap64 (rd l0 0)) ((t259) % 4294967296) t261 t263 ((t266) % 4294967296) ((t268) % 4294967296) ((t270) % 4294967296) ((t272) % 4294967296) y278)))) else (none)) else (none)) else (none)) else (none)) = some (r1, r2, r3, r4, r5, r6, r7, r8, r9, r10, r11) := by first | (rw [hy273]; with_reducible exact H) | (have H2_ := (Option.bind_some _ _).symm.trans H; rw [hy273]; with_reducible exact H2_) | (have H2_ := (Option.bind_some _ _).symm.trans H; with_reducible exact H2_) | with_reducible exact H | (rw [hy273]; exact H) | exact H
                   have Ny273 := Aside0.mk hy273
                   clear hy273
                   by_cases c31 : 2 < (l0.length : Int)
                   ·rw [if_pos c31] at H
                    have c31b0 : decide (2 < (l0.length : Int)) = true := decide_eq_true c31
                    have c31b1 : decide (2 < l0.length) = true := decide_eq_true (by omega)
                    clear c31
                    by_cases c32 : 28 ≤ (wrap64 (28 + (wrap64 (rd l0 2))))
                    ·rw [if_pos c32] at H
                     have c32b0 := eq_true c32
                     have c32b1 : decide (28 ≤ (wrap64 (28 + (wrap64 (rd l0 2))))) = true := decide_eq_true c32
                     by_cases c33 : (wrap64 (28 + (wrap64 (rd l0 2)))) ≤ (l0.length : Int)
                     ·rw [if_pos c33] at H
                      have c33b0 := eq_true c33
                      have c33b1 : decide ((wrap64 (28 + (wrap64 (rd l0 2)))) ≤ (l0.length : Int)) = true := decide_eq_true c33
                      by_cases c34 : y273.length + ((l0.take ((wrap64 (28 + (wrap64 (rd l0 2)))) : Int).toNat).drop 28).length < 140737488355328
                      ·rw [if_pos c34] at H
                       have LMc34 := Aside0.mk c34
                       clear c34
                       obtain ⟨y278, hy278⟩ : ∃ y_ : List Int, y_ = (y273 ++ ((l0.take ((wrap64 (28 + (wrap64 (rd l0 2)))) : Int).toNat).drop 28)) := ⟨_, rfl⟩
                       replace H : ((lessorref03_Encode.f kj1 (wrap64 (rd l0 0)) ((t259) % 4294967296) t261 t263 ((t266) % 4294967296) ((t268) % 4294967296) ((t270) % 4294967296) ((t272) % 4294967296) y278 ([] : List (S39))).bind fun bt281 => (if bt281.2 = 0 then (if 240 ≤ (bt281.1.length : Int) then (if 240 ≤ (l0.length : Int) then (lessorref03_Decode.j1 kj1 l0 ((strOfNums (bt281.1.take 240)).toList != (strOfNums (l0.take 240)).toList) (wrap64 (rd l0 0)) ((t259) % 4294967296) t261 t263 ((t266) % 4294967296) ((t268) % 4294967296) ((t270) % 4294967296) ((t272) % 4294967296) y278) else (none)) else (none)) else (lessorref03_Decode.j1 kj1 l0 true (wrap64 (rd l0 0)) ((t259) % 4294967296) t261 t263 ((t266) % 4294967296) ((t268) % 4294967296) ((t270) % 4294967296) ((t272) % 4294967296) y278))) = some (r1, r2, r3, r4, r5, r6, r7, r8, r9, r10, r11) := by first | (rw [hy278]; with_reducible exact H) | (have H2_ := (Option.bind_some _ _).symm.trans H; rw [hy278]; with_reducible exact H2_) | (have H2_ := (Option.bind_some _ _).symm.trans H; with_reducible exact H2_) | with_reducible exact H | (rw [hy278]; exact H) | exact H
                       have Ny278 := Aside0.mk hy278
                       clear hy278
                       replace H := Option.bind_eq_some_iff.mp H
                       obtain ⟨⟨t281, t284⟩, A350, H⟩ := H
                       replace H : (if t284 = 0 then (if 240 ≤ (t281.length : Int) then (if 240 ≤ (l0.length : Int) then (lessorref03_Decode.j1 kj1 l0 ((strOfNums (t281.take 240)).toList != (strOfNums (l0.take 240)).toList) (wrap64 (rd l0 0)) ((t259) % 4294967296) t261 t263 ((t266) % 4294967296) ((t268) % 4294967296) ((t270) % 4294967296) ((t272) % 4294967296) y278) else (none)) else (none)) else (lessorref03_Decode.j1 kj1 l0 true (wrap64 (rd l0 0)) ((t259) % 4294967296) t261 t263 ((t266) % 4294967296) ((t268) % 4294967296) ((t270) % 4294967296) ((t272) % 4294967296) y278)) = some (r1, r2, r3, r4, r5, r6, r7, r8, r9, r10, r11) := H
                       have A35 := Aside0.mk A350
                       clear A350
                       have HC36 := Aside0.mk H
                       clear H
                       try go_wp2
                       have n0_ := Aside0.mk (blk_drew BK254.out)
                       have n1_ := Aside0.mk (below_drew1 HB.out)
                       clear BK254
                       clear HB
                       have BK254 := n0_
                       have HB := n1_
                       clear n0_ n1_
                       have p257 : 0 ≤ (0 : Int) := (by omega)
                       have q257 : 0 < (l0.length : Int) := of_decide_eq_true (by first | (with_reducible assumption) | assumption)
                       obtain ⟨ad257, e257, hx257_0⟩ := Kd.at_int HR0.out 0 p257 q257
                       have hw257_0 := hx257_0
                       (try rw [show ((0 : Int)).toNat = 0 from rfl] at hw257_0)
                       (try rw [show 0 * 1 = 0 from rfl] at hw257_0)
                       (try rw [Addr.add_zero'] at hw257_0)
                       cases e257
                       have qi257 : (0 < l0.length) = True := eq_true (by omega)
                       (try rw [show ((0 : Int)).toNat = 0 from rfl] at hx257_0)
                       (try rw [Addr.add_zero'] at hx257_0)
                       replace hx257_0 := (HB.out.cell (World.block_lt_of_cell? w _ hx257_0)).trans hx257_0
                       replace p257 := eq_true p257
                       replace q257 := eq_true q257
                       obtain ⟨i038, hi038, _, hsz38, _⟩ := info_parts info5
                       obtain ⟨A38, hcut38, hA38, hC38⟩ := print_mid_of (P := Tryd.prog) (Value.int .u8) 0 22 5 .i64 .i64 Tryd.underlying22 hi038 hsz38 (some ad257) c0 l0 4 8 (by omega) (by first | omega | exact of_decide_eq_true (by first | (with_reducible assumption) | assumption)) (of_decide_eq_true (by first | (with_reducible assumption) | assumption)) HC0.out
                       have HR258 := Aside0.mk (Kd.C_of_reads (h1 := fun _ => rfl) (hA38 _ (Kd.reads_of_C HR0.out)))
                       have HC258 := Aside0.mk hC38
                       clear hA38 hC38 hi038 hsz38
                       obtain ⟨i039, hi039, _, hsz39, _⟩ := info_parts info5
                       obtain ⟨A39, hcut39, hA39, hC39⟩ := print_mid_of (P := Tryd.prog) (Value.int .u8) 0 22 5 .i64 .i64 Tryd.underlying22 hi039 hsz39 (some ad257) c0 l0 8 10 (by omega) (by first | omega | exact of_decide_eq_true (by first | (with_reducible assumption) | assumption)) (of_decide_eq_true (by first | (with_reducible assumption) | assumption)) HC0.out
                       have HR260 := Aside0.mk (Kd.C_of_reads (h1 := fun _ => rfl) (hA39 _ (Kd.reads_of_C HR0.out)))
                       have HC260 := Aside0.mk hC39
                       clear hA39 hC39 hi039 hsz39
                       obtain ⟨i040, hi040, _, hsz40, _⟩ := info_parts info5
                       obtain ⟨A40, hcut40, hA40, hC40⟩ := print_mid_of (P := Tryd.prog) (Value.int .u8) 0 22 5 .i64 .i64 Tryd.underlying22 hi040 hsz40 (some ad257) c0 l0 10 12 (by omega) (by first | omega | exact of_decide_eq_true (by first | (with_reducible assumption) | assumption)) (of_decide_eq_true (by first | (with_reducible assumption) | assumption)) HC0.out
                       have HR262 := Aside0.mk (Kd.C_of_reads (h1 := fun _ => rfl) (hA40 _ (Kd.reads_of_C HR0.out)))
                       have HC262 := Aside0.mk hC40
                       clear hA40 hC40 hi040 hsz40
                       refine start_ (n := 17) (S := fun w' => w'.cell? ad257 = some (.int .u8 (rd l0 0))) (ds := []) #[false, false, false, false, false, false, false, false, false, false, false, false, false, false, false, false, false] (by kernel_rfl) rfl rfl (((HB.out.cell (World.block_lt_of_cell? w _ hw257_0)).trans hw257_0)) (fun hHeld => ?_); refine with_tabW lessorref03_Decode.tab3 lessorref03_Decode.bits3 (fun HT_ HW_ => ?_)
                       generalize wc.drew = w37 at BK254 HB HR258 HR260 HR262 hx257_0 hHeld ⊢
                       refine pure_ (i := 0) (N := some 25) (v := ?_) (a' := ?_) #[true, false, false, false, false, false, false, false, false, false, false, false, false, false, false, false, false] rfl rfl (any_of HT_.out (by kernel_rfl)) (fun _ _ _ h => h) (Or.inl ⟨by rfl, ?_⟩) ?_ ?_
                       rotate_left
                       ·intro w'
                        go_simp
                        with_reducible rfl
                       rotate_left
                       ·simp only [Act.put, List.setIfInBounds_toArray, List.set_cons_zero, List.set_cons_succ, i64_w, i32_w]
                        rfl
                       refine pure_ (i := 1) (N := some 26) (v := ?_) (a' := ?_) #[true, true, false, false, false, false, false, false, false, false, false, false, false, false, false, false, false] rfl rfl (any_of HT_.out (by kernel_rfl)) (fun _ _ _ h => h) (Or.inl ⟨by rfl, ?_⟩) ?_ ?_
                       rotate_left
                       ·intro w'
                        go_simp
                        with_reducible rfl
                       rotate_left
                       ·simp only [Act.put, List.setIfInBounds_toArray, List.set_cons_zero, List.set_cons_succ, i64_w, i32_w]
                        rfl
                       refine pure_ (i := 4) (N := some 29) (v := ?_) (a' := ?_) #[true, true, false, false, true, false, false, false, false, false, false, false, false, false, false, false, false] rfl rfl (any_of HT_.out (by kernel_rfl)) (fun _ _ _ h => h) (Or.inl ⟨by rfl, ?_⟩) ?_ ?_
                       rotate_left
                       ·intro w'
                        go_simp
                        with_reducible rfl
                       rotate_left
                       ·simp only [Act.put, List.setIfInBounds_toArray, List.set_cons_zero, List.set_cons_succ, i64_w, i32_w]
                        rfl
                       refine pure_ (i := 5) (N := some 30) (v := ?_) (a' := ?_) #[true, true, false, false, true, true, false, false, false, false, false, false, false, false, false, false, false] rfl rfl (any_of HT_.out (by kernel_rfl)) (fun _ _ _ h => h) (Or.inl ⟨by rfl, ?_⟩) ?_ ?_
                       rotate_left
                       ·intro w'
                        go_simp
                        with_reducible rfl
                       rotate_left
                       ·simp only [Act.put, List.setIfInBounds_toArray, List.set_cons_zero, List.set_cons_succ, i64_w, i32_w]
                        rfl
                       refine pure_ (i := 8) (N := some 33) (v := ?_) (a' := ?_) #[true, true, false, false, true, true, false, false, true, false, false, false, false, false, false, false, false] rfl rfl (any_of HT_.out (by kernel_rfl)) (fun _ _ _ h => h) (Or.inl ⟨by rfl, ?_⟩) ?_ ?_
                       rotate_left
                       ·intro w'
                        go_simp
                        with_reducible rfl
                       rotate_left
                       ·simp only [Act.put, List.setIfInBounds_toArray, List.set_cons_zero, List.set_cons_succ, i64_w, i32_w]
                        rfl
                       refine pure_ (i := 9) (N := some 34) (v := ?_) (a' := ?_) #[true, true, false, false, true, true, false, false, true, true, false, false, false, false, false, false, false] rfl rfl (any_of HT_.out (by kernel_rfl)) (fun _ _ _ h => h) (Or.inl ⟨by rfl, ?_⟩) ?_ ?_
                       rotate_left
                       ·intro w'
                        go_simp
                        with_reducible rfl
                       rotate_left
                       ·simp only [Act.put, List.setIfInBounds_toArray, List.set_cons_zero, List.set_cons_succ, i64_w, i32_w]
                        rfl
                       refine pure_ (i := 11) (N := some 36) (v := ?_) (a' := ?_) #[true, true, false, false, true, true, false, false, true, true, false, true, false, false, false, false, false] rfl rfl (any_of HT_.out (by kernel_rfl)) (fun _ _ _ h => h) (Or.inl ⟨by rfl, ?_⟩) ?_ ?_
                       rotate_left
                       ·intro w'
                        go_simp
                        with_reducible rfl
                       rotate_left
                       ·simp only [Act.put, List.setIfInBounds_toArray, List.set_cons_zero, List.set_cons_succ, i64_w, i32_w]
                        rfl
                       refine pure_ (i := 12) (N := some 37) (v := ?_) (a' := ?_) #[true, true, false, false, true, true, false, false, true, true, false, true, true, false, false, false, false] rfl rfl (any_of HT_.out (by kernel_rfl)) (fun _ _ _ h => h) (Or.inl ⟨by rfl, ?_⟩) ?_ ?_
                       rotate_left
                       ·intro w'
                        go_simp
                        with_reducible rfl
                       rotate_left
                       ·simp only [Act.put, List.setIfInBounds_toArray, List.set_cons_zero, List.set_cons_succ, i64_w, i32_w]
                        rfl
                       refine take_ (i := 2) (N := some 27) (v := ?_) (a' := ?_) #[true, true, true, false, true, true, false, false, true, true, false, true, true, false, false, false, false] rfl rfl (take_ofW HT_.out HW_.out (by kernel_rfl)) (fun _ _ _ h => h) (Or.inl ⟨by rfl, ?_⟩) hHeld ?_ ?_
                       rotate_left
                       ·intro w' s0
                        go_simp
                        with_reducible rfl
                       rotate_left
                       ·simp only [Act.put, List.setIfInBounds_toArray, List.set_cons_zero, List.set_cons_succ, i64_w, i32_w]
                        rfl
                       refine pure_ (i := 3) (N := some 28) (v := ?_) (a' := ?_) #[true, true, true, true, true, true, false, false, true, true, false, true, true, false, false, false, false] rfl rfl (any_of HT_.out (by kernel_rfl)) (fun _ _ _ h => h) (Or.inl ⟨by rfl, ?_⟩) ?_ ?_
                       rotate_left
                       ·intro w'
                        go_simp
                        with_reducible rfl
                       rotate_left
                       ·simp only [Act.put, List.setIfInBounds_toArray, List.set_cons_zero, List.set_cons_succ, i64_w, i32_w]
                        rfl
                       refine join_ (σ := Nat) 1 #[true, true, true, true, true, true, true, true, true, true, true, true, true, true, true, true, false] (fun s_ => [(31, .int .i64 t259), (35, .int .i64 t261), (38, .int .i64 t263), (4, .pointer (some ⟨s_, 0, none⟩)), (32, .int .u32 ((t259) % 4294967296)), (39, .agg #[.int .i64 (wrap64 (rd l0 0)), .int .u32 ((t259) % 4294967296), .int .i64 t261, .int .i64 t263, .int .u32 0, .int .u32 0, .int .u32 0, .int .u32 0, .slice none 0 0, .slice none 0 0])]) (fun s_ w' => (w'.cell? ad257 = some (.int .u8 (rd l0 0))) ∧ (w'.heap[gb254]? = some (.cells #[.int .i64 0, .int .u32 0, .int .i64 0, .int .i64 0, .int .u32 0, .int .u32 0, .int .u32 0, .int .u32 0, .slice none 0 0, .slice none 0 0] 28 (0, 0))) ∧ (w'.heap[s_]? = some (.cells #[.int .i64 0, .int .u32 0, .int .i64 0, .int .i64 0, .int .u32 0, .int .u32 0, .int .u32 0, .int .u32 0, .slice none 0 0, .slice none 0 0] 28 (0, 0))) ∧ (w.heap.size ≤ s_) ∧ (w.heap.size ≤ s_) ∧ (gb254 ≠ s_) ∧ (s_ ≠ gb254) ∧ (Below w.heap.size w w')) ?_ ?_
                       rotate_left
                       ·intro hCont
                        refine two_ (i := 6) (j := 15) (Ni := some 31) (Nj := some 4) #[true, true, true, true, true, true, true, false, true, true, false, true, true, false, false, false, false] #[true, true, true, true, true, true, false, false, true, true, false, true, true, false, false, true, false] rfl rfl rfl rfl (two_of HT_.out (by kernel_rfl)) (by decide) (by decide) (fun K hK => ?_) (fun K hK => ?_)
                        ·skip
                         refine goes_ Tryd.func13 (by kernel_rfl) rfl #[.slice A38 ((l0.take 8).drop 4).length (c0 - 4)] (by rfl) rfl rfl (by (try simp only [List.map_toArray, List.map_cons, List.map_nil]); first | done | (rw [show ((l0.take 8).drop 4).length = (8 - 4) from (by rw [List.length_drop, List.length_take]; have h_ : (8 : Int) ≤ (l0.length : Int) := of_decide_eq_true (by first | (with_reducible assumption) | assumption); omega)] <;> rfl) | rfl | (simp only [List.length_drop, List.length_take]; rfl)) ?_
                         with_reducible refine (lessorref03_of.calls kj1 _ _ ((l0.take 8).drop 4) t259 _ ?side1_2 ?side2_2 A12.out).mono ?_
                         (case side1_2 => repeat (first | exact (Kd.C_below HR258.out HB.out) | exact (Kd.C_below (Aside0.out (by assumption)) HB.out) | (with_reducible refine Kd.C_alloc ?_ _) | (with_reducible refine Kd.C_drewN ?_ _) | (with_reducible refine Kd.C_drew ?_)))
                         (case side2_2 => exact HC258.out)
                         rintro e w' ⟨rfl, ⟨nd, rfl⟩⟩
                         refine ⟨_, rfl, ?_⟩
                         refine hK.out _ _ (((HB.out.cell (World.block_lt_of_cell? w _ hw257_0)).trans hw257_0)) (fun hHeld => ?_)
                         clear hK K
                         refine norm_ (a' := ?_) ?_ ?_
                         rotate_left
                         ·show Act.put _ (some 31) _ = _
                          simp only [Act.put, List.setIfInBounds_toArray, List.set_cons_zero, List.set_cons_succ, i64_w, i32_w]
                          rfl
                         refine pure_ (i := 7) (N := some 32) (v := ?_) (a' := ?_) #[true, true, true, true, true, true, true, true, true, true, false, true, true, false, false, false, false] rfl rfl (any_of HT_.out (by kernel_rfl)) (fun _ _ _ h => h) (Or.inl ⟨by rfl, ?_⟩) ?_ ?_
                         rotate_left
                         ·intro w'
                          go_simp
                          with_reducible rfl
                         rotate_left
                         ·simp only [Act.put, List.setIfInBounds_toArray, List.set_cons_zero, List.set_cons_succ, i64_w, i32_w]
                          rfl
                         refine two_ (i := 10) (j := 15) (Ni := some 35) (Nj := some 4) #[true, true, true, true, true, true, true, true, true, true, true, true, true, false, false, false, false] #[true, true, true, true, true, true, true, true, true, true, false, true, true, false, false, true, false] rfl rfl rfl rfl (two_of HT_.out (by kernel_rfl)) (by decide) (by decide) (fun K hK => ?_) (fun K hK => ?_)
                         ·skip
                          refine goes_ Tryd.func13 (by kernel_rfl) rfl #[.slice A39 ((l0.take 10).drop 8).length (c0 - 8)] (by rfl) rfl rfl (by (try simp only [List.map_toArray, List.map_cons, List.map_nil]); first | done | (rw [show ((l0.take 10).drop 8).length = (10 - 8) from (by rw [List.length_drop, List.length_take]; have h_ : (10 : Int) ≤ (l0.length : Int) := of_decide_eq_true (by first | (with_reducible assumption) | assumption); omega)] <;> rfl) | rfl | (simp only [List.length_drop, List.length_take]; rfl)) ?_
                          with_reducible refine (lessorref03_of.calls kj1 _ _ ((l0.take 10).drop 8) t261 _ ?side1_3 ?side2_3 A15.out).mono ?_
                          (case side1_3 => repeat (first | exact (Kd.C_below HR260.out (by repeat (first | (with_reducible first | exact HB.out | apply below_alloc | apply pw_below_drewN | apply below_drew1 | refine below_set ?_ GE254.out) | exact HB.out))) | (with_reducible refine Kd.C_alloc ?_ _) | (with_reducible refine Kd.C_drewN ?_ _) | (with_reducible refine Kd.C_drew ?_)))
                          (case side2_3 => exact HC260.out)
                          rintro e w' ⟨rfl, ⟨nd, rfl⟩⟩
                          refine ⟨_, rfl, ?_⟩
                          refine hK.out _ _ (((HB.out.cell (World.block_lt_of_cell? w _ hw257_0)).trans hw257_0)) (fun hHeld => ?_)
                          clear hK K
                          refine norm_ (a' := ?_) ?_ ?_
                          rotate_left
                          ·show Act.put _ (some 35) _ = _
                           simp only [Act.put, List.setIfInBounds_toArray, List.set_cons_zero, List.set_cons_succ, i64_w, i32_w]
                           rfl
                          refine two_ (i := 13) (j := 15) (Ni := some 38) (Nj := some 4) #[true, true, true, true, true, true, true, true, true, true, true, true, true, true, false, false, false] #[true, true, true, true, true, true, true, true, true, true, true, true, true, false, false, true, false] rfl rfl rfl rfl (two_of HT_.out (by kernel_rfl)) (by decide) (by decide) (fun K hK => ?_) (fun K hK => ?_)
                          ·skip
                           refine goes_ Tryd.func13 (by kernel_rfl) rfl #[.slice A40 ((l0.take 12).drop 10).length (c0 - 10)] (by rfl) rfl rfl (by (try simp only [List.map_toArray, List.map_cons, List.map_nil]); first | done | (rw [show ((l0.take 12).drop 10).length = (12 - 10) from (by rw [List.length_drop, List.length_take]; have h_ : (12 : Int) ≤ (l0.length : Int) := of_decide_eq_true (by first | (with_reducible assumption) | assumption); omega)] <;> rfl) | rfl | (simp only [List.length_drop, List.length_take]; rfl)) ?_
                           with_reducible refine (lessorref03_of.calls kj1 _ _ ((l0.take 12).drop 10) t263 _ ?side1_4 ?side2_4 A18.out).mono ?_
                           (case side1_4 => repeat (first | exact (Kd.C_below HR262.out (by repeat (first | (with_reducible first | exact HB.out | apply below_alloc | apply pw_below_drewN | apply below_drew1 | refine below_set ?_ GE254.out) | exact HB.out))) | (with_reducible refine Kd.C_alloc ?_ _) | (with_reducible refine Kd.C_drewN ?_ _) | (with_reducible refine Kd.C_drew ?_)))
                           (case side2_4 => exact HC262.out)
                           rintro e w' ⟨rfl, ⟨nd, rfl⟩⟩
                           refine ⟨_, rfl, ?_⟩
                           refine hK.out _ _ (((HB.out.cell (World.block_lt_of_cell? w _ hw257_0)).trans hw257_0)) (fun hHeld => ?_)
                           clear hK K
                           refine norm_ (a' := ?_) ?_ ?_
                           rotate_left
                           ·show Act.put _ (some 38) _ = _
                            simp only [Act.put, List.setIfInBounds_toArray, List.set_cons_zero, List.set_cons_succ, i64_w, i32_w]
                            rfl
                           refine pure_ (i := 14) (N := some 39) (v := ?_) (a' := ?_) #[true, true, true, true, true, true, true, true, true, true, true, true, true, true, true, false, false] rfl rfl (any_of HT_.out (by kernel_rfl)) (fun _ _ _ h => h) (Or.inl ⟨by rfl, ?_⟩) ?_ ?_
                           rotate_left
                           ·intro w'
                            go_simp
                            with_reducible rfl
                           rotate_left
                           ·simp only [Act.put, List.setIfInBounds_toArray, List.set_cons_zero, List.set_cons_succ, i64_w, i32_w]
                            rfl
                           refine one_ (i := 15) (N := some 4) #[true, true, true, true, true, true, true, true, true, true, true, true, true, true, true, true, false] rfl rfl (one_of HT_.out (by kernel_rfl)) (by decide) (fun K hK => ?_)
                           refine box_step ?hg_5 (N := 4) ?hd_5 (cs := #[.int .i64 0, .int .u32 0, .int .i64 0, .int .i64 0, .int .u32 0, .int .u32 0, .int .u32 0, .int .u32 0, .slice none 0 0, .slice none 0 0]) (t := 28) ?hr_5 ?_; (case hd_5 => rfl); (case hg_5 => rfl); (case hr_5 => first | (go_simp; done) | (go_simp; rfl))
                           intro gb264 hg w41 hbox hb
                           have n0_ := Aside0.mk (blk_below (g := gb254) (o := .cells #[.int .i64 0, .int .u32 0, .int .i64 0, .int .i64 0, .int .u32 0, .int .u32 0, .int .u32 0, .int .u32 0, .slice none 0 0, .slice none 0 0] 28 (0, 0)) (by (with_reducible repeat (first | refine blk_drewN ?_ _ | refine blk_drew ?_ | refine blk_alloc ?_ _)); exact BK254.out) hb)
                           have n1_ := Aside0.mk (below_step (by repeat (first | (with_reducible first | exact HB.out | apply below_alloc | apply pw_below_drewN | apply below_drew1 | refine below_set ?_ GE254.out) | exact HB.out)) hb)
                           have n2_ := Aside0.mk (hbox)
                           have n3_ := Aside0.mk ((by rw [hg]; exact (below_size (by repeat (first | (with_reducible first | exact HB.out | apply below_alloc | apply pw_below_drewN | apply below_drew1 | refine below_set ?_ GE254.out) | exact HB.out))) : w.heap.size ≤ gb264))
                           have n4_ := Aside0.mk ((by rw [hg]; exact (below_size (by repeat (first | (with_reducible first | exact HB.out | apply below_alloc | apply pw_below_drewN | apply below_drew1 | refine below_set ?_ GE254.out) | exact HB.out))) : w.heap.size ≤ gb264))
                           have n5_ := Aside0.mk ((by rw [hg]; exact Nat.ne_of_lt (blk_lt (g := gb254) (o := .cells #[.int .i64 0, .int .u32 0, .int .i64 0, .int .i64 0, .int .u32 0, .int .u32 0, .int .u32 0, .int .u32 0, .slice none 0 0, .slice none 0 0] 28 (0, 0)) (by (with_reducible repeat (first | refine blk_drewN ?_ _ | refine blk_drew ?_ | refine blk_alloc ?_ _)); exact BK254.out)) : gb254 ≠ gb264))
                           have n6_ := Aside0.mk ((by rw [hg]; exact Nat.ne_of_gt (blk_lt (g := gb254) (o := .cells #[.int .i64 0, .int .u32 0, .int .i64 0, .int .i64 0, .int .u32 0, .int .u32 0, .int .u32 0, .int .u32 0, .slice none 0 0, .slice none 0 0] 28 (0, 0)) (by (with_reducible repeat (first | refine blk_drewN ?_ _ | refine blk_drew ?_ | refine blk_alloc ?_ _)); exact BK254.out)) : gb264 ≠ gb254))
                           clear BK254
                           clear HB
                           have BK254 := n0_
                           have HB := n1_
                           have BK264 := n2_
                           have GW264 := n3_
                           have GE264 := n4_
                           have NB254_264 := n5_
                           have NB264_254 := n6_
                           clear n0_ n1_ n2_ n3_ n4_ n5_ n6_
                           clear hb hbox hg
                           refine hK.out _ _ (((HB.out.cell (World.block_lt_of_cell? w _ hw257_0)).trans hw257_0)) (fun hHeld => ?_)
                           clear hK K
                           refine norm_ (a' := ?_) ?_ ?_
                           rotate_left
                           ·show Act.put _ (some 4) _ = _
                            simp only [Act.put, List.setIfInBounds_toArray, List.set_cons_zero, List.set_cons_succ, i64_w, i32_w]
                            rfl
                           exact norm_ (by first | (simp only [putAll, Act.put, List.setIfInBounds_toArray, List.set_cons_zero, List.set_cons_succ]; done) | (simp only [putAll, Act.put, List.setIfInBounds_toArray, List.set_cons_zero, List.set_cons_succ]; rfl)) (hCont (gb264) _ ⟨hHeld, (by (with_reducible repeat (first | refine blk_drewN ?_ _ | refine blk_drew ?_ | refine blk_alloc ?_ _)); exact BK254.out), (by (with_reducible repeat (first | refine blk_drewN ?_ _ | refine blk_drew ?_ | refine blk_alloc ?_ _)); exact BK264.out), GW264.out, GE264.out, NB254_264.out, NB264_254.out, (by repeat (first | (with_reducible first | exact HB.out | apply below_alloc | apply pw_below_drewN | apply below_drew1 | refine below_set ?_ GE254.out | refine below_set ?_ GE264.out) | exact HB.out))⟩)
                          ·skip
                           refine box_step ?hg_6 (N := 4) ?hd_6 (cs := #[.int .i64 0, .int .u32 0, .int .i64 0, .int .i64 0, .int .u32 0, .int .u32 0, .int .u32 0, .int .u32 0, .slice none 0 0, .slice none 0 0]) (t := 28) ?hr_6 ?_; (case hd_6 => rfl); (case hg_6 => rfl); (case hr_6 => first | (go_simp; done) | (go_simp; rfl))
                           intro gb264 hg w41 hbox hb
                           have n0_ := Aside0.mk (blk_below (g := gb254) (o := .cells #[.int .i64 0, .int .u32 0, .int .i64 0, .int .i64 0, .int .u32 0, .int .u32 0, .int .u32 0, .int .u32 0, .slice none 0 0, .slice none 0 0] 28 (0, 0)) (by (with_reducible repeat (first | refine blk_drewN ?_ _ | refine blk_drew ?_ | refine blk_alloc ?_ _)); exact BK254.out) hb)
                           have n1_ := Aside0.mk (below_step (by repeat (first | (with_reducible first | exact HB.out | apply below_alloc | apply pw_below_drewN | apply below_drew1 | refine below_set ?_ GE254.out) | exact HB.out)) hb)
                           have n2_ := Aside0.mk (hbox)
                           have n3_ := Aside0.mk ((by rw [hg]; exact (below_size (by repeat (first | (with_reducible first | exact HB.out | apply below_alloc | apply pw_below_drewN | apply below_drew1 | refine below_set ?_ GE254.out) | exact HB.out))) : w.heap.size ≤ gb264))
                           have n4_ := Aside0.mk ((by rw [hg]; exact (below_size (by repeat (first | (with_reducible first | exact HB.out | apply below_alloc | apply pw_below_drewN | apply below_drew1 | refine below_set ?_ GE254.out) | exact HB.out))) : w.heap.size ≤ gb264))
                           have n5_ := Aside0.mk ((by rw [hg]; exact Nat.ne_of_lt (blk_lt (g := gb254) (o := .cells #[.int .i64 0, .int .u32 0, .int .i64 0, .int .i64 0, .int .u32 0, .int .u32 0, .int .u32 0, .int .u32 0, .slice none 0 0, .slice none 0 0] 28 (0, 0)) (by (with_reducible repeat (first | refine blk_drewN ?_ _ | refine blk_drew ?_ | refine blk_alloc ?_ _)); exact BK254.out)) : gb254 ≠ gb264))
                           have n6_ := Aside0.mk ((by rw [hg]; exact Nat.ne_of_gt (blk_lt (g := gb254) (o := .cells #[.int .i64 0, .int .u32 0, .int .i64 0, .int .i64 0, .int .u32 0, .int .u32 0, .int .u32 0, .int .u32 0, .slice none 0 0, .slice none 0 0] 28 (0, 0)) (by (with_reducible repeat (first | refine blk_drewN ?_ _ | refine blk_drew ?_ | refine blk_alloc ?_ _)); exact BK254.out)) : gb264 ≠ gb254))
                           clear BK254
                           clear HB
                           have BK254 := n0_
                           have HB := n1_
                           have BK264 := n2_
                           have GW264 := n3_
                           have GE264 := n4_
                           have NB254_264 := n5_
                           have NB264_254 := n6_
                           clear n0_ n1_ n2_ n3_ n4_ n5_ n6_
                           clear hb hbox hg
                           refine hK.out _ _ (((HB.out.cell (World.block_lt_of_cell? w _ hw257_0)).trans hw257_0)) (fun hHeld => ?_)
                           clear hK K
                           refine norm_ (a' := ?_) ?_ ?_
                           rotate_left
                           ·show Act.put _ (some 4) _ = _
                            simp only [Act.put, List.setIfInBounds_toArray, List.set_cons_zero, List.set_cons_succ, i64_w, i32_w]
                            rfl
                           refine one_ (i := 13) (N := some 38) #[true, true, true, true, true, true, true, true, true, true, true, true, true, true, false, true, false] rfl rfl (one_of HT_.out (by kernel_rfl)) (by decide) (fun K hK => ?_)
                           refine goes_ Tryd.func13 (by kernel_rfl) rfl #[.slice A40 ((l0.take 12).drop 10).length (c0 - 10)] (by rfl) rfl rfl (by (try simp only [List.map_toArray, List.map_cons, List.map_nil]); first | done | (rw [show ((l0.take 12).drop 10).length = (12 - 10) from (by rw [List.length_drop, List.length_take]; have h_ : (12 : Int) ≤ (l0.length : Int) := of_decide_eq_true (by first | (with_reducible assumption) | assumption); omega)] <;> rfl) | rfl | (simp only [List.length_drop, List.length_take]; rfl)) ?_
                           with_reducible refine (lessorref03_of.calls kj1 _ _ ((l0.take 12).drop 10) t263 _ ?side1_7 ?side2_7 A18.out).mono ?_
                           (case side1_7 => repeat (first | exact (Kd.C_below HR262.out HB.out) | exact (Kd.C_below (Aside0.out (by assumption)) HB.out) | (with_reducible refine Kd.C_alloc ?_ _) | (with_reducible refine Kd.C_drewN ?_ _) | (with_reducible refine Kd.C_drew ?_)))
                           (case side2_7 => exact HC262.out)
                           rintro e w' ⟨rfl, ⟨nd, rfl⟩⟩
                           refine ⟨_, rfl, ?_⟩
                           refine hK.out _ _ (((HB.out.cell (World.block_lt_of_cell? w _ hw257_0)).trans hw257_0)) (fun hHeld => ?_)
                           clear hK K
                           refine norm_ (a' := ?_) ?_ ?_
                           rotate_left
                           ·show Act.put _ (some 38) _ = _
                            simp only [Act.put, List.setIfInBounds_toArray, List.set_cons_zero, List.set_cons_succ, i64_w, i32_w]
                            rfl
                           refine pure_ (i := 14) (N := some 39) (v := ?_) (a' := ?_) #[true, true, true, true, true, true, true, true, true, true, true, true, true, true, true, true, false] rfl rfl (any_of HT_.out (by kernel_rfl)) (fun _ _ _ h => h) (Or.inl ⟨by rfl, ?_⟩) ?_ ?_
                           rotate_left
                           ·intro w'
                            go_simp
                            with_reducible rfl
                           rotate_left
                           ·simp only [Act.put, List.setIfInBounds_toArray, List.set_cons_zero, List.set_cons_succ, i64_w, i32_w]
                            rfl
                           exact norm_ (by first | (simp only [putAll, Act.put, List.setIfInBounds_toArray, List.set_cons_zero, List.set_cons_succ]; done) | (simp only [putAll, Act.put, List.setIfInBounds_toArray, List.set_cons_zero, List.set_cons_succ]; rfl)) (hCont (gb264) _ ⟨hHeld, (by (with_reducible repeat (first | refine blk_drewN ?_ _ | refine blk_drew ?_ | refine blk_alloc ?_ _)); exact BK254.out), (by (with_reducible repeat (first | refine blk_drewN ?_ _ | refine blk_drew ?_ | refine blk_alloc ?_ _)); exact BK264.out), GW264.out, GE264.out, NB254_264.out, NB264_254.out, (by repeat (first | (with_reducible first | exact HB.out | apply below_alloc | apply pw_below_drewN | apply below_drew1 | refine below_set ?_ GE254.out | refine below_set ?_ GE264.out) | exact HB.out))⟩)
                         ·skip
                          refine box_step ?hg_8 (N := 4) ?hd_8 (cs := #[.int .i64 0, .int .u32 0, .int .i64 0, .int .i64 0, .int .u32 0, .int .u32 0, .int .u32 0, .int .u32 0, .slice none 0 0, .slice none 0 0]) (t := 28) ?hr_8 ?_; (case hd_8 => rfl); (case hg_8 => rfl); (case hr_8 => first | (go_simp; done) | (go_simp; rfl))
                          intro gb264 hg w41 hbox hb
                          have n0_ := Aside0.mk (blk_below (g := gb254) (o := .cells #[.int .i64 0, .int .u32 0, .int .i64 0, .int .i64 0, .int .u32 0, .int .u32 0, .int .u32 0, .int .u32 0, .slice none 0 0, .slice none 0 0] 28 (0, 0)) (by (with_reducible repeat (first | refine blk_drewN ?_ _ | refine blk_drew ?_ | refine blk_alloc ?_ _)); exact BK254.out) hb)
                          have n1_ := Aside0.mk (below_step (by repeat (first | (with_reducible first | exact HB.out | apply below_alloc | apply pw_below_drewN | apply below_drew1 | refine below_set ?_ GE254.out) | exact HB.out)) hb)
                          have n2_ := Aside0.mk (hbox)
                          have n3_ := Aside0.mk ((by rw [hg]; exact (below_size (by repeat (first | (with_reducible first | exact HB.out | apply below_alloc | apply pw_below_drewN | apply below_drew1 | refine below_set ?_ GE254.out) | exact HB.out))) : w.heap.size ≤ gb264))
                          have n4_ := Aside0.mk ((by rw [hg]; exact (below_size (by repeat (first | (with_reducible first | exact HB.out | apply below_alloc | apply pw_below_drewN | apply below_drew1 | refine below_set ?_ GE254.out) | exact HB.out))) : w.heap.size ≤ gb264))
                          have n5_ := Aside0.mk ((by rw [hg]; exact Nat.ne_of_lt (blk_lt (g := gb254) (o := .cells #[.int .i64 0, .int .u32 0, .int .i64 0, .int .i64 0, .int .u32 0, .int .u32 0, .int .u32 0, .int .u32 0, .slice none 0 0, .slice none 0 0] 28 (0, 0)) (by (with_reducible repeat (first | refine blk_drewN ?_ _ | refine blk_drew ?_ | refine blk_alloc ?_ _)); exact BK254.out)) : gb254 ≠ gb264))
                          have n6_ := Aside0.mk ((by rw [hg]; exact Nat.ne_of_gt (blk_lt (g := gb254) (o := .cells #[.int .i64 0, .int .u32 0, .int .i64 0, .int .i64 0, .int .u32 0, .int .u32 0, .int .u32 0, .int .u32 0, .slice none 0 0, .slice none 0 0] 28 (0, 0)) (by (with_reducible repeat (first | refine blk_drewN ?_ _ | refine blk_drew ?_ | refine blk_alloc ?_ _)); exact BK254.out)) : gb264 ≠ gb254))
                          clear BK254
                          clear HB
                          have BK254 := n0_
                          have HB := n1_
                          have BK264 := n2_
                          have GW264 := n3_
                          have GE264 := n4_
                          have NB254_264 := n5_
                          have NB264_254 := n6_
                          clear n0_ n1_ n2_ n3_ n4_ n5_ n6_
                          clear hb hbox hg
                          refine hK.out _ _ (((HB.out.cell (World.block_lt_of_cell? w _ hw257_0)).trans hw257_0)) (fun hHeld => ?_)
                          clear hK K
                          refine norm_ (a' := ?_) ?_ ?_
                          rotate_left
                          ·show Act.put _ (some 4) _ = _
                           simp only [Act.put, List.setIfInBounds_toArray, List.set_cons_zero, List.set_cons_succ, i64_w, i32_w]
                           rfl
                          refine one_ (i := 10) (N := some 35) #[true, true, true, true, true, true, true, true, true, true, true, true, true, false, false, true, false] rfl rfl (one_of HT_.out (by kernel_rfl)) (by decide) (fun K hK => ?_)
                          refine goes_ Tryd.func13 (by kernel_rfl) rfl #[.slice A39 ((l0.take 10).drop 8).length (c0 - 8)] (by rfl) rfl rfl (by (try simp only [List.map_toArray, List.map_cons, List.map_nil]); first | done | (rw [show ((l0.take 10).drop 8).length = (10 - 8) from (by rw [List.length_drop, List.length_take]; have h_ : (10 : Int) ≤ (l0.length : Int) := of_decide_eq_true (by first | (with_reducible assumption) | assumption); omega)] <;> rfl) | rfl | (simp only [List.length_drop, List.length_take]; rfl)) ?_
                          with_reducible refine (lessorref03_of.calls kj1 _ _ ((l0.take 10).drop 8) t261 _ ?side1_9 ?side2_9 A15.out).mono ?_
                          (case side1_9 => repeat (first | exact (Kd.C_below HR260.out HB.out) | exact (Kd.C_below (Aside0.out (by assumption)) HB.out) | (with_reducible refine Kd.C_alloc ?_ _) | (with_reducible refine Kd.C_drewN ?_ _) | (with_reducible refine Kd.C_drew ?_)))
                          (case side2_9 => exact HC260.out)
                          rintro e w' ⟨rfl, ⟨nd, rfl⟩⟩
                          refine ⟨_, rfl, ?_⟩
                          refine hK.out _ _ (((HB.out.cell (World.block_lt_of_cell? w _ hw257_0)).trans hw257_0)) (fun hHeld => ?_)
                          clear hK K
                          refine norm_ (a' := ?_) ?_ ?_
                          rotate_left
                          ·show Act.put _ (some 35) _ = _
                           simp only [Act.put, List.setIfInBounds_toArray, List.set_cons_zero, List.set_cons_succ, i64_w, i32_w]
                           rfl
                          refine one_ (i := 13) (N := some 38) #[true, true, true, true, true, true, true, true, true, true, true, true, true, true, false, true, false] rfl rfl (one_of HT_.out (by kernel_rfl)) (by decide) (fun K hK => ?_)
                          refine goes_ Tryd.func13 (by kernel_rfl) rfl #[.slice A40 ((l0.take 12).drop 10).length (c0 - 10)] (by rfl) rfl rfl (by (try simp only [List.map_toArray, List.map_cons, List.map_nil]); first | done | (rw [show ((l0.take 12).drop 10).length = (12 - 10) from (by rw [List.length_drop, List.length_take]; have h_ : (12 : Int) ≤ (l0.length : Int) := of_decide_eq_true (by first | (with_reducible assumption) | assumption); omega)] <;> rfl) | rfl | (simp only [List.length_drop, List.length_take]; rfl)) ?_
                          with_reducible refine (lessorref03_of.calls kj1 _ _ ((l0.take 12).drop 10) t263 _ ?side1_10 ?side2_10 A18.out).mono ?_
                          (case side1_10 => repeat (first | exact (Kd.C_below HR262.out (by repeat (first | (with_reducible first | exact HB.out | apply below_alloc | apply pw_below_drewN | apply below_drew1 | refine below_set ?_ GE254.out | refine below_set ?_ GE264.out) | exact HB.out))) | (with_reducible refine Kd.C_alloc ?_ _) | (with_reducible refine Kd.C_drewN ?_ _) | (with_reducible refine Kd.C_drew ?_)))
                          (case side2_10 => exact HC262.out)
                          rintro e w' ⟨rfl, ⟨nd, rfl⟩⟩
                          refine ⟨_, rfl, ?_⟩
                          refine hK.out _ _ (((HB.out.cell (World.block_lt_of_cell? w _ hw257_0)).trans hw257_0)) (fun hHeld => ?_)
                          clear hK K
                          refine norm_ (a' := ?_) ?_ ?_
                          rotate_left
                          ·show Act.put _ (some 38) _ = _
                           simp only [Act.put, List.setIfInBounds_toArray, List.set_cons_zero, List.set_cons_succ, i64_w, i32_w]
                           rfl
                          refine pure_ (i := 14) (N := some 39) (v := ?_) (a' := ?_) #[true, true, true, true, true, true, true, true, true, true, true, true, true, true, true, true, false] rfl rfl (any_of HT_.out (by kernel_rfl)) (fun _ _ _ h => h) (Or.inl ⟨by rfl, ?_⟩) ?_ ?_
                          rotate_left
                          ·intro w'
                           go_simp
                           with_reducible rfl
                          rotate_left
                          ·simp only [Act.put, List.setIfInBounds_toArray, List.set_cons_zero, List.set_cons_succ, i64_w, i32_w]
                           rfl
                          exact norm_ (by first | (simp only [putAll, Act.put, List.setIfInBounds_toArray, List.set_cons_zero, List.set_cons_succ]; done) | (simp only [putAll, Act.put, List.setIfInBounds_toArray, List.set_cons_zero, List.set_cons_succ]; rfl)) (hCont (gb264) _ ⟨hHeld, (by (with_reducible repeat (first | refine blk_drewN ?_ _ | refine blk_drew ?_ | refine blk_alloc ?_ _)); exact BK254.out), (by (with_reducible repeat (first | refine blk_drewN ?_ _ | refine blk_drew ?_ | refine blk_alloc ?_ _)); exact BK264.out), GW264.out, GE264.out, NB254_264.out, NB264_254.out, (by repeat (first | (with_reducible first | exact HB.out | apply below_alloc | apply pw_below_drewN | apply below_drew1 | refine below_set ?_ GE254.out | refine below_set ?_ GE264.out) | exact HB.out))⟩)
                        ·skip
                         refine box_step ?hg_11 (N := 4) ?hd_11 (cs := #[.int .i64 0, .int .u32 0, .int .i64 0, .int .i64 0, .int .u32 0, .int .u32 0, .int .u32 0, .int .u32 0, .slice none 0 0, .slice none 0 0]) (t := 28) ?hr_11 ?_; (case hd_11 => rfl); (case hg_11 => rfl); (case hr_11 => first | (go_simp; done) | (go_simp; rfl))
                         intro gb264 hg w41 hbox hb
                         have n0_ := Aside0.mk (blk_below (g := gb254) (o := .cells #[.int .i64 0, .int .u32 0, .int .i64 0, .int .i64 0, .int .u32 0, .int .u32 0, .int .u32 0, .int .u32 0, .slice none 0 0, .slice none 0 0] 28 (0, 0)) (by (with_reducible repeat (first | refine blk_drewN ?_ _ | refine blk_drew ?_ | refine blk_alloc ?_ _)); exact BK254.out) hb)
                         have n1_ := Aside0.mk (below_step (by repeat (first | (with_reducible first | exact HB.out | apply below_alloc | apply pw_below_drewN | apply below_drew1 | refine below_set ?_ GE254.out) | exact HB.out)) hb)
                         have n2_ := Aside0.mk (hbox)
                         have n3_ := Aside0.mk ((by rw [hg]; exact (below_size (by repeat (first | (with_reducible first | exact HB.out | apply below_alloc | apply pw_below_drewN | apply below_drew1 | refine below_set ?_ GE254.out) | exact HB.out))) : w.heap.size ≤ gb264))
                         have n4_ := Aside0.mk ((by rw [hg]; exact (below_size (by repeat (first | (with_reducible first | exact HB.out | apply below_alloc | apply pw_below_drewN | apply below_drew1 | refine below_set ?_ GE254.out) | exact HB.out))) : w.heap.size ≤ gb264))
                         have n5_ := Aside0.mk ((by rw [hg]; exact Nat.ne_of_lt (blk_lt (g := gb254) (o := .cells #[.int .i64 0, .int .u32 0, .int .i64 0, .int .i64 0, .int .u32 0, .int .u32 0, .int .u32 0, .int .u32 0, .slice none 0 0, .slice none 0 0] 28 (0, 0)) (by (with_reducible repeat (first | refine blk_drewN ?_ _ | refine blk_drew ?_ | refine blk_alloc ?_ _)); exact BK254.out)) : gb254 ≠ gb264))
                         have n6_ := Aside0.mk ((by rw [hg]; exact Nat.ne_of_gt (blk_lt (g := gb254) (o := .cells #[.int .i64 0, .int .u32 0, .int .i64 0, .int .i64 0, .int .u32 0, .int .u32 0, .int .u32 0, .int .u32 0, .slice none 0 0, .slice none 0 0] 28 (0, 0)) (by (with_reducible repeat (first | refine blk_drewN ?_ _ | refine blk_drew ?_ | refine blk_alloc ?_ _)); exact BK254.out)) : gb264 ≠ gb254))
                         clear BK254
                         clear HB
                         have BK254 := n0_
                         have HB := n1_
                         have BK264 := n2_
                         have GW264 := n3_
                         have GE264 := n4_
                         have NB254_264 := n5_
                         have NB264_254 := n6_
                         clear n0_ n1_ n2_ n3_ n4_ n5_ n6_
                         clear hb hbox hg
                         refine hK.out _ _ (((HB.out.cell (World.block_lt_of_cell? w _ hw257_0)).trans hw257_0)) (fun hHeld => ?_)
                         clear hK K
                         refine norm_ (a' := ?_) ?_ ?_
                         rotate_left
                         ·show Act.put _ (some 4) _ = _
                          simp only [Act.put, List.setIfInBounds_toArray, List.set_cons_zero, List.set_cons_succ, i64_w, i32_w]
                          rfl
                         refine one_ (i := 6) (N := some 31) #[true, true, true, true, true, true, true, false, true, true, false, true, true, false, false, true, false] rfl rfl (one_of HT_.out (by kernel_rfl)) (by decide) (fun K hK => ?_)
                         refine goes_ Tryd.func13 (by kernel_rfl) rfl #[.slice A38 ((l0.take 8).drop 4).length (c0 - 4)] (by rfl) rfl rfl (by (try simp only [List.map_toArray, List.map_cons, List.map_nil]); first | done | (rw [show ((l0.take 8).drop 4).length = (8 - 4) from (by rw [List.length_drop, List.length_take]; have h_ : (8 : Int) ≤ (l0.length : Int) := of_decide_eq_true (by first | (with_reducible assumption) | assumption); omega)] <;> rfl) | rfl | (simp only [List.length_drop, List.length_take]; rfl)) ?_
                         with_reducible refine (lessorref03_of.calls kj1 _ _ ((l0.take 8).drop 4) t259 _ ?side1_12 ?side2_12 A12.out).mono ?_
                         (case side1_12 => repeat (first | exact (Kd.C_below HR258.out HB.out) | exact (Kd.C_below (Aside0.out (by assumption)) HB.out) | (with_reducible refine Kd.C_alloc ?_ _) | (with_reducible refine Kd.C_drewN ?_ _) | (with_reducible refine Kd.C_drew ?_)))
                         (case side2_12 => exact HC258.out)
                         rintro e w' ⟨rfl, ⟨nd, rfl⟩⟩
                         refine ⟨_, rfl, ?_⟩
                         refine hK.out _ _ (((HB.out.cell (World.block_lt_of_cell? w _ hw257_0)).trans hw257_0)) (fun hHeld => ?_)
                         clear hK K
                         refine norm_ (a' := ?_) ?_ ?_
                         rotate_left
                         ·show Act.put _ (some 31) _ = _
                          simp only [Act.put, List.setIfInBounds_toArray, List.set_cons_zero, List.set_cons_succ, i64_w, i32_w]
                          rfl
                         refine pure_ (i := 7) (N := some 32) (v := ?_) (a' := ?_) #[true, true, true, true, true, true, true, true, true, true, false, true, true, false, false, true, false] rfl rfl (any_of HT_.out (by kernel_rfl)) (fun _ _ _ h => h) (Or.inl ⟨by rfl, ?_⟩) ?_ ?_
                         rotate_left
                         ·intro w'
                          go_simp
                          with_reducible rfl
                         rotate_left
                         ·simp only [Act.put, List.setIfInBounds_toArray, List.set_cons_zero, List.set_cons_succ, i64_w, i32_w]
                          rfl
                         refine one_ (i := 10) (N := some 35) #[true, true, true, true, true, true, true, true, true, true, true, true, true, false, false, true, false] rfl rfl (one_of HT_.out (by kernel_rfl)) (by decide) (fun K hK => ?_)
                         refine goes_ Tryd.func13 (by kernel_rfl) rfl #[.slice A39 ((l0.take 10).drop 8).length (c0 - 8)] (by rfl) rfl rfl (by (try simp only [List.map_toArray, List.map_cons, List.map_nil]); first | done | (rw [show ((l0.take 10).drop 8).length = (10 - 8) from (by rw [List.length_drop, List.length_take]; have h_ : (10 : Int) ≤ (l0.length : Int) := of_decide_eq_true (by first | (with_reducible assumption) | assumption); omega)] <;> rfl) | rfl | (simp only [List.length_drop, List.length_take]; rfl)) ?_
                         with_reducible refine (lessorref03_of.calls kj1 _ _ ((l0.take 10).drop 8) t261 _ ?side1_13 ?side2_13 A15.out).mono ?_
                         (case side1_13 => repeat (first | exact (Kd.C_below HR260.out (by repeat (first | (with_reducible first | exact HB.out | apply below_alloc | apply pw_below_drewN | apply below_drew1 | refine below_set ?_ GE254.out | refine below_set ?_ GE264.out) | exact HB.out))) | (with_reducible refine Kd.C_alloc ?_ _) | (with_reducible refine Kd.C_drewN ?_ _) | (with_reducible refine Kd.C_drew ?_)))
                         (case side2_13 => exact HC260.out)
                         rintro e w' ⟨rfl, ⟨nd, rfl⟩⟩
                         refine ⟨_, rfl, ?_⟩
                         refine hK.out _ _ (((HB.out.cell (World.block_lt_of_cell? w _ hw257_0)).trans hw257_0)) (fun hHeld => ?_)
                         clear hK K
                         refine norm_ (a' := ?_) ?_ ?_
                         rotate_left
                         ·show Act.put _ (some 35) _ = _
                          simp only [Act.put, List.setIfInBounds_toArray, List.set_cons_zero, List.set_cons_succ, i64_w, i32_w]
                          rfl
                         refine one_ (i := 13) (N := some 38) #[true, true, true, true, true, true, true, true, true, true, true, true, true, true, false, true, false] rfl rfl (one_of HT_.out (by kernel_rfl)) (by decide) (fun K hK => ?_)
                         refine goes_ Tryd.func13 (by kernel_rfl) rfl #[.slice A40 ((l0.take 12).drop 10).length (c0 - 10)] (by rfl) rfl rfl (by (try simp only [List.map_toArray, List.map_cons, List.map_nil]); first | done | (rw [show ((l0.take 12).drop 10).length = (12 - 10) from (by rw [List.length_drop, List.length_take]; have h_ : (12 : Int) ≤ (l0.length : Int) := of_decide_eq_true (by first | (with_reducible assumption) | assumption); omega)] <;> rfl) | rfl | (simp only [List.length_drop, List.length_take]; rfl)) ?_
                         with_reducible refine (lessorref03_of.calls kj1 _ _ ((l0.take 12).drop 10) t263 _ ?side1_14 ?side2_14 A18.out).mono ?_
                         (case side1_14 => repeat (first | exact (Kd.C_below HR262.out (by repeat (first | (with_reducible first | exact HB.out | apply below_alloc | apply pw_below_drewN | apply below_drew1 | refine below_set ?_ GE254.out | refine below_set ?_ GE264.out) | exact HB.out))) | (with_reducible refine Kd.C_alloc ?_ _) | (with_reducible refine Kd.C_drewN ?_ _) | (with_reducible refine Kd.C_drew ?_)))
                         (case side2_14 => exact HC262.out)
                         rintro e w' ⟨rfl, ⟨nd, rfl⟩⟩
                         refine ⟨_, rfl, ?_⟩
                         refine hK.out _ _ (((HB.out.cell (World.block_lt_of_cell? w _ hw257_0)).trans hw257_0)) (fun hHeld => ?_)
                         clear hK K
                         refine norm_ (a' := ?_) ?_ ?_
                         rotate_left
                         ·show Act.put _ (some 38) _ = _
                          simp only [Act.put, List.setIfInBounds_toArray, List.set_cons_zero, List.set_cons_succ, i64_w, i32_w]
                          rfl
                         refine pure_ (i := 14) (N := some 39) (v := ?_) (a' := ?_) #[true, true, true, true, true, true, true, true, true, true, true, true, true, true, true, true, false] rfl rfl (any_of HT_.out (by kernel_rfl)) (fun _ _ _ h => h) (Or.inl ⟨by rfl, ?_⟩) ?_ ?_
                         rotate_left
                         ·intro w'
                          go_simp
                          with_reducible rfl
                         rotate_left
                         ·simp only [Act.put, List.setIfInBounds_toArray, List.set_cons_zero, List.set_cons_succ, i64_w, i32_w]
                          rfl
                         exact norm_ (by first | (simp only [putAll, Act.put, List.setIfInBounds_toArray, List.set_cons_zero, List.set_cons_succ]; done) | (simp only [putAll, Act.put, List.setIfInBounds_toArray, List.set_cons_zero, List.set_cons_succ]; rfl)) (hCont (gb264) _ ⟨hHeld, (by (with_reducible repeat (first | refine blk_drewN ?_ _ | refine blk_drew ?_ | refine blk_alloc ?_ _)); exact BK254.out), (by (with_reducible repeat (first | refine blk_drewN ?_ _ | refine blk_drew ?_ | refine blk_alloc ?_ _)); exact BK264.out), GW264.out, GE264.out, NB254_264.out, NB264_254.out, (by repeat (first | (with_reducible first | exact HB.out | apply below_alloc | apply pw_below_drewN | apply below_drew1 | refine below_set ?_ GE254.out | refine below_set ?_ GE264.out) | exact HB.out))⟩)
                       rintro gb264 w42 ⟨hS_, h0_, h1_, h2_, h3_, h4_, h5_, h6_⟩
                       have n0_ : Aside0 (w42.heap[gb254]? = some (.cells #[.int .i64 0, .int .u32 0, .int .i64 0, .int .i64 0, .int .u32 0, .int .u32 0, .int .u32 0, .int .u32 0, .slice none 0 0, .slice none 0 0] 28 (0, 0))) := ⟨h0_⟩
                       have n1_ : Aside0 (w42.heap[gb264]? = some (.cells #[.int .i64 0, .int .u32 0, .int .i64 0, .int .i64 0, .int .u32 0, .int .u32 0, .int .u32 0, .int .u32 0, .slice none 0 0, .slice none 0 0] 28 (0, 0))) := ⟨h1_⟩
                       have n2_ : Aside0 (w.heap.size ≤ gb264) := ⟨h2_⟩
                       have n3_ : Aside0 (w.heap.size ≤ gb264) := ⟨h3_⟩
                       have n4_ : Aside0 (gb254 ≠ gb264) := ⟨h4_⟩
                       have n5_ : Aside0 (gb264 ≠ gb254) := ⟨h5_⟩
                       have n6_ : Aside0 (Below w.heap.size w w42) := ⟨h6_⟩
                       clear BK254
                       clear HB
                       clear h0_ h1_ h2_ h3_ h4_ h5_ h6_
                       have BK254 := n0_
                       have BK264 := n1_
                       have GW264 := n2_
                       have GE264 := n3_
                       have NB254_264 := n4_
                       have NB264_254 := n5_
                       have HB := n6_
                       clear n0_ n1_ n2_ n3_ n4_ n5_ n6_
                       have hHeld : w42.cell? ad257 = some (.int .u8 (rd l0 0)) := hS_
                       refine norm_ (a' := ?_) ?_ ?_
                       rotate_left
                       ·simp only [putAll, Act.put, List.setIfInBounds_toArray, List.set_cons_zero, List.set_cons_succ]
                        rfl
                       refine one_ (i := 16) (N := none) #[true, true, true, true, true, true, true, true, true, true, true, true, true, true, true, true, true] rfl rfl (one_of HT_.out (by kernel_rfl)) (by decide) (fun K hK => ?_)
                       have hs43 : w42.cell? ⟨gb264, 0, none⟩ = some (.int .i64 0) := (blk_cell BK264.out 0).trans rfl
                       have hfs43 := blk_frozen BK264.out 0
                       have hns43_0 := NB254_264.out
                       have hms43_0 := NB264_254.out
                       have hs44 : w42.cell? ⟨gb264, 1, none⟩ = some (.int .u32 0) := (blk_cell BK264.out 1).trans rfl
                       have hfs44 := blk_frozen BK264.out 1
                       have hns44_0 := NB254_264.out
                       have hms44_0 := NB264_254.out
                       have hs45 : w42.cell? ⟨gb264, 2, none⟩ = some (.int .i64 0) := (blk_cell BK264.out 2).trans rfl
                       have hfs45 := blk_frozen BK264.out 2
                       have hns45_0 := NB254_264.out
                       have hms45_0 := NB264_254.out
                       have hs46 : w42.cell? ⟨gb264, 3, none⟩ = some (.int .i64 0) := (blk_cell BK264.out 3).trans rfl
                       have hfs46 := blk_frozen BK264.out 3
                       have hns46_0 := NB254_264.out
                       have hms46_0 := NB264_254.out
                       have hs47 : w42.cell? ⟨gb264, 4, none⟩ = some (.int .u32 0) := (blk_cell BK264.out 4).trans rfl
                       have hfs47 := blk_frozen BK264.out 4
                       have hns47_0 := NB254_264.out
                       have hms47_0 := NB264_254.out
                       have hs48 : w42.cell? ⟨gb264, 5, none⟩ = some (.int .u32 0) := (blk_cell BK264.out 5).trans rfl
                       have hfs48 := blk_frozen BK264.out 5
                       have hns48_0 := NB254_264.out
                       have hms48_0 := NB264_254.out
                       have hs49 : w42.cell? ⟨gb264, 6, none⟩ = some (.int .u32 0) := (blk_cell BK264.out 6).trans rfl
                       have hfs49 := blk_frozen BK264.out 6
                       have hns49_0 := NB254_264.out
                       have hms49_0 := NB264_254.out
                       have hs50 : w42.cell? ⟨gb264, 7, none⟩ = some (.int .u32 0) := (blk_cell BK264.out 7).trans rfl
                       have hfs50 := blk_frozen BK264.out 7
                       have hns50_0 := NB254_264.out
                       have hms50_0 := NB264_254.out
                       have hs51 : w42.cell? ⟨gb264, 8, none⟩ = some (.slice none 0 0) := (blk_cell BK264.out 8).trans rfl
                       have hfs51 := blk_frozen BK264.out 8
                       have hns51_0 := NB254_264.out
                       have hms51_0 := NB264_254.out
                       have hs52 : w42.cell? ⟨gb264, 9, none⟩ = some (.slice none 0 0) := (blk_cell BK264.out 9).trans rfl
                       have hfs52 := blk_frozen BK264.out 9
                       have hns52_0 := NB254_264.out
                       have hms52_0 := NB264_254.out
                       refine skip_ (w1 := ?_) (by rfl) rfl ?_ ?_
                       rotate_left
                       ·go_simp
                        rfl
                       refine hK.out _ _ (((cell_far (p := ⟨gb264, _, none⟩) (by first | exact Nat.ne_of_lt (Nat.lt_of_lt_of_le (by have := World.block_lt_of_cell? _ _ hw257_0; first | rwa [add_block] at this | exact this) GW264.out) | (rw [add_block]; exact Nat.ne_of_lt (Nat.lt_of_lt_of_le (by have := World.block_lt_of_cell? _ _ hw257_0; first | rwa [add_block] at this | exact this) GW264.out)) | (show (Addr.add _ _).block ≠ _; rw [add_block]; exact Nat.ne_of_lt (Nat.lt_of_lt_of_le (by have := World.block_lt_of_cell? _ _ hw257_0; first | rwa [add_block] at this | exact this) GW264.out)) | (dsimp only; exact Nat.ne_of_lt (Nat.lt_of_lt_of_le (by have := World.block_lt_of_cell? _ _ hw257_0; first | rwa [add_block] at this | exact this) GW264.out))) _).trans (((cell_far (p := ⟨gb264, _, none⟩) (by first | exact Nat.ne_of_lt (Nat.lt_of_lt_of_le (by have := World.block_lt_of_cell? _ _ hw257_0; first | rwa [add_block] at this | exact this) GW264.out) | (rw [add_block]; exact Nat.ne_of_lt (Nat.lt_of_lt_of_le (by have := World.block_lt_of_cell? _ _ hw257_0; first | rwa [add_block] at this | exact this) GW264.out)) | (show (Addr.add _ _).block ≠ _; rw [add_block]; exact Nat.ne_of_lt (Nat.lt_of_lt_of_le (by have := World.block_lt_of_cell? _ _ hw257_0; first | rwa [add_block] at this | exact this) GW264.out)) | (dsimp only; exact Nat.ne_of_lt (Nat.lt_of_lt_of_le (by have := World.block_lt_of_cell? _ _ hw257_0; first | rwa [add_block] at this | exact this) GW264.out))) _).trans (((cell_far (p := ⟨gb264, _, none⟩) (by first | exact Nat.ne_of_lt (Nat.lt_of_lt_of_le (by have := World.block_lt_of_cell? _ _ hw257_0; first | rwa [add_block] at this | exact this) GW264.out) | (rw [add_block]; exact Nat.ne_of_lt (Nat.lt_of_lt_of_le (by have := World.block_lt_of_cell? _ _ hw257_0; first | rwa [add_block] at this | exact this) GW264.out)) | (show (Addr.add _ _).block ≠ _; rw [add_block]; exact Nat.ne_of_lt (Nat.lt_of_lt_of_le (by have := World.block_lt_of_cell? _ _ hw257_0; first | rwa [add_block] at this | exact this) GW264.out)) | (dsimp only; exact Nat.ne_of_lt (Nat.lt_of_lt_of_le (by have := World.block_lt_of_cell? _ _ hw257_0; first | rwa [add_block] at this | exact this) GW264.out))) _).trans (((cell_far (p := ⟨gb264, _, none⟩) (by first | exact Nat.ne_of_lt (Nat.lt_of_lt_of_le (by have := World.block_lt_of_cell? _ _ hw257_0; first | rwa [add_block] at this | exact this) GW264.out) | (rw [add_block]; exact Nat.ne_of_lt (Nat.lt_of_lt_of_le (by have := World.block_lt_of_cell? _ _ hw257_0; first | rwa [add_block] at this | exact this) GW264.out)) | (show (Addr.add _ _).block ≠ _; rw [add_block]; exact Nat.ne_of_lt (Nat.lt_of_lt_of_le (by have := World.block_lt_of_cell? _ _ hw257_0; first | rwa [add_block] at this | exact this) GW264.out)) | (dsimp only; exact Nat.ne_of_lt (Nat.lt_of_lt_of_le (by have := World.block_lt_of_cell? _ _ hw257_0; first | rwa [add_block] at this | exact this) GW264.out))) _).trans (((cell_far (p := ⟨gb264, _, none⟩) (by first | exact Nat.ne_of_lt (Nat.lt_of_lt_of_le (by have := World.block_lt_of_cell? _ _ hw257_0; first | rwa [add_block] at this | exact this) GW264.out) | (rw [add_block]; exact Nat.ne_of_lt (Nat.lt_of_lt_of_le (by have := World.block_lt_of_cell? _ _ hw257_0; first | rwa [add_block] at this | exact this) GW264.out)) | (show (Addr.add _ _).block ≠ _; rw [add_block]; exact Nat.ne_of_lt (Nat.lt_of_lt_of_le (by have := World.block_lt_of_cell? _ _ hw257_0; first | rwa [add_block] at this | exact this) GW264.out)) | (dsimp only; exact Nat.ne_of_lt (Nat.lt_of_lt_of_le (by have := World.block_lt_of_cell? _ _ hw257_0; first | rwa [add_block] at this | exact this) GW264.out))) _).trans (((cell_far (p := ⟨gb264, _, none⟩) (by first | exact Nat.ne_of_lt (Nat.lt_of_lt_of_le (by have := World.block_lt_of_cell? _ _ hw257_0; first | rwa [add_block] at this | exact this) GW264.out) | (rw [add_block]; exact Nat.ne_of_lt (Nat.lt_of_lt_of_le (by have := World.block_lt_of_cell? _ _ hw257_0; first | rwa [add_block] at this | exact this) GW264.out)) | (show (Addr.add _ _).block ≠ _; rw [add_block]; exact Nat.ne_of_lt (Nat.lt_of_lt_of_le (by have := World.block_lt_of_cell? _ _ hw257_0; first | rwa [add_block] at this | exact this) GW264.out)) | (dsimp only; exact Nat.ne_of_lt (Nat.lt_of_lt_of_le (by have := World.block_lt_of_cell? _ _ hw257_0; first | rwa [add_block] at this | exact this) GW264.out))) _).trans (((cell_far (p := ⟨gb264, _, none⟩) (by first | exact Nat.ne_of_lt (Nat.lt_of_lt_of_le (by have := World.block_lt_of_cell? _ _ hw257_0; first | rwa [add_block] at this | exact this) GW264.out) | (rw [add_block]; exact Nat.ne_of_lt (Nat.lt_of_lt_of_le (by have := World.block_lt_of_cell? _ _ hw257_0; first | rwa [add_block] at this | exact this) GW264.out)) | (show (Addr.add _ _).block ≠ _; rw [add_block]; exact Nat.ne_of_lt (Nat.lt_of_lt_of_le (by have := World.block_lt_of_cell? _ _ hw257_0; first | rwa [add_block] at this | exact this) GW264.out)) | (dsimp only; exact Nat.ne_of_lt (Nat.lt_of_lt_of_le (by have := World.block_lt_of_cell? _ _ hw257_0; first | rwa [add_block] at this | exact this) GW264.out))) _).trans (((cell_far (p := ⟨gb264, _, none⟩) (by first | exact Nat.ne_of_lt (Nat.lt_of_lt_of_le (by have := World.block_lt_of_cell? _ _ hw257_0; first | rwa [add_block] at this | exact this) GW264.out) | (rw [add_block]; exact Nat.ne_of_lt (Nat.lt_of_lt_of_le (by have := World.block_lt_of_cell? _ _ hw257_0; first | rwa [add_block] at this | exact this) GW264.out)) | (show (Addr.add _ _).block ≠ _; rw [add_block]; exact Nat.ne_of_lt (Nat.lt_of_lt_of_le (by have := World.block_lt_of_cell? _ _ hw257_0; first | rwa [add_block] at this | exact this) GW264.out)) | (dsimp only; exact Nat.ne_of_lt (Nat.lt_of_lt_of_le (by have := World.block_lt_of_cell? _ _ hw257_0; first | rwa [add_block] at this | exact this) GW264.out))) _).trans (((cell_far (p := ⟨gb264, _, none⟩) (by first | exact Nat.ne_of_lt (Nat.lt_of_lt_of_le (by have := World.block_lt_of_cell? _ _ hw257_0; first | rwa [add_block] at this | exact this) GW264.out) | (rw [add_block]; exact Nat.ne_of_lt (Nat.lt_of_lt_of_le (by have := World.block_lt_of_cell? _ _ hw257_0; first | rwa [add_block] at this | exact this) GW264.out)) | (show (Addr.add _ _).block ≠ _; rw [add_block]; exact Nat.ne_of_lt (Nat.lt_of_lt_of_le (by have := World.block_lt_of_cell? _ _ hw257_0; first | rwa [add_block] at this | exact this) GW264.out)) | (dsimp only; exact Nat.ne_of_lt (Nat.lt_of_lt_of_le (by have := World.block_lt_of_cell? _ _ hw257_0; first | rwa [add_block] at this | exact this) GW264.out))) _).trans (((cell_far (p := ⟨gb264, _, none⟩) (by first | exact Nat.ne_of_lt (Nat.lt_of_lt_of_le (by have := World.block_lt_of_cell? _ _ hw257_0; first | rwa [add_block] at this | exact this) GW264.out) | (rw [add_block]; exact Nat.ne_of_lt (Nat.lt_of_lt_of_le (by have := World.block_lt_of_cell? _ _ hw257_0; first | rwa [add_block] at this | exact this) GW264.out)) | (show (Addr.add _ _).block ≠ _; rw [add_block]; exact Nat.ne_of_lt (Nat.lt_of_lt_of_le (by have := World.block_lt_of_cell? _ _ hw257_0; first | rwa [add_block] at this | exact this) GW264.out)) | (dsimp only; exact Nat.ne_of_lt (Nat.lt_of_lt_of_le (by have := World.block_lt_of_cell? _ _ hw257_0; first | rwa [add_block] at this | exact this) GW264.out))) _).trans (hHeld))))))))))))))))))))) (fun hHeld => ?_)
                       clear hK K
                       refine done_ (done_of HT_.out (by kernel_rfl)) ?_
                       obtain ⟨i053, hi053, _, hsz53, _⟩ := info_parts info5
                       obtain ⟨A53, hcut53, hA53, hC53⟩ := print_mid_of (P := Tryd.prog) (Value.int .u8) 0 22 5 .i64 .i64 Tryd.underlying22 hi053 hsz53 (some ad257) c0 l0 12 16 (by omega) (by first | omega | exact of_decide_eq_true (by first | (with_reducible assumption) | assumption)) (of_decide_eq_true (by first | (with_reducible assumption) | assumption)) HC0.out
                       have HR265 := Aside0.mk (Kd.C_of_reads (h1 := fun _ => rfl) (hA53 _ (Kd.reads_of_C HR0.out)))
                       have HC265 := Aside0.mk hC53
                       clear hA53 hC53 hi053 hsz53
                       go_upto_region 10 with (first | ((with_reducible refine gate_callee (f := 13) rfl ?_); refine goesL_ (some 42) rfl rfl Tryd.func13 (by kernel_rfl) rfl #[.slice A53 ((l0.take 16).drop 12).length (c0 - 12)] rfl (by (try simp only [List.map_toArray, List.map_cons, List.map_nil]); first | done | (rw [show ((l0.take 16).drop 12).length = (16 - 12) from (by rw [List.length_drop, List.length_take]; have h_ : (16 : Int) ≤ (l0.length : Int) := of_decide_eq_true (by first | (with_reducible assumption) | assumption); omega)] <;> rfl) | rfl | (simp only [List.length_drop, List.length_take]; rfl)) ?_; (with_reducible refine (lessorref03_of.calls kj1 _ _ ((l0.take 16).drop 12) t266 _ ?side1_15 ?side2_15 A21.out).mono ?_); (case side1_15 => exact Kd.C_below HR265.out (by repeat (first | (with_reducible first | exact HB.out | apply below_alloc | apply pw_below_drewN | apply below_drew1 | refine below_set ?_ GE254.out | refine below_set ?_ GE264.out) | exact HB.out))); (case side2_15 => exact HC265.out); rintro e w' ⟨rfl, ⟨nd, rfl⟩⟩; refine ⟨_, rfl, ?_⟩; have hnb54 := NB264_254.out; have hnc54 := NB254_264.out; have hcz55_0 : w42.cell? ⟨gb264, 0, none⟩ = some (.int .i64 0) := (blk_cell BK264.out 0).trans rfl; have hcz55_1 : w42.cell? ⟨gb264, 1, none⟩ = some (.int .u32 0) := (blk_cell BK264.out 1).trans rfl; have hcz55_2 : w42.cell? ⟨gb264, 2, none⟩ = some (.int .i64 0) := (blk_cell BK264.out 2).trans rfl; have hcz55_3 : w42.cell? ⟨gb264, 3, none⟩ = some (.int .i64 0) := (blk_cell BK264.out 3).trans rfl; have hcz55_4 : w42.cell? ⟨gb264, 4, none⟩ = some (.int .u32 0) := (blk_cell BK264.out 4).trans rfl; have hcz55_5 : w42.cell? ⟨gb264, 5, none⟩ = some (.int .u32 0) := (blk_cell BK264.out 5).trans rfl; have hcz55_6 : w42.cell? ⟨gb264, 6, none⟩ = some (.int .u32 0) := (blk_cell BK264.out 6).trans rfl; have hcz55_7 : w42.cell? ⟨gb264, 7, none⟩ = some (.int .u32 0) := (blk_cell BK264.out 7).trans rfl; have hcz55_8 : w42.cell? ⟨gb264, 8, none⟩ = some (.slice none 0 0) := (blk_cell BK264.out 8).trans rfl; have hcz55_9 : w42.cell? ⟨gb264, 9, none⟩ = some (.slice none 0 0) := (blk_cell BK264.out 9).trans rfl; have hfz55_0 := blk_frozen BK264.out 0; have hfz55_1 := blk_frozen BK264.out 1; have hfz55_2 := blk_frozen BK264.out 2; have hfz55_3 := blk_frozen BK264.out 3; have hfz55_4 := blk_frozen BK264.out 4; have hfz55_5 := blk_frozen BK264.out 5; have hfz55_6 := blk_frozen BK264.out 6; have hfz55_7 := blk_frozen BK264.out 7; have hfz55_8 := blk_frozen BK264.out 8; have hfz55_9 := blk_frozen BK264.out 9; obtain ⟨i056, hi056, _, hsz56, _⟩ := info_parts info5; obtain ⟨A56, hcut56, hA56, hC56⟩ := print_mid_of (P := Tryd.prog) (Value.int .u8) 0 22 5 .i64 .i64 Tryd.underlying22 hi056 hsz56 (some ad257) c0 l0 16 20 (by omega) (by first | omega | exact of_decide_eq_true (by first | (with_reducible assumption) | assumption)) (of_decide_eq_true (by first | (with_reducible assumption) | assumption)) HC0.out; have HR267 := Aside0.mk (Kd.C_of_reads (h1 := fun _ => rfl) (hA56 _ (Kd.reads_of_C HR0.out))); have HC267 := Aside0.mk hC56; clear hA56 hC56 hi056 hsz56) | ((with_reducible refine gate_callee (f := 13) rfl ?_); refine goesL_ (some 47) rfl rfl Tryd.func13 (by kernel_rfl) rfl #[.slice A56 ((l0.take 20).drop 16).length (c0 - 16)] rfl (by (try simp only [List.map_toArray, List.map_cons, List.map_nil]); first | done | (rw [show ((l0.take 20).drop 16).length = (20 - 16) from (by rw [List.length_drop, List.length_take]; have h_ : (20 : Int) ≤ (l0.length : Int) := of_decide_eq_true (by first | (with_reducible assumption) | assumption); omega)] <;> rfl) | rfl | (simp only [List.length_drop, List.length_take]; rfl)) ?_; (with_reducible refine (lessorref03_of.calls kj1 _ _ ((l0.take 20).drop 16) t268 _ ?side1_16 ?side2_16 A24.out).mono ?_); (case side1_16 => exact Kd.C_below HR267.out (by repeat (first | (with_reducible first | exact HB.out | apply below_alloc | apply pw_below_drewN | apply below_drew1 | refine below_set ?_ GE254.out | refine below_set ?_ GE264.out) | exact HB.out))); (case side2_16 => exact HC267.out); rintro e w' ⟨rfl, ⟨nd, rfl⟩⟩; refine ⟨_, rfl, ?_⟩; obtain ⟨i057, hi057, _, hsz57, _⟩ := info_parts info5; obtain ⟨A57, hcut57, hA57, hC57⟩ := print_mid_of (P := Tryd.prog) (Value.int .u8) 0 22 5 .i64 .i64 Tryd.underlying22 hi057 hsz57 (some ad257) c0 l0 20 24 (by omega) (by first | omega | exact of_decide_eq_true (by first | (with_reducible assumption) | assumption)) (of_decide_eq_true (by first | (with_reducible assumption) | assumption)) HC0.out; have HR269 := Aside0.mk (Kd.C_of_reads (h1 := fun _ => rfl) (hA57 _ (Kd.reads_of_C HR0.out))); have HC269 := Aside0.mk hC57; clear hA57 hC57 hi057 hsz57) | ((with_reducible refine gate_callee (f := 13) rfl ?_); refine goesL_ (some 52) rfl rfl Tryd.func13 (by kernel_rfl) rfl #[.slice A57 ((l0.take 24).drop 20).length (c0 - 20)] rfl (by (try simp only [List.map_toArray, List.map_cons, List.map_nil]); first | done | (rw [show ((l0.take 24).drop 20).length = (24 - 20) from (by rw [List.length_drop, List.length_take]; have h_ : (24 : Int) ≤ (l0.length : Int) := of_decide_eq_true (by first | (with_reducible assumption) | assumption); omega)] <;> rfl) | rfl | (simp only [List.length_drop, List.length_take]; rfl)) ?_; (with_reducible refine (lessorref03_of.calls kj1 _ _ ((l0.take 24).drop 20) t270 _ ?side1_17 ?side2_17 A27.out).mono ?_); (case side1_17 => exact Kd.C_below HR269.out (by repeat (first | (with_reducible first | exact HB.out | apply below_alloc | apply pw_below_drewN | apply below_drew1 | refine below_set ?_ GE254.out | refine below_set ?_ GE264.out) | exact HB.out))); (case side2_17 => exact HC269.out); rintro e w' ⟨rfl, ⟨nd, rfl⟩⟩; refine ⟨_, rfl, ?_⟩; obtain ⟨i058, hi058, _, hsz58, _⟩ := info_parts info5; obtain ⟨A58, hcut58, hA58, hC58⟩ := print_mid_of (P := Tryd.prog) (Value.int .u8) 0 22 5 .i64 .i64 Tryd.underlying22 hi058 hsz58 (some ad257) c0 l0 24 28 (by omega) (by first | omega | exact of_decide_eq_true (by first | (with_reducible assumption) | assumption)) (of_decide_eq_true (by first | (with_reducible assumption) | assumption)) HC0.out; have HR271 := Aside0.mk (Kd.C_of_reads (h1 := fun _ => rfl) (hA58 _ (Kd.reads_of_C HR0.out))); have HC271 := Aside0.mk hC58; clear hA58 hC58 hi058 hsz58) | ((with_reducible refine gate_callee (f := 13) rfl ?_); refine goesL_ (some 57) rfl rfl Tryd.func13 (by kernel_rfl) rfl #[.slice A58 ((l0.take 28).drop 24).length (c0 - 24)] rfl (by (try simp only [List.map_toArray, List.map_cons, List.map_nil]); first | done | (rw [show ((l0.take 28).drop 24).length = (28 - 24) from (by rw [List.length_drop, List.length_take]; have h_ : (28 : Int) ≤ (l0.length : Int) := of_decide_eq_true (by first | (with_reducible assumption) | assumption); omega)] <;> rfl) | rfl | (simp only [List.length_drop, List.length_take]; rfl)) ?_; (with_reducible refine (lessorref03_of.calls kj1 _ _ ((l0.take 28).drop 24) t272 _ ?side1_18 ?side2_18 A30.out).mono ?_); (case side1_18 => exact Kd.C_below HR271.out (by repeat (first | (with_reducible first | exact HB.out | apply below_alloc | apply pw_below_drewN | apply below_drew1 | refine below_set ?_ GE254.out | refine below_set ?_ GE264.out) | exact HB.out))); (case side2_18 => exact HC271.out); rintro e w' ⟨rfl, ⟨nd, rfl⟩⟩; refine ⟨_, rfl, ?_⟩) | ((with_reducible refine gate_dst (N := 60) rfl ?_); refine Kd.R_lit (Kd.int .u8) _ 5 ?hg_19 (N := 60) ?hd_19 (xs := ([] : List Int)) (inner := []) (ok := fun _ => True) (okp := fun _ => True) ?hr_19 ?hp_19 (fun _ hk => hk) trivial (Below.refl _ _) (Nat.le_refl _) (by simp) ?_; (case hd_19 => rfl); (case hg_19 => rfl); (case hr_19 => first | (go_simp; done) | (go_simp; rfl)); (case hp_19 => exact (Reps.none _ _)); intro v274 w59 ho60 hb hg_ hnew_; clear hg_ hnew_; (first | rw [← Ny273.out] at ho60 | (simp only [Int.reduceToNat] at ho60; rw [← Ny273.out] at ho60)); have n0_ := Aside0.mk (Kd.R_lower ho60 (below_size (by repeat (first | (with_reducible first | exact HB.out | apply below_alloc | apply pw_below_drewN | apply below_drew1 | refine below_set ?_ GE254.out | refine below_set ?_ GE264.out) | exact HB.out)))); have n1_ := Aside0.mk (blk_below (g := gb254) (o := .cells #[.int .i64 0, .int .u32 0, .int .i64 0, .int .i64 0, .int .u32 0, .int .u32 0, .int .u32 0, .int .u32 0, .slice none 0 0, .slice none 0 0] 28 (0, 0)) (by (with_reducible repeat (first | refine blk_drewN ?_ _ | refine blk_drew ?_ | refine blk_alloc ?_ _)); refine blk_far ?_ NB254_264.out _; (with_reducible repeat (first | refine blk_drewN ?_ _ | refine blk_drew ?_ | refine blk_alloc ?_ _)); refine blk_far ?_ NB254_264.out _; (with_reducible repeat (first | refine blk_drewN ?_ _ | refine blk_drew ?_ | refine blk_alloc ?_ _)); refine blk_far ?_ NB254_264.out _; (with_reducible repeat (first | refine blk_drewN ?_ _ | refine blk_drew ?_ | refine blk_alloc ?_ _)); refine blk_far ?_ NB254_264.out _; (with_reducible repeat (first | refine blk_drewN ?_ _ | refine blk_drew ?_ | refine blk_alloc ?_ _)); refine blk_far ?_ NB254_264.out _; (with_reducible repeat (first | refine blk_drewN ?_ _ | refine blk_drew ?_ | refine blk_alloc ?_ _)); refine blk_far ?_ NB254_264.out _; (with_reducible repeat (first | refine blk_drewN ?_ _ | refine blk_drew ?_ | refine blk_alloc ?_ _)); refine blk_far ?_ NB254_264.out _; (with_reducible repeat (first | refine blk_drewN ?_ _ | refine blk_drew ?_ | refine blk_alloc ?_ _)); refine blk_far ?_ NB254_264.out _; (with_reducible repeat (first | refine blk_drewN ?_ _ | refine blk_drew ?_ | refine blk_alloc ?_ _)); refine blk_far ?_ NB254_264.out _; (with_reducible repeat (first | refine blk_drewN ?_ _ | refine blk_drew ?_ | refine blk_alloc ?_ _)); refine blk_far ?_ NB254_264.out _; (with_reducible repeat (first | refine blk_drewN ?_ _ | refine blk_drew ?_ | refine blk_alloc ?_ _)); refine blk_far ?_ NB254_264.out _; (with_reducible repeat (first | refine blk_drewN ?_ _ | refine blk_drew ?_ | refine blk_alloc ?_ _)); refine blk_far ?_ NB254_264.out _; (with_reducible repeat (first | refine blk_drewN ?_ _ | refine blk_drew ?_ | refine blk_alloc ?_ _)); refine blk_far ?_ NB254_264.out _; (with_reducible repeat (first | refine blk_drewN ?_ _ | refine blk_drew ?_ | refine blk_alloc ?_ _)); refine blk_far ?_ NB254_264.out _; (with_reducible repeat (first | refine blk_drewN ?_ _ | refine blk_drew ?_ | refine blk_alloc ?_ _)); exact BK254.out) hb); have n2_ := Aside0.mk (blk_below (g := gb264) (o := .cells #[.int .i64 (wrap64 (rd l0 0)), .int .u32 ((t259) % 4294967296), .int .i64 t261, .int .i64 t263, .int .u32 ((t266) % 4294967296), .int .u32 ((t268) % 4294967296), .int .u32 ((t270) % 4294967296), .int .u32 ((t272) % 4294967296), .slice none 0 0, .slice none 0 0] 28 (0, 0)) (by (with_reducible repeat (first | refine blk_drewN ?_ _ | refine blk_drew ?_ | refine blk_alloc ?_ _)); refine blk_put (cs := #[.int .i64 (wrap64 (rd l0 0)), .int .u32 ((t259) % 4294967296), .int .i64 t261, .int .i64 t263, .int .u32 ((t266) % 4294967296), .int .u32 ((t268) % 4294967296), .int .u32 ((t270) % 4294967296), .int .u32 0, .slice none 0 0, .slice none 0 0]) ?_ 7 _ rfl; (with_reducible repeat (first | refine blk_drewN ?_ _ | refine blk_drew ?_ | refine blk_alloc ?_ _)); refine blk_put (cs := #[.int .i64 (wrap64 (rd l0 0)), .int .u32 ((t259) % 4294967296), .int .i64 t261, .int .i64 t263, .int .u32 ((t266) % 4294967296), .int .u32 ((t268) % 4294967296), .int .u32 0, .int .u32 0, .slice none 0 0, .slice none 0 0]) ?_ 6 _ rfl; (with_reducible repeat (first | refine blk_drewN ?_ _ | refine blk_drew ?_ | refine blk_alloc ?_ _)); refine blk_put (cs := #[.int .i64 (wrap64 (rd l0 0)), .int .u32 ((t259) % 4294967296), .int .i64 t261, .int .i64 t263, .int .u32 ((t266) % 4294967296), .int .u32 0, .int .u32 0, .int .u32 0, .slice none 0 0, .slice none 0 0]) ?_ 5 _ rfl; (with_reducible repeat (first | refine blk_drewN ?_ _ | refine blk_drew ?_ | refine blk_alloc ?_ _)); refine blk_put (cs := #[.int .i64 (wrap64 (rd l0 0)), .int .u32 ((t259) % 4294967296), .int .i64 t261, .int .i64 t263, .int .u32 0, .int .u32 0, .int .u32 0, .int .u32 0, .slice none 0 0, .slice none 0 0]) ?_ 4 _ rfl; (with_reducible repeat (first | refine blk_drewN ?_ _ | refine blk_drew ?_ | refine blk_alloc ?_ _)); refine blk_put (cs := #[.int .i64 (wrap64 (rd l0 0)), .int .u32 ((t259) % 4294967296), .int .i64 t261, .int .i64 t263, .int .u32 0, .int .u32 0, .int .u32 0, .int .u32 0, .slice none 0 0, .slice none 0 0]) ?_ 9 _ rfl; (with_reducible repeat (first | refine blk_drewN ?_ _ | refine blk_drew ?_ | refine blk_alloc ?_ _)); refine blk_put (cs := #[.int .i64 (wrap64 (rd l0 0)), .int .u32 ((t259) % 4294967296), .int .i64 t261, .int .i64 t263, .int .u32 0, .int .u32 0, .int .u32 0, .int .u32 0, .slice none 0 0, .slice none 0 0]) ?_ 8 _ rfl; (with_reducible repeat (first | refine blk_drewN ?_ _ | refine blk_drew ?_ | refine blk_alloc ?_ _)); refine blk_put (cs := #[.int .i64 (wrap64 (rd l0 0)), .int .u32 ((t259) % 4294967296), .int .i64 t261, .int .i64 t263, .int .u32 0, .int .u32 0, .int .u32 0, .int .u32 0, .slice none 0 0, .slice none 0 0]) ?_ 7 _ rfl; (with_reducible repeat (first | refine blk_drewN ?_ _ | refine blk_drew ?_ | refine blk_alloc ?_ _)); refine blk_put (cs := #[.int .i64 (wrap64 (rd l0 0)), .int .u32 ((t259) % 4294967296), .int .i64 t261, .int .i64 t263, .int .u32 0, .int .u32 0, .int .u32 0, .int .u32 0, .slice none 0 0, .slice none 0 0]) ?_ 6 _ rfl; (with_reducible repeat (first | refine blk_drewN ?_ _ | refine blk_drew ?_ | refine blk_alloc ?_ _)); refine blk_put (cs := #[.int .i64 (wrap64 (rd l0 0)), .int .u32 ((t259) % 4294967296), .int .i64 t261, .int .i64 t263, .int .u32 0, .int .u32 0, .int .u32 0, .int .u32 0, .slice none 0 0, .slice none 0 0]) ?_ 5 _ rfl; (with_reducible repeat (first | refine blk_drewN ?_ _ | refine blk_drew ?_ | refine blk_alloc ?_ _)); refine blk_put (cs := #[.int .i64 (wrap64 (rd l0 0)), .int .u32 ((t259) % 4294967296), .int .i64 t261, .int .i64 t263, .int .u32 0, .int .u32 0, .int .u32 0, .int .u32 0, .slice none 0 0, .slice none 0 0]) ?_ 4 _ rfl; (with_reducible repeat (first | refine blk_drewN ?_ _ | refine blk_drew ?_ | refine blk_alloc ?_ _)); refine blk_put (cs := #[.int .i64 (wrap64 (rd l0 0)), .int .u32 ((t259) % 4294967296), .int .i64 t261, .int .i64 0, .int .u32 0, .int .u32 0, .int .u32 0, .int .u32 0, .slice none 0 0, .slice none 0 0]) ?_ 3 _ rfl; (with_reducible repeat (first | refine blk_drewN ?_ _ | refine blk_drew ?_ | refine blk_alloc ?_ _)); refine blk_put (cs := #[.int .i64 (wrap64 (rd l0 0)), .int .u32 ((t259) % 4294967296), .int .i64 0, .int .i64 0, .int .u32 0, .int .u32 0, .int .u32 0, .int .u32 0, .slice none 0 0, .slice none 0 0]) ?_ 2 _ rfl; (with_reducible repeat (first | refine blk_drewN ?_ _ | refine blk_drew ?_ | refine blk_alloc ?_ _)); refine blk_put (cs := #[.int .i64 (wrap64 (rd l0 0)), .int .u32 0, .int .i64 0, .int .i64 0, .int .u32 0, .int .u32 0, .int .u32 0, .int .u32 0, .slice none 0 0, .slice none 0 0]) ?_ 1 _ rfl; (with_reducible repeat (first | refine blk_drewN ?_ _ | refine blk_drew ?_ | refine blk_alloc ?_ _)); refine blk_put (cs := #[.int .i64 0, .int .u32 0, .int .i64 0, .int .i64 0, .int .u32 0, .int .u32 0, .int .u32 0, .int .u32 0, .slice none 0 0, .slice none 0 0]) ?_ 0 _ rfl; (with_reducible repeat (first | refine blk_drewN ?_ _ | refine blk_drew ?_ | refine blk_alloc ?_ _)); exact BK264.out) hb); have n3_ := Aside0.mk (below_step (by repeat (first | (with_reducible first | exact HB.out | apply below_alloc | apply pw_below_drewN | apply below_drew1 | refine below_set ?_ GE254.out | refine below_set ?_ GE264.out) | exact HB.out)) hb); clear BK254; clear BK264; clear HB; have HO275 := n0_; have BK254 := n1_; have BK264 := n2_; have HB := n3_; clear n0_ n1_ n2_ n3_; clear hb ho60; have p276 : 0 ≤ (2 : Int) := (by omega); have q276 : 2 < (l0.length : Int) := of_decide_eq_true (by first | (with_reducible assumption) | assumption); obtain ⟨ad276, e276, hx276_0⟩ := Kd.at_int HR0.out 2 p276 q276; obtain rfl : ad257 = ad276 := (by injection e276); (try simp only [show (2 : Int).toNat = 2 from rfl, Nat.reduceMul, Nat.reduceEqDiff, Go.Addr.add, ↓reduceIte] at hx276_0); have qi276 : (2 < l0.length) = True := eq_true (by omega); (try rw [show ((2 : Int)).toNat = 2 from rfl] at hx276_0); replace hx276_0 := (HB.out.cell (World.block_lt_of_cell? w _ hx276_0)).trans hx276_0; replace p276 := eq_true p276; replace q276 := eq_true q276; obtain ⟨i061, hi061, _, hsz61, _⟩ := info_parts info5; obtain ⟨A61, hcut61, hA61, hC61⟩ := print_mid_of (P := Tryd.prog) (Value.int .u8) 0 22 5 .i64 .i64 Tryd.underlying22 hi061 hsz61 (some ad257) c0 l0 28 (wrap64 (28 + (wrap64 (rd l0 2)))) (by omega) (by first | omega | exact of_decide_eq_true (by first | (with_reducible assumption) | assumption)) (of_decide_eq_true (by first | (with_reducible assumption) | assumption)) HC0.out; have HR277 := Aside0.mk (Kd.C_of_reads (h1 := fun _ => rfl) (hA61 _ (Kd.reads_of_C HR0.out))); have HC277 := Aside0.mk hC61; clear hA61 hC61 hi061 hsz61) | ((with_reducible refine gate_builtin (b := .append) (xs := #[.tmp 60, .tmp 67]) rfl ?_); at_builtin; refine Kd.R_append_rows (Kd.int .u8) (w0 := w) w.heap.size rfl (.tmp 60) (.tmp 67) 22 5 (.int .u8 0) 1 rfl Tryd.underlying22 info5 rfl (by decide) (by omega) v274 y273 ((l0.take ((wrap64 (28 + (wrap64 (rd l0 2)))) : Int).toNat).drop 28) _ _ _ (fun _ => True) (fun _ => False) rfl rfl ?aO_20 ?aR_20 (fun _ _ h => h) (fun _ h => h.elim) ?aF_20 ?aB_20 ?aS_20 ?aL_20 ?_; (case aR_20 => first | (rw [← show ((l0.take ((wrap64 (28 + (wrap64 (rd l0 2)))) : Int).toNat).drop 28).length = ((wrap64 (28 + (wrap64 (rd l0 2)))).toNat - 28) from (by rw [List.length_drop, List.length_take]; have h_ : ((wrap64 (28 + (wrap64 (rd l0 2)))) : Int) ≤ (l0.length : Int) := of_decide_eq_true (by first | (with_reducible assumption) | assumption); omega)]; repeat (first | exact (Kd.C_below HR277.out HB.out) | exact (Kd.C_below (Aside0.out (by assumption)) HB.out) | (with_reducible refine Kd.C_alloc ?_ _) | (with_reducible refine Kd.C_drewN ?_ _) | (with_reducible refine Kd.C_drew ?_))) | (repeat (first | exact (Kd.C_below HR277.out HB.out) | exact (Kd.C_below (Aside0.out (by assumption)) HB.out) | (with_reducible refine Kd.C_alloc ?_ _) | (with_reducible refine Kd.C_drewN ?_ _) | (with_reducible refine Kd.C_drew ?_)))); (case aB_20 => exact (by repeat (first | (with_reducible first | exact HB.out | apply below_alloc | apply pw_below_drewN | apply below_drew1 | refine below_set ?_ GE254.out | refine below_set ?_ GE264.out) | exact HB.out))); (case aF_20 => exact (fun _ _ => trivial)); (case aO_20 => exact (by (with_reducible repeat (first | apply Kd.R_alloc | apply Kd.R_drewN | apply Kd.R_drew)); exact HO275.out)); (case aS_20 => exact (below_size (by repeat (first | (with_reducible first | exact HB.out | apply below_alloc | apply pw_below_drewN | apply below_drew1 | refine below_set ?_ GE254.out | refine below_set ?_ GE264.out) | exact HB.out)))); (case aL_20 => have := LMc34.out; have hlx_ := (show ((l0.take ((wrap64 (28 + (wrap64 (rd l0 2)))) : Int).toNat).drop 28).length = ((wrap64 (28 + (wrap64 (rd l0 2)))).toNat - 28) from (by rw [List.length_drop, List.length_take]; have h_ : ((wrap64 (28 + (wrap64 (rd l0 2)))) : Int) ≤ (l0.length : Int) := of_decide_eq_true (by first | (with_reducible assumption) | assumption); omega)); omega); intro v279 w62 ho hb hg hat; rw [← Ny278.out] at ho; have n0_ := Aside0.mk (blk_grown (g := gb254) (o := .cells #[.int .i64 0, .int .u32 0, .int .i64 0, .int .i64 0, .int .u32 0, .int .u32 0, .int .u32 0, .int .u32 0, .slice none 0 0, .slice none 0 0] 28 (0, 0)) (by (with_reducible repeat (first | refine blk_drewN ?_ _ | refine blk_drew ?_ | refine blk_alloc ?_ _)); exact BK254.out) hg (Kd.R_ne HO275.out BK254.out (by decide))); have n1_ := Aside0.mk (blk_grown (g := gb264) (o := .cells #[.int .i64 (wrap64 (rd l0 0)), .int .u32 ((t259) % 4294967296), .int .i64 t261, .int .i64 t263, .int .u32 ((t266) % 4294967296), .int .u32 ((t268) % 4294967296), .int .u32 ((t270) % 4294967296), .int .u32 ((t272) % 4294967296), .slice none 0 0, .slice none 0 0] 28 (0, 0)) (by (with_reducible repeat (first | refine blk_drewN ?_ _ | refine blk_drew ?_ | refine blk_alloc ?_ _)); exact BK264.out) hg (Kd.R_ne HO275.out BK264.out (by decide))); have n2_ := Aside0.mk (hb); have n3_ := Aside0.mk (ho); clear BK254; clear BK264; clear HB; clear HO275; have BK254 := n0_; have BK264 := n1_; have HB := n2_; have HO280 := n3_; clear n0_ n1_ n2_ n3_; clear ho hb hg hat; obtain ⟨Ao63, co63, eo63⟩ := Kd.R_slice HO280.out; subst eo63; have hcz64_0 : w62.cell? ⟨gb264, 0, none⟩ = some (.int .i64 (wrap64 (rd l0 0))) := (blk_cell BK264.out 0).trans rfl; have hcz64_1 : w62.cell? ⟨gb264, 1, none⟩ = some (.int .u32 ((t259) % 4294967296)) := (blk_cell BK264.out 1).trans rfl; have hcz64_2 : w62.cell? ⟨gb264, 2, none⟩ = some (.int .i64 t261) := (blk_cell BK264.out 2).trans rfl; have hcz64_3 : w62.cell? ⟨gb264, 3, none⟩ = some (.int .i64 t263) := (blk_cell BK264.out 3).trans rfl; have hcz64_4 : w62.cell? ⟨gb264, 4, none⟩ = some (.int .u32 ((t266) % 4294967296)) := (blk_cell BK264.out 4).trans rfl; have hcz64_5 : w62.cell? ⟨gb264, 5, none⟩ = some (.int .u32 ((t268) % 4294967296)) := (blk_cell BK264.out 5).trans rfl; have hcz64_6 : w62.cell? ⟨gb264, 6, none⟩ = some (.int .u32 ((t270) % 4294967296)) := (blk_cell BK264.out 6).trans rfl; have hcz64_7 : w62.cell? ⟨gb264, 7, none⟩ = some (.int .u32 ((t272) % 4294967296)) := (blk_cell BK264.out 7).trans rfl; have hcz64_8 : w62.cell? ⟨gb264, 8, none⟩ = some (.slice none 0 0) := (blk_cell BK264.out 8).trans rfl; have hcz64_9 : w62.cell? ⟨gb264, 9, none⟩ = some (.slice none 0 0) := (blk_cell BK264.out 9).trans rfl; have hfz64_0 := blk_frozen BK264.out 0; have hfz64_1 := blk_frozen BK264.out 1; have hfz64_2 := blk_frozen BK264.out 2; have hfz64_3 := blk_frozen BK264.out 3; have hfz64_4 := blk_frozen BK264.out 4; have hfz64_5 := blk_frozen BK264.out 5; have hfz64_6 := blk_frozen BK264.out 6; have hfz64_7 := blk_frozen BK264.out 7; have hfz64_8 := blk_frozen BK264.out 8; have hfz64_9 := blk_frozen BK264.out 9) | ((with_reducible refine gate_callee (f := 14) rfl ?_); refine goesL_ (some 72) rfl rfl Tryd.func14 (by kernel_rfl) rfl #[.agg #[.int .i64 (wrap64 (rd l0 0)), .int .u32 ((t259) % 4294967296), .int .i64 t261, .int .i64 t263, .int .u32 ((t266) % 4294967296), .int .u32 ((t268) % 4294967296), .int .u32 ((t270) % 4294967296), .int .u32 ((t272) % 4294967296), .slice Ao63 y278.length co63, .slice none 0 0]] rfl (by (try simp only [List.map_toArray, List.map_cons, List.map_nil]); first | done | rfl | (simp only [List.length_drop, List.length_take]; rfl)) ?_; (refine (lessorref03_Encode.calls kj1 (wrap64 (rd l0 0)) ((t259) % 4294967296) t261 t263 ((t266) % 4294967296) ((t268) % 4294967296) ((t270) % 4294967296) ((t272) % 4294967296) _ _ y278 _ _ ([] : List (S39)) t281 t284 _ ?side1_21 ?side2_21 ?side3_21 ?side4_21 A35.out).mono ?_); (case side1_21 => refine (Kd.R_reads' (e := 5) (base := w.heap.size) (ok := fun k_ => True) (n := y278.length) (c := co63) ?_).2.2; exact (by (with_reducible repeat (first | apply Kd.R_alloc | apply Kd.R_drewN | apply Kd.R_drew)); exact (Kd.R_mono (Kd.R_far (p := ⟨gb264, 8, none⟩) (Kd.R_types HO280.out BK264.out (by decide)) (fun _ hk => hk.2) (.slice Ao63 y278.length co63)) (fun _ h_ => h_.1)))); (case side2_21 => exact (Kd.R_reads' HO280.out).2.1); (case side3_21 => exact Kd.C_nil _ _); (case side4_21 => exact Nat.le_refl _); rintro e w65 ⟨v282, rfl, ho0, hb⟩; refine ⟨_, rfl, ?_⟩; have n0_ := Aside0.mk (Kd.R_elder' (by (with_reducible repeat (first | apply Kd.R_alloc | apply Kd.R_drewN | apply Kd.R_drew)); exact (Kd.R_mono (Kd.R_far (p := ⟨gb264, 8, none⟩) (Kd.R_types HO280.out BK264.out (by decide)) (fun _ hk => hk.2) (.slice Ao63 y278.length co63)) (fun _ h_ => h_.1))) (Kd.R_base ho0) hb); have n1_ := Aside0.mk (Kd.R_lower (Kd.R_new' ho0 (Kd.R_lt (by (with_reducible repeat (first | apply Kd.R_alloc | apply Kd.R_drewN | apply Kd.R_drew)); exact (Kd.R_mono (Kd.R_far (p := ⟨gb264, 8, none⟩) (Kd.R_types HO280.out BK264.out (by decide)) (fun _ hk => hk.2) (.slice Ao63 y278.length co63)) (fun _ h_ => h_.1))))) (below_size (by repeat (first | (with_reducible first | exact HB.out | apply below_alloc | apply pw_below_drewN | apply below_drew1 | refine below_set ?_ GE254.out | refine below_set ?_ GE264.out) | exact HB.out)))); have n2_ := Aside0.mk (blk_below (g := gb254) (o := .cells #[.int .i64 0, .int .u32 0, .int .i64 0, .int .i64 0, .int .u32 0, .int .u32 0, .int .u32 0, .int .u32 0, .slice none 0 0, .slice none 0 0] 28 (0, 0)) (by (with_reducible repeat (first | refine blk_drewN ?_ _ | refine blk_drew ?_ | refine blk_alloc ?_ _)); refine blk_far ?_ NB254_264.out _; (with_reducible repeat (first | refine blk_drewN ?_ _ | refine blk_drew ?_ | refine blk_alloc ?_ _)); exact BK254.out) hb); have n3_ := Aside0.mk (blk_below (g := gb264) (o := .cells #[.int .i64 (wrap64 (rd l0 0)), .int .u32 ((t259) % 4294967296), .int .i64 t261, .int .i64 t263, .int .u32 ((t266) % 4294967296), .int .u32 ((t268) % 4294967296), .int .u32 ((t270) % 4294967296), .int .u32 ((t272) % 4294967296), .slice Ao63 y278.length co63, .slice none 0 0] 28 (0, 0)) (by (with_reducible repeat (first | refine blk_drewN ?_ _ | refine blk_drew ?_ | refine blk_alloc ?_ _)); refine blk_put (cs := #[.int .i64 (wrap64 (rd l0 0)), .int .u32 ((t259) % 4294967296), .int .i64 t261, .int .i64 t263, .int .u32 ((t266) % 4294967296), .int .u32 ((t268) % 4294967296), .int .u32 ((t270) % 4294967296), .int .u32 ((t272) % 4294967296), .slice none 0 0, .slice none 0 0]) ?_ 8 _ rfl; (with_reducible repeat (first | refine blk_drewN ?_ _ | refine blk_drew ?_ | refine blk_alloc ?_ _)); exact BK264.out) hb); have n4_ := Aside0.mk (below_step (by repeat (first | (with_reducible first | exact HB.out | apply below_alloc | apply pw_below_drewN | apply below_drew1 | refine below_set ?_ GE254.out | refine below_set ?_ GE264.out) | exact HB.out)) hb); clear HO280; clear BK254; clear BK264; clear HB; have HO280 := n0_; have HO283 := n1_; have BK254 := n2_; have BK264 := n3_; have HB := n4_; clear n0_ n1_ n2_ n3_ n4_; (try clear hb); (try clear hb2); (try clear hk); (try clear hi); (try clear ho0)))
                       (try simp only [Act.put, List.setIfInBounds_toArray, List.set_cons_zero, List.set_cons_succ])
                       go_cut [85] (fun v85 wc => ∃ (kq : Nat) (x85_35 : Bool), v85 = .bool x85_35 ∧ Aside0 (lessorref03_Decode.j1 kq l0 x85_35 (wrap64 (rd l0 0)) ((t259) % 4294967296) t261 t263 ((t266) % 4294967296) ((t268) % 4294967296) ((t270) % 4294967296) ((t272) % 4294967296) y278 = some (r1, r2, r3, r4, r5, r6, r7, r8, r9, r10, r11)) ∧ Aside0 (kq ≤ kj1) ∧ Aside0 (Kd.R (Kd.int .u8) 5 wc w.heap.size (fun _ => True) (.slice Ao63 y278.length co63) y278) ∧ Aside0 (wc.heap[gb254]? = some (.cells #[.int .i64 0, .int .u32 0, .int .i64 0, .int .i64 0, .int .u32 0, .int .u32 0, .int .u32 0, .int .u32 0, (.slice none 0 0), (.slice none 0 0)] 28 (0, 0))) ∧ Aside0 (wc.heap[gb264]? = some (.cells #[.int .i64 (wrap64 (rd l0 0)), .int .u32 ((t259) % 4294967296), .int .i64 t261, .int .i64 t263, .int .u32 ((t266) % 4294967296), .int .u32 ((t268) % 4294967296), .int .u32 ((t270) % 4294967296), .int .u32 ((t272) % 4294967296), (.slice Ao63 y278.length co63), (.slice none 0 0)] 28 (0, 0))) ∧ Aside0 (Below w.heap.size w wc))
                       case first =>
                        have H := HC36.out
                        clear HC36
                        by_cases c66 : t284 = 0
                        ·rw [if_pos c66] at H
                         have c66b0 : (t284 == 0) = true := beq_iff_eq.mpr c66
                         have c66b1 : (t284 != 0) = false := bne_eq_false_iff_eq.mpr c66
                         clear c66
                         (first | rw [c66b0] | (simp only [i64_w, i32_w]; rw [c66b0]) | skip)
                         by_cases c67 : 240 ≤ (t281.length : Int)
                         ·rw [if_pos c67] at H
                          have c67b0 := eq_true c67
                          have c67b1 : decide (240 ≤ (t281.length : Int)) = true := decide_eq_true c67
                          clear c67
                          obtain ⟨y285, hy285⟩ : ∃ y_ : List Int, y_ = (t281.take 240) := ⟨_, rfl⟩
                          replace H : (if 240 ≤ (l0.length : Int) then (lessorref03_Decode.j1 kj1 l0 ((strOfNums y285).toList != (strOfNums (l0.take 240)).toList) (wrap64 (rd l0 0)) ((t259) % 4294967296) t261 t263 ((t266) % 4294967296) ((t268) % 4294967296) ((t270) % 4294967296) ((t272) % 4294967296) y278) else (none)) = some (r1, r2, r3, r4, r5, r6, r7, r8, r9, r10, r11) := by first | (rw [hy285]; with_reducible exact H) | (have H2_ := (Option.bind_some _ _).symm.trans H; rw [hy285]; with_reducible exact H2_) | (have H2_ := (Option.bind_some _ _).symm.trans H; with_reducible exact H2_) | with_reducible exact H | (rw [hy285]; exact H) | exact H
                          have Ny285 := Aside0.mk hy285
                          clear hy285
                          by_cases c68 : 240 ≤ (l0.length : Int)
                          ·rw [if_pos c68] at H
                           have c68b0 := eq_true c68
                           have c68b1 : decide (240 ≤ (l0.length : Int)) = true := decide_eq_true c68
                           clear c68
                           have H' := Aside0.mk H
                           clear H
                           try go_wp2
                           have n0_ := Aside0.mk (Kd.R_drew HO280.out)
                           have n1_ := Aside0.mk (Kd.R_drew HO283.out)
                           have n2_ := Aside0.mk (blk_drew BK254.out)
                           have n3_ := Aside0.mk (blk_drew BK264.out)
                           have n4_ := Aside0.mk (below_drew1 HB.out)
                           clear HO280
                           clear HO283
                           clear BK254
                           clear BK264
                           clear HB
                           have HO280 := n0_
                           have HO283 := n1_
                           have BK254 := n2_
                           have BK264 := n3_
                           have HB := n4_
                           clear n0_ n1_ n2_ n3_ n4_
                           obtain ⟨Ao71, co71, eo71⟩ := Kd.R_slice HO283.out
                           (first | subst eo71 | (injection eo71 with f1_ f2_ f3_; have f4_ := f1_.symm; have f5_ := f3_.symm; clear f1_ f2_ f3_; subst f4_; subst f5_))
                           have q70 : (240 : Int) ≤ ((t281.length : Int) : Int) := of_decide_eq_true (by first | (with_reducible assumption) | assumption)
                           obtain ⟨i070, hi070, _, hsz70, _⟩ := info_parts info5
                           have hroom70 : t281.length ≤ co71 := (Kd.R_reads' HO283.out).2.1
                           have hC70 : Kd.C (Kd.int .u8) _ Ao71 t281.length t281 := (Kd.R_reads' HO283.out).2.2
                           have hcut70 := cut_to (P := Tryd.prog) 22 5 .i64 Tryd.underlying22 hi070 Ao71 t281.length co71 240 (by omega) q70 hroom70
                           have hr70 := Kd.C_take (m := 240) hC70 (by omega)
                           have hy70 : y285.length = (240 : Int).toNat := (by rw [Ny285.out, List.length_take]; omega)
                           rw [← Ny285.out] at hr70
                           rw [← hy70] at hcut70
                           have HR288 := Aside0.mk hr70
                           have HC288 := Aside0.mk (show y285.length ≤ co71 from by omega)
                           clear hr70 hC70 hroom70 hi070 hsz70
                           have KY70 := Aside0.mk hy70
                           clear hy70
                           have KL70 := Aside0.mk (show 240 ≤ t281.length from by omega)
                           replace q70 := eq_true q70
                           obtain ⟨i072, hi072, _, hsz72, _⟩ := info_parts info5
                           obtain ⟨hcut72, hA72, hC72⟩ := print_take_of (P := Tryd.prog) (Value.int .u8) 0 22 5 .i64 Tryd.underlying22 hi072 hsz72 (some ad257) c0 l0 240 (by omega) (of_decide_eq_true (by first | (with_reducible assumption) | assumption)) HC0.out
                           have HR289 := Aside0.mk (Kd.C_of_reads (h1 := fun _ => rfl) (hA72 _ (Kd.reads_of_C HR0.out)))
                           have HC289 := Aside0.mk hC72
                           clear hA72 hC72 hi072 hsz72
                           have hcv73 := Kd.C_string (P := Tryd.prog) (A := Ao71) (c := co71) Tryd.underlying22 Tryd.underlying5 Tryd.underlying9 (by repeat (first | (with_reducible exact HR288.out) | (with_reducible refine Kd.C_alloc ?_ _) | (with_reducible refine Kd.C_drewN ?_ _) | (with_reducible refine Kd.C_drew ?_) | exact HR288.out))
                           have hcv74 := Kd.C_string (P := Tryd.prog) (A := (some ad257)) (c := c0) Tryd.underlying22 Tryd.underlying5 Tryd.underlying9  (Kd.C_below HR289.out HB.out); have hcv74q := fun nq_ : Nat => Kd.C_string (P := Tryd.prog) (A := (some ad257)) (c := c0) Tryd.underlying22 Tryd.underlying5 Tryd.underlying9  (Kd.C_drewN (Kd.C_below HR289.out HB.out) nq_); (try simp only [List.length_take, List.length_drop] at hcv74); (try simp only [List.length_take, List.length_drop] at hcv74q); skip
                           refine start_ (n := 11) (S := fun w' => (True) ∧ Below (w65.drew).heap.size (w65.drew) w') (ds := []) #[false, false, false, false, false, false, false, false, false, false, false] (by kernel_rfl) rfl rfl ⟨trivial, Below.refl _ _⟩ (fun hHeld => ?_); refine with_tabW lessorref03_Decode.tab10 lessorref03_Decode.bits10 (fun HT_ HW_ => ?_)
                           generalize w65.drew = w69 at HO280 HO283 BK254 BK264 HB HR288 HR289 hHeld ⊢
                           have HBz := Aside0.mk (Below.refl w69.heap.size w69)
                           refine pure_ (i := 0) (N := some 75) (v := ?_) (a' := ?_) #[true, false, false, false, false, false, false, false, false, false, false] rfl rfl (any_of HT_.out (by kernel_rfl)) (fun _ _ _ h => h) (Or.inl ⟨by rfl, ?_⟩) ?_ ?_
                           rotate_left
                           ·intro w'
                            go_simp
                            with_reducible rfl
                           rotate_left
                           ·simp only [Act.put, List.setIfInBounds_toArray, List.set_cons_zero, List.set_cons_succ, i64_w, i32_w]
                            rfl
                           refine pure_ (i := 1) (N := some 76) (v := ?_) (a' := ?_) #[true, true, false, false, false, false, false, false, false, false, false] rfl rfl (any_of HT_.out (by kernel_rfl)) (fun _ _ _ h => h) (Or.inl ⟨by rfl, ?_⟩) ?_ ?_
                           rotate_left
                           ·intro w'
                            go_simp
                            with_reducible rfl
                           rotate_left
                           ·simp only [Act.put, List.setIfInBounds_toArray, List.set_cons_zero, List.set_cons_succ, i64_w, i32_w]
                            rfl
                           refine pure_ (i := 2) (N := some 77) (v := ?_) (a' := ?_) #[true, true, true, false, false, false, false, false, false, false, false] rfl rfl (any_of HT_.out (by kernel_rfl)) (fun _ _ _ h => h) (Or.inl ⟨by rfl, ?_⟩) ?_ ?_
                           rotate_left
                           ·intro w'
                            go_simp
                            with_reducible rfl
                           rotate_left
                           ·simp only [Act.put, List.setIfInBounds_toArray, List.set_cons_zero, List.set_cons_succ, i64_w, i32_w]
                            rfl
                           refine pure_ (i := 3) (N := some 78) (v := ?_) (a' := ?_) #[true, true, true, true, false, false, false, false, false, false, false] rfl rfl (any_of HT_.out (by kernel_rfl)) (fun _ _ _ h => h) (Or.inl ⟨by rfl, ?_⟩) ?_ ?_
                           rotate_left
                           ·intro w'
                            go_simp
                            with_reducible rfl
                           rotate_left
                           ·simp only [Act.put, List.setIfInBounds_toArray, List.set_cons_zero, List.set_cons_succ, i64_w, i32_w]
                            rfl
                           refine pure_ (i := 4) (N := some 79) (v := ?_) (a' := ?_) #[true, true, true, true, true, false, false, false, false, false, false] rfl rfl (any_of HT_.out (by kernel_rfl)) (fun _ _ _ h => h) (Or.inl ⟨by rfl, ?_⟩) ?_ ?_
                           rotate_left
                           ·intro w'
                            go_simp
                            with_reducible rfl
                           rotate_left
                           ·simp only [Act.put, List.setIfInBounds_toArray, List.set_cons_zero, List.set_cons_succ, i64_w, i32_w]
                            rfl
                           refine take_ (i := 5) (N := some 80) (v := ?_) (a' := ?_) #[true, true, true, true, true, true, false, false, false, false, false] rfl rfl (take_ofW HT_.out HW_.out (by kernel_rfl)) (fun _ _ _ h => h) (Or.inl ⟨by rfl, ?_⟩) hHeld ?_ ?_
                           rotate_left
                           ·rintro w' ⟨sA_, sB_⟩
                            have hcz0_ := Kd.C_string (P := Tryd.prog) (A := Ao71) (c := co71) Tryd.underlying22 Tryd.underlying5 Tryd.underlying9 (Kd.C_below HR288.out sB_)
                            (try simp only [List.length_take, List.length_drop, Int.reduceToNat] at hcz0_)
                            have hcz1_ := Kd.C_string (P := Tryd.prog) (A := (some ad257)) (c := c0) Tryd.underlying22 Tryd.underlying5 Tryd.underlying9  (Kd.C_below HR289.out (HB.out.trans (sB_.mono HB.out.size)))
                            (try simp only [List.length_take, List.length_drop, Int.reduceToNat] at hcz1_)
                            go_simp
                            with_reducible rfl
                           rotate_left
                           ·simp only [Act.put, List.setIfInBounds_toArray, List.set_cons_zero, List.set_cons_succ, i64_w, i32_w]
                            rfl
                           refine pure_ (i := 6) (N := some 81) (v := ?_) (a' := ?_) #[true, true, true, true, true, true, true, false, false, false, false] rfl rfl (any_of HT_.out (by kernel_rfl)) (fun _ _ _ h => h) (Or.inl ⟨by rfl, ?_⟩) ?_ ?_
                           rotate_left
                           ·intro w'
                            go_simp
                            with_reducible rfl
                           rotate_left
                           ·simp only [Act.put, List.setIfInBounds_toArray, List.set_cons_zero, List.set_cons_succ, i64_w, i32_w]
                            rfl
                           refine pure_ (i := 7) (N := some 82) (v := ?_) (a' := ?_) #[true, true, true, true, true, true, true, true, false, false, false] rfl rfl (any_of HT_.out (by kernel_rfl)) (fun _ _ _ h => h) (Or.inl ⟨by rfl, ?_⟩) ?_ ?_
                           rotate_left
                           ·intro w'
                            go_simp
                            with_reducible rfl
                           rotate_left
                           ·simp only [Act.put, List.setIfInBounds_toArray, List.set_cons_zero, List.set_cons_succ, i64_w, i32_w]
                            rfl
                           refine take_ (i := 8) (N := some 83) (v := ?_) (a' := ?_) #[true, true, true, true, true, true, true, true, true, false, false] rfl rfl (take_ofW HT_.out HW_.out (by kernel_rfl)) (fun _ _ _ h => h) (Or.inl ⟨by rfl, ?_⟩) hHeld ?_ ?_
                           rotate_left
                           ·rintro w' ⟨sA_, sB_⟩
                            have hcz0_ := Kd.C_string (P := Tryd.prog) (A := Ao71) (c := co71) Tryd.underlying22 Tryd.underlying5 Tryd.underlying9 (Kd.C_below HR288.out sB_)
                            (try simp only [List.length_take, List.length_drop, Int.reduceToNat] at hcz0_)
                            have hcz1_ := Kd.C_string (P := Tryd.prog) (A := (some ad257)) (c := c0) Tryd.underlying22 Tryd.underlying5 Tryd.underlying9  (Kd.C_below HR289.out (HB.out.trans (sB_.mono HB.out.size)))
                            (try simp only [List.length_take, List.length_drop, Int.reduceToNat] at hcz1_)
                            go_simp
                            with_reducible rfl
                           rotate_left
                           ·simp only [Act.put, List.setIfInBounds_toArray, List.set_cons_zero, List.set_cons_succ, i64_w, i32_w]
                            rfl
                           refine pure_ (i := 9) (N := some 84) (v := ?_) (a' := ?_) #[true, true, true, true, true, true, true, true, true, true, false] rfl rfl (any_of HT_.out (by kernel_rfl)) (fun _ _ _ h => h) (Or.inl ⟨by rfl, ?_⟩) ?_ ?_
                           rotate_left
                           ·intro w'
                            go_simp
                            with_reducible rfl
                           rotate_left
                           ·simp only [Act.put, List.setIfInBounds_toArray, List.set_cons_zero, List.set_cons_succ, i64_w, i32_w]
                            rfl
                           refine pure_ (i := 10) (N := some 85) (v := ?_) (a' := ?_) #[true, true, true, true, true, true, true, true, true, true, true] rfl rfl (any_of HT_.out (by kernel_rfl)) (fun _ _ _ h => h) (Or.inl ⟨by rfl, ?_⟩) ?_ ?_
                           rotate_left
                           ·intro w'
                            go_simp
                            with_reducible rfl
                           rotate_left
                           ·simp only [Act.put, List.setIfInBounds_toArray, List.set_cons_zero, List.set_cons_succ, i64_w, i32_w]
                            rfl
                           refine done_ (done_of HT_.out (by kernel_rfl)) ?_
                           try go_wp2
                           go_meet
                           case rel => exact ⟨_, (((strOfNums y285).toList != (strOfNums (l0.take 240)).toList)), (by first | rfl | (simp; done) | (simp [*]; done)), H', ⟨by have := HJ1.out; first | omega | exact Nat.le_refl _⟩, ⟨by (with_reducible repeat (first | apply Kd.R_alloc | apply Kd.R_drewN | apply Kd.R_drew)); exact Kd.R_mono HO280.out (fun _ hk => trivial)⟩, ⟨by (with_reducible repeat (first | refine blk_drewN ?_ _ | refine blk_drew ?_ | refine blk_alloc ?_ _)); exact BK254.out⟩, ⟨by (with_reducible repeat (first | refine blk_drewN ?_ _ | refine blk_drew ?_ | refine blk_alloc ?_ _)); exact BK264.out⟩, ⟨by repeat (first | (with_reducible first | exact HB.out | apply below_alloc | apply pw_below_drewN | apply below_drew1 | refine below_set ?_ GE254.out | refine below_set ?_ GE264.out) | exact HB.out)⟩⟩
                          ·rw [if_neg c68] at H
                           exact absurd H (by simp)
                         ·rw [if_neg c67] at H
                          exact absurd H (by simp)
                        ·rw [if_neg c66] at H
                         have c66b0 : (t284 == 0) = false := beq_eq_false_iff_ne.mpr c66
                         have c66b1 : (t284 != 0) = true := bne_iff_ne.mpr c66
                         (first | rw [c66b0] | (simp only [i64_w, i32_w]; rw [c66b0]) | skip)
                         have H' := Aside0.mk H
                         clear H
                         try go_wp2
                         have n0_ := Aside0.mk (Kd.R_drew HO280.out)
                         have n1_ := Aside0.mk (Kd.R_drew HO283.out)
                         have n2_ := Aside0.mk (blk_drew BK254.out)
                         have n3_ := Aside0.mk (blk_drew BK264.out)
                         have n4_ := Aside0.mk (below_drew1 HB.out)
                         clear HO280
                         clear HO283
                         clear BK254
                         clear BK264
                         clear HB
                         have HO280 := n0_
                         have HO283 := n1_
                         have BK254 := n2_
                         have BK264 := n3_
                         have HB := n4_
                         clear n0_ n1_ n2_ n3_ n4_
                         refine start_ (n := 11) (S := fun w' => True) (ds := []) #[false, false, false, false, false, false, false, false, false, false, false] (by kernel_rfl) rfl rfl trivial (fun hHeld => ?_); refine with_tabW lessorref03_Decode.tab10 lessorref03_Decode.bits10 (fun HT_ HW_ => ?_)
                         generalize w65.drew = w76 at HO280 HO283 BK254 BK264 HB hHeld ⊢
                         refine pure_ (i := 0) (N := some 75) (v := ?_) (a' := ?_) #[true, false, false, false, false, false, false, false, false, false, false] rfl rfl (any_of HT_.out (by kernel_rfl)) (fun _ _ _ h => h) (Or.inl ⟨by rfl, ?_⟩) ?_ ?_
                         rotate_left
                         ·intro w'
                          go_simp
                          with_reducible rfl
                         rotate_left
                         ·simp only [Act.put, List.setIfInBounds_toArray, List.set_cons_zero, List.set_cons_succ, i64_w, i32_w]
                          rfl
                         refine pure_ (i := 1) (N := some 76) (v := ?_) (a' := ?_) #[true, true, false, false, false, false, false, false, false, false, false] rfl rfl (any_of HT_.out (by kernel_rfl)) (fun _ _ _ h => h) (Or.inl ⟨by rfl, ?_⟩) ?_ ?_
                         rotate_left
                         ·intro w'
                          go_simp
                          with_reducible rfl
                         rotate_left
                         ·simp only [Act.put, List.setIfInBounds_toArray, List.set_cons_zero, List.set_cons_succ, i64_w, i32_w]
                          rfl
                         refine pure_ (i := 2) (N := some 77) (v := ?_) (a' := ?_) #[true, true, true, false, false, false, false, false, false, false, false] rfl rfl (any_of HT_.out (by kernel_rfl)) (fun _ _ _ h => h) (Or.inl ⟨by rfl, ?_⟩) ?_ ?_
                         rotate_left
                         ·intro w'
                          go_simp
                          with_reducible rfl
                         rotate_left
                         ·simp only [Act.put, List.setIfInBounds_toArray, List.set_cons_zero, List.set_cons_succ, i64_w, i32_w]
                          rfl
                         refine pure_ (i := 3) (N := some 78) (v := undef) (a' := ?_) #[true, true, true, true, false, false, false, false, false, false, false] rfl rfl (any_of HT_.out (by kernel_rfl)) (fun _ _ _ h => h) (Or.inr ⟨by rfl, rfl⟩) ?_ ?_
                         rotate_left
                         ·simp only [Act.put, List.setIfInBounds_toArray, List.set_cons_zero, List.set_cons_succ, i64_w, i32_w]
                          rfl
                         refine pure_ (i := 4) (N := some 79) (v := undef) (a' := ?_) #[true, true, true, true, true, false, false, false, false, false, false] rfl rfl (any_of HT_.out (by kernel_rfl)) (fun _ _ _ h => h) (Or.inr ⟨by rfl, rfl⟩) ?_ ?_
                         rotate_left
                         ·simp only [Act.put, List.setIfInBounds_toArray, List.set_cons_zero, List.set_cons_succ, i64_w, i32_w]
                          rfl
                         refine pure_ (i := 5) (N := some 80) (v := undef) (a' := ?_) #[true, true, true, true, true, true, false, false, false, false, false] rfl rfl (any_of HT_.out (by kernel_rfl)) (fun _ _ _ h => h) (Or.inr ⟨by rfl, rfl⟩) ?_ ?_
                         rotate_left
                         ·simp only [Act.put, List.setIfInBounds_toArray, List.set_cons_zero, List.set_cons_succ, i64_w, i32_w]
                          rfl
                         refine pure_ (i := 6) (N := some 81) (v := undef) (a' := ?_) #[true, true, true, true, true, true, true, false, false, false, false] rfl rfl (any_of HT_.out (by kernel_rfl)) (fun _ _ _ h => h) (Or.inr ⟨by rfl, rfl⟩) ?_ ?_
                         rotate_left
                         ·simp only [Act.put, List.setIfInBounds_toArray, List.set_cons_zero, List.set_cons_succ, i64_w, i32_w]
                          rfl
                         refine pure_ (i := 7) (N := some 82) (v := undef) (a' := ?_) #[true, true, true, true, true, true, true, true, false, false, false] rfl rfl (any_of HT_.out (by kernel_rfl)) (fun _ _ _ h => h) (Or.inr ⟨by rfl, rfl⟩) ?_ ?_
                         rotate_left
                         ·simp only [Act.put, List.setIfInBounds_toArray, List.set_cons_zero, List.set_cons_succ, i64_w, i32_w]
                          rfl
                         refine pure_ (i := 8) (N := some 83) (v := undef) (a' := ?_) #[true, true, true, true, true, true, true, true, true, false, false] rfl rfl (any_of HT_.out (by kernel_rfl)) (fun _ _ _ h => h) (Or.inr ⟨by rfl, rfl⟩) ?_ ?_
                         rotate_left
                         ·simp only [Act.put, List.setIfInBounds_toArray, List.set_cons_zero, List.set_cons_succ, i64_w, i32_w]
                          rfl
                         refine pure_ (i := 9) (N := some 84) (v := undef) (a' := ?_) #[true, true, true, true, true, true, true, true, true, true, false] rfl rfl (any_of HT_.out (by kernel_rfl)) (fun _ _ _ h => h) (Or.inr ⟨by rfl, rfl⟩) ?_ ?_
                         rotate_left
                         ·simp only [Act.put, List.setIfInBounds_toArray, List.set_cons_zero, List.set_cons_succ, i64_w, i32_w]
                          rfl
                         refine pure_ (i := 10) (N := some 85) (v := ?_) (a' := ?_) #[true, true, true, true, true, true, true, true, true, true, true] rfl rfl (any_of HT_.out (by kernel_rfl)) (fun _ _ _ h => h) (Or.inl ⟨by rfl, ?_⟩) ?_ ?_
                         rotate_left
                         ·intro w'
                          go_simp
                          with_reducible rfl
                         rotate_left
                         ·simp only [Act.put, List.setIfInBounds_toArray, List.set_cons_zero, List.set_cons_succ, i64_w, i32_w]
                          rfl
                         refine done_ (done_of HT_.out (by kernel_rfl)) ?_
                         try go_wp2
                         go_meet
                         case rel => exact ⟨_, (true), (by first | rfl | (simp; done) | (simp [*]; done)), H', ⟨by have := HJ1.out; first | omega | exact Nat.le_refl _⟩, ⟨by (with_reducible repeat (first | apply Kd.R_alloc | apply Kd.R_drewN | apply Kd.R_drew)); exact Kd.R_mono HO280.out (fun _ hk => trivial)⟩, ⟨by (with_reducible repeat (first | refine blk_drewN ?_ _ | refine blk_drew ?_ | refine blk_alloc ?_ _)); exact BK254.out⟩, ⟨by (with_reducible repeat (first | refine blk_drewN ?_ _ | refine blk_drew ?_ | refine blk_alloc ?_ _)); exact BK264.out⟩, ⟨by repeat (first | (with_reducible first | exact HB.out | apply below_alloc | apply pw_below_drewN | apply below_drew1 | refine below_set ?_ GE254.out | refine below_set ?_ GE264.out) | exact HB.out)⟩⟩
                       case rest =>
                        clear HC36
                        try clear c1
                        try clear p2
                        try clear q2
                        try clear hx2
                        try clear qi2
                        try clear c3
                        try clear c5
                        try clear c6
                        try clear p6
                        try clear q7
                        try clear hcv7
                        try clear c13
                        try clear c14
                        try clear p27
                        try clear q27
                        try clear hx27
                        try clear qi27
                        try clear c34
                        try clear c54
                        try clear p64
                        try clear c66
                        try clear c66b0
                        try clear c66b1
                        try clear c67
                        try clear c67b0
                        try clear c67b1
                        try clear c68
                        try clear c68b0
                        try clear c68b1
                        try clear q70
                        try clear hcv73
                        try clear hcv74
                        try clear hcz55_0
                        try clear hcz55_1
                        try clear hcz55_2
                        try clear hcz55_3
                        try clear hcz55_4
                        try clear hcz55_5
                        try clear hcz55_6
                        try clear hcz55_7
                        try clear hcz55_8
                        try clear hcz55_9
                        try clear hcz64_0
                        try clear hcz64_1
                        try clear hcz64_2
                        try clear hcz64_3
                        try clear hcz64_4
                        try clear hcz64_5
                        try clear hcz64_6
                        try clear hcz64_7
                        try clear hcz64_8
                        try clear hcz64_9
                        try clear hfz55_0
                        try clear hfz55_1
                        try clear hfz55_2
                        try clear hfz55_3
                        try clear hfz55_4
                        try clear hfz55_5
                        try clear hfz55_6
                        try clear hfz55_7
                        try clear hfz55_8
                        try clear hfz55_9
                        try clear hfz64_0
                        try clear hfz64_1
                        try clear hfz64_2
                        try clear hfz64_3
                        try clear hfz64_4
                        try clear hfz64_5
                        try clear hfz64_6
                        try clear hfz64_7
                        try clear hfz64_8
                        try clear hfz64_9
                        try clear hx276_0
                        try clear p276
                        try clear q276
                        try clear q70
                        obtain ⟨kq, x85_35, rfl, HA, HJ35, HO_265008, BK254, BK264, HB⟩ := hcut
                        cases kq with
                        | zero => exact absurd HA.out (by simp [lessorref03_Decode.j1])
                        | succ kj35 =>
                         have H := HA.out
                         clear HA
                         simp only [lessorref03_Decode.j1] at H
                         by_cases c77 : x85_35 = true
                         ·subst c77
                          have H1 : (some (0, 0, 0, 0, 0, 0, 0, 0, ([] : List Int), ([] : List (S39)), 2)) = some (r1, r2, r3, r4, r5, r6, r7, r8, r9, r10, r11) := by rw [if_pos rfl] at H; exact H
                          clear H
                          have H := H1
                          clear H1
                          simp only [Option.some.injEq, Prod.mk.injEq] at H
                          obtain ⟨rfl, rfl, rfl, rfl, rfl, rfl, rfl, rfl, rfl, rfl, rfl⟩ := H
                          have hnb78 := NB254_264.out
                          have hnc78 := NB264_254.out
                          have hcz79_0 : wc.cell? ⟨gb254, 0, none⟩ = some (.int .i64 0) := (blk_cell BK254.out 0).trans rfl
                          have hcz79_1 : wc.cell? ⟨gb254, 1, none⟩ = some (.int .u32 0) := (blk_cell BK254.out 1).trans rfl
                          have hcz79_2 : wc.cell? ⟨gb254, 2, none⟩ = some (.int .i64 0) := (blk_cell BK254.out 2).trans rfl
                          have hcz79_3 : wc.cell? ⟨gb254, 3, none⟩ = some (.int .i64 0) := (blk_cell BK254.out 3).trans rfl
                          have hcz79_4 : wc.cell? ⟨gb254, 4, none⟩ = some (.int .u32 0) := (blk_cell BK254.out 4).trans rfl
                          have hcz79_5 : wc.cell? ⟨gb254, 5, none⟩ = some (.int .u32 0) := (blk_cell BK254.out 5).trans rfl
                          have hcz79_6 : wc.cell? ⟨gb254, 6, none⟩ = some (.int .u32 0) := (blk_cell BK254.out 6).trans rfl
                          have hcz79_7 : wc.cell? ⟨gb254, 7, none⟩ = some (.int .u32 0) := (blk_cell BK254.out 7).trans rfl
                          have hcz79_8 : wc.cell? ⟨gb254, 8, none⟩ = some (.slice none 0 0) := (blk_cell BK254.out 8).trans rfl
                          have hcz79_9 : wc.cell? ⟨gb254, 9, none⟩ = some (.slice none 0 0) := (blk_cell BK254.out 9).trans rfl
                          have hfz79_0 := blk_frozen BK254.out 0
                          have hfz79_1 := blk_frozen BK254.out 1
                          have hfz79_2 := blk_frozen BK254.out 2
                          have hfz79_3 := blk_frozen BK254.out 3
                          have hfz79_4 := blk_frozen BK254.out 4
                          have hfz79_5 := blk_frozen BK254.out 5
                          have hfz79_6 := blk_frozen BK254.out 6
                          have hfz79_7 := blk_frozen BK254.out 7
                          have hfz79_8 := blk_frozen BK254.out 8
                          have hfz79_9 := blk_frozen BK254.out 9
                          go_wp2
                          refine bodyPost_ret (results_ct rfl _ _ gb254 28 #[.int .i64 0, .int .u32 0, .int .i64 0, .int .i64 0, .int .u32 0, .int .u32 0, .int .u32 0, .int .u32 0, .slice none 0 0, .slice none 0 0] (0, 0) _ rfl (by (with_reducible repeat (first | refine blk_drewN ?_ _ | refine blk_drew ?_ | refine blk_alloc ?_ _)); refine blk_put (cs := #[.int .i64 0, .int .u32 0, .int .i64 0, .int .i64 0, .int .u32 0, .int .u32 0, .int .u32 0, .int .u32 0, .slice none 0 0, .slice none 0 0]) ?_ 9 _ rfl; (with_reducible repeat (first | refine blk_drewN ?_ _ | refine blk_drew ?_ | refine blk_alloc ?_ _)); refine blk_put (cs := #[.int .i64 0, .int .u32 0, .int .i64 0, .int .i64 0, .int .u32 0, .int .u32 0, .int .u32 0, .int .u32 0, .slice none 0 0, .slice none 0 0]) ?_ 8 _ rfl; (with_reducible repeat (first | refine blk_drewN ?_ _ | refine blk_drew ?_ | refine blk_alloc ?_ _)); refine blk_put (cs := #[.int .i64 0, .int .u32 0, .int .i64 0, .int .i64 0, .int .u32 0, .int .u32 0, .int .u32 0, .int .u32 0, .slice none 0 0, .slice none 0 0]) ?_ 7 _ rfl; (with_reducible repeat (first | refine blk_drewN ?_ _ | refine blk_drew ?_ | refine blk_alloc ?_ _)); refine blk_put (cs := #[.int .i64 0, .int .u32 0, .int .i64 0, .int .i64 0, .int .u32 0, .int .u32 0, .int .u32 0, .int .u32 0, .slice none 0 0, .slice none 0 0]) ?_ 6 _ rfl; (with_reducible repeat (first | refine blk_drewN ?_ _ | refine blk_drew ?_ | refine blk_alloc ?_ _)); refine blk_put (cs := #[.int .i64 0, .int .u32 0, .int .i64 0, .int .i64 0, .int .u32 0, .int .u32 0, .int .u32 0, .int .u32 0, .slice none 0 0, .slice none 0 0]) ?_ 5 _ rfl; (with_reducible repeat (first | refine blk_drewN ?_ _ | refine blk_drew ?_ | refine blk_alloc ?_ _)); refine blk_put (cs := #[.int .i64 0, .int .u32 0, .int .i64 0, .int .i64 0, .int .u32 0, .int .u32 0, .int .u32 0, .int .u32 0, .slice none 0 0, .slice none 0 0]) ?_ 4 _ rfl; (with_reducible repeat (first | refine blk_drewN ?_ _ | refine blk_drew ?_ | refine blk_alloc ?_ _)); refine blk_put (cs := #[.int .i64 0, .int .u32 0, .int .i64 0, .int .i64 0, .int .u32 0, .int .u32 0, .int .u32 0, .int .u32 0, .slice none 0 0, .slice none 0 0]) ?_ 3 _ rfl; (with_reducible repeat (first | refine blk_drewN ?_ _ | refine blk_drew ?_ | refine blk_alloc ?_ _)); refine blk_put (cs := #[.int .i64 0, .int .u32 0, .int .i64 0, .int .i64 0, .int .u32 0, .int .u32 0, .int .u32 0, .int .u32 0, .slice none 0 0, .slice none 0 0]) ?_ 2 _ rfl; (with_reducible repeat (first | refine blk_drewN ?_ _ | refine blk_drew ?_ | refine blk_alloc ?_ _)); refine blk_put (cs := #[.int .i64 0, .int .u32 0, .int .i64 0, .int .i64 0, .int .u32 0, .int .u32 0, .int .u32 0, .int .u32 0, .slice none 0 0, .slice none 0 0]) ?_ 1 _ rfl; (with_reducible repeat (first | refine blk_drewN ?_ _ | refine blk_drew ?_ | refine blk_alloc ?_ _)); refine blk_put (cs := #[.int .i64 0, .int .u32 0, .int .i64 0, .int .i64 0, .int .u32 0, .int .u32 0, .int .u32 0, .int .u32 0, .slice none 0 0, .slice none 0 0]) ?_ 0 _ rfl; (with_reducible repeat (first | refine blk_drewN ?_ _ | refine blk_drew ?_ | refine blk_alloc ?_ _)); exact BK254.out) Tryd.underlying28 rfl (by kernel_rfl)) rfl ?_
                          exact ⟨_, _, by first | rfl | (simp [errW_none, errW_some] <;> rfl) | (simp [*, errW_none, errW_some] <;> rfl), by first | exact Kd.R_nil _ _ _ _ _ | exact Kd.N_nil _ _ _ _ _ | exact Kd.V_nil _ _ _ _ _ | exact Kd.Q_nil _ _ _ _ _ | exact Kd.S_nil _ _ _ _ _, by first | exact Kd.S_nil _ _ _ _ _ | exact Kd.N_nil _ _ _ _ _ | exact Kd.V_nil _ _ _ _ _ | exact Kd.Q_nil _ _ _ _ _ | exact Kd.R_nil _ _ _ _ _, by repeat (first | (with_reducible first | exact HB.out | apply below_alloc | apply pw_below_drewN | apply below_drew1 | refine below_set ?_ GE254.out | refine below_set ?_ GE264.out) | exact HB.out)⟩
                         ·replace c77 := Bool.eq_false_iff.mpr c77
                          subst c77
                          have H1 : (if 240 ≤ (l0.length : Int) then ((lessorref02_Decode.f kj35 (l0.drop 240)).bind fun bt291 => (if bt291.2 = 0 then (some ((wrap64 (rd l0 0)), ((t259) % 4294967296), t261, t263, ((t266) % 4294967296), ((t268) % 4294967296), ((t270) % 4294967296), ((t272) % 4294967296), y278, bt291.1, 0)) else (some (0, 0, 0, 0, 0, 0, 0, 0, ([] : List Int), ([] : List (S39)), 2)))) else (none)) = some (r1, r2, r3, r4, r5, r6, r7, r8, r9, r10, r11) := by rw [if_neg (show ¬ (false = true) by decide)] at H; exact H
                          clear H
                          have H := H1
                          clear H1
                          by_cases c80 : 240 ≤ (l0.length : Int)
                          ·rw [if_pos c80] at H
                           have c80b0 := eq_true c80
                           have c80b1 : decide (240 ≤ (l0.length : Int)) = true := decide_eq_true c80
                           clear c80
                           replace H := Option.bind_eq_some_iff.mp H
                           obtain ⟨⟨t291, t292⟩, A810, H⟩ := H
                           replace H : (if t292 = 0 then (some ((wrap64 (rd l0 0)), ((t259) % 4294967296), t261, t263, ((t266) % 4294967296), ((t268) % 4294967296), ((t270) % 4294967296), ((t272) % 4294967296), y278, t291, 0)) else (some (0, 0, 0, 0, 0, 0, 0, 0, ([] : List Int), ([] : List (S39)), 2))) = some (r1, r2, r3, r4, r5, r6, r7, r8, r9, r10, r11) := H
                           have A81 := Aside0.mk A810
                           clear A810
                           by_cases c82 : t292 = 0
                           ·rw [if_pos c82] at H
                            have c82b0 : (t292 == 0) = true := beq_iff_eq.mpr c82
                            have c82b1 : (t292 != 0) = false := bne_eq_false_iff_eq.mpr c82
                            clear c82
                            simp only [Option.some.injEq, Prod.mk.injEq] at H
                            obtain ⟨rfl, rfl, rfl, rfl, rfl, rfl, rfl, rfl, rfl, rfl, rfl⟩ := H
                            obtain ⟨i083, hi083, _, hsz83, _⟩ := info_parts info5
                            obtain ⟨A83, hcut83, hA83, hC83⟩ := print_drop_of (P := Tryd.prog) (Value.int .u8) 0 22 5 .i64 Tryd.underlying22 hi083 hsz83 (some ad257) c0 l0 240 (by omega) (of_decide_eq_true (by first | (with_reducible assumption) | assumption)) HC0.out
                            have HR290 := Aside0.mk (Kd.C_of_reads (h1 := fun _ => rfl) (hA83 _ (Kd.reads_of_C HR0.out)))
                            have HC290 := Aside0.mk hC83
                            clear hA83 hC83 hi083 hsz83
                            go_wp2_with (first | ((with_reducible refine gate_callee (f := 15) rfl ?_); refine goesL_ (some 90) rfl rfl Tryd.func15 (by kernel_rfl) rfl #[.slice A83 (l0.drop 240).length (c0 - 240)] rfl (by (try simp only [List.map_toArray, List.map_cons, List.map_nil]); first | done | (rw [show (l0.drop 240).length = (l0.length - 240) from List.length_drop] <;> rfl) | rfl | (simp only [List.length_drop, List.length_take]; rfl)) ?_; (with_reducible refine (lessorref02_Decode.calls kj35 _ _ (l0.drop 240) t291 t292 _ ?side1_22 ?side2_22 A81.out).mono ?_); (case side1_22 => repeat (first | exact (Kd.C_below HR290.out HB.out) | exact (Kd.C_below (Aside0.out (by assumption)) HB.out) | (with_reducible refine Kd.C_alloc ?_ _) | (with_reducible refine Kd.C_drewN ?_ _) | (with_reducible refine Kd.C_drew ?_))); (case side2_22 => exact HC290.out); rintro e w84 ⟨v293, rfl, ho0, hb⟩; refine ⟨_, rfl, ?_⟩; have n0_ := Aside0.mk (Kd.R_below (by (with_reducible repeat (first | apply Kd.R_alloc | apply Kd.R_drewN | apply Kd.R_drew)); exact HO_265008.out) hb); have n1_ := Aside0.mk (Kd.S_lower (Kd.S_new' ho0 (Kd.R_lt (by (with_reducible repeat (first | apply Kd.R_alloc | apply Kd.R_drewN | apply Kd.R_drew)); exact HO_265008.out))) (below_size (by repeat (first | (with_reducible first | exact HB.out | apply below_alloc | apply pw_below_drewN | apply below_drew1 | refine below_set ?_ GE254.out | refine below_set ?_ GE264.out) | exact HB.out)))); have n2_ := Aside0.mk (blk_below (g := gb254) (o := .cells #[.int .i64 0, .int .u32 0, .int .i64 0, .int .i64 0, .int .u32 0, .int .u32 0, .int .u32 0, .int .u32 0, .slice none 0 0, .slice none 0 0] 28 (0, 0)) (by (with_reducible repeat (first | refine blk_drewN ?_ _ | refine blk_drew ?_ | refine blk_alloc ?_ _)); exact BK254.out) hb); have n3_ := Aside0.mk (blk_below (g := gb264) (o := .cells #[.int .i64 (wrap64 (rd l0 0)), .int .u32 ((t259) % 4294967296), .int .i64 t261, .int .i64 t263, .int .u32 ((t266) % 4294967296), .int .u32 ((t268) % 4294967296), .int .u32 ((t270) % 4294967296), .int .u32 ((t272) % 4294967296), .slice Ao63 y278.length co63, .slice none 0 0] 28 (0, 0)) (by (with_reducible repeat (first | refine blk_drewN ?_ _ | refine blk_drew ?_ | refine blk_alloc ?_ _)); exact BK264.out) hb); have n4_ := Aside0.mk (below_step (by repeat (first | (with_reducible first | exact HB.out | apply below_alloc | apply pw_below_drewN | apply below_drew1 | refine below_set ?_ GE254.out | refine below_set ?_ GE264.out) | exact HB.out)) hb); clear HO_265008; clear BK254; clear BK264; clear HB; have HO_265008 := n0_; have HO294 := n1_; have BK254 := n2_; have BK264 := n3_; have HB := n4_; clear n0_ n1_ n2_ n3_ n4_; (try clear hb); (try clear hb2); (try clear hk); (try clear hi); (try clear ho0); obtain ⟨Ao85, co85, eo85⟩ := Kd.S_slice HO294.out; subst eo85; have hnb86 := NB264_254.out; have hnc86 := NB254_264.out; have hcz87_0 : w84.cell? ⟨gb264, 0, none⟩ = some (.int .i64 (wrap64 (rd l0 0))) := (blk_cell BK264.out 0).trans rfl; have hcz87_1 : w84.cell? ⟨gb264, 1, none⟩ = some (.int .u32 ((t259) % 4294967296)) := (blk_cell BK264.out 1).trans rfl; have hcz87_2 : w84.cell? ⟨gb264, 2, none⟩ = some (.int .i64 t261) := (blk_cell BK264.out 2).trans rfl; have hcz87_3 : w84.cell? ⟨gb264, 3, none⟩ = some (.int .i64 t263) := (blk_cell BK264.out 3).trans rfl; have hcz87_4 : w84.cell? ⟨gb264, 4, none⟩ = some (.int .u32 ((t266) % 4294967296)) := (blk_cell BK264.out 4).trans rfl; have hcz87_5 : w84.cell? ⟨gb264, 5, none⟩ = some (.int .u32 ((t268) % 4294967296)) := (blk_cell BK264.out 5).trans rfl; have hcz87_6 : w84.cell? ⟨gb264, 6, none⟩ = some (.int .u32 ((t270) % 4294967296)) := (blk_cell BK264.out 6).trans rfl; have hcz87_7 : w84.cell? ⟨gb264, 7, none⟩ = some (.int .u32 ((t272) % 4294967296)) := (blk_cell BK264.out 7).trans rfl; have hcz87_8 : w84.cell? ⟨gb264, 8, none⟩ = some (.slice Ao63 y278.length co63) := (blk_cell BK264.out 8).trans rfl; have hcz87_9 : w84.cell? ⟨gb264, 9, none⟩ = some (.slice none 0 0) := (blk_cell BK264.out 9).trans rfl; have hfz87_0 := blk_frozen BK264.out 0; have hfz87_1 := blk_frozen BK264.out 1; have hfz87_2 := blk_frozen BK264.out 2; have hfz87_3 := blk_frozen BK264.out 3; have hfz87_4 := blk_frozen BK264.out 4; have hfz87_5 := blk_frozen BK264.out 5; have hfz87_6 := blk_frozen BK264.out 6; have hfz87_7 := blk_frozen BK264.out 7; have hfz87_8 := blk_frozen BK264.out 8; have hfz87_9 := blk_frozen BK264.out 9; have hcz88_0 : w84.cell? ⟨gb254, 0, none⟩ = some (.int .i64 0) := (blk_cell BK254.out 0).trans rfl; have hcz88_1 : w84.cell? ⟨gb254, 1, none⟩ = some (.int .u32 0) := (blk_cell BK254.out 1).trans rfl; have hcz88_2 : w84.cell? ⟨gb254, 2, none⟩ = some (.int .i64 0) := (blk_cell BK254.out 2).trans rfl; have hcz88_3 : w84.cell? ⟨gb254, 3, none⟩ = some (.int .i64 0) := (blk_cell BK254.out 3).trans rfl; have hcz88_4 : w84.cell? ⟨gb254, 4, none⟩ = some (.int .u32 0) := (blk_cell BK254.out 4).trans rfl; have hcz88_5 : w84.cell? ⟨gb254, 5, none⟩ = some (.int .u32 0) := (blk_cell BK254.out 5).trans rfl; have hcz88_6 : w84.cell? ⟨gb254, 6, none⟩ = some (.int .u32 0) := (blk_cell BK254.out 6).trans rfl; have hcz88_7 : w84.cell? ⟨gb254, 7, none⟩ = some (.int .u32 0) := (blk_cell BK254.out 7).trans rfl; have hcz88_8 : w84.cell? ⟨gb254, 8, none⟩ = some (.slice none 0 0) := (blk_cell BK254.out 8).trans rfl; have hcz88_9 : w84.cell? ⟨gb254, 9, none⟩ = some (.slice none 0 0) := (blk_cell BK254.out 9).trans rfl; have hfz88_0 := blk_frozen BK254.out 0; have hfz88_1 := blk_frozen BK254.out 1; have hfz88_2 := blk_frozen BK254.out 2; have hfz88_3 := blk_frozen BK254.out 3; have hfz88_4 := blk_frozen BK254.out 4; have hfz88_5 := blk_frozen BK254.out 5; have hfz88_6 := blk_frozen BK254.out 6; have hfz88_7 := blk_frozen BK254.out 7; have hfz88_8 := blk_frozen BK254.out 8; have hfz88_9 := blk_frozen BK254.out 9))
                            refine bodyPost_ret (results_ct rfl _ _ gb254 28 #[.int .i64 (wrap64 (rd l0 0)), .int .u32 ((t259) % 4294967296), .int .i64 t261, .int .i64 t263, .int .u32 ((t266) % 4294967296), .int .u32 ((t268) % 4294967296), .int .u32 ((t270) % 4294967296), .int .u32 ((t272) % 4294967296), .slice Ao63 y278.length co63, .slice Ao85 t291.length co85] (0, 0) _ rfl (by (with_reducible repeat (first | refine blk_drewN ?_ _ | refine blk_drew ?_ | refine blk_alloc ?_ _)); refine blk_put (cs := #[.int .i64 (wrap64 (rd l0 0)), .int .u32 ((t259) % 4294967296), .int .i64 t261, .int .i64 t263, .int .u32 ((t266) % 4294967296), .int .u32 ((t268) % 4294967296), .int .u32 ((t270) % 4294967296), .int .u32 ((t272) % 4294967296), .slice Ao63 y278.length co63, .slice none 0 0]) ?_ 9 _ rfl; (with_reducible repeat (first | refine blk_drewN ?_ _ | refine blk_drew ?_ | refine blk_alloc ?_ _)); refine blk_put (cs := #[.int .i64 (wrap64 (rd l0 0)), .int .u32 ((t259) % 4294967296), .int .i64 t261, .int .i64 t263, .int .u32 ((t266) % 4294967296), .int .u32 ((t268) % 4294967296), .int .u32 ((t270) % 4294967296), .int .u32 ((t272) % 4294967296), .slice none 0 0, .slice none 0 0]) ?_ 8 _ rfl; (with_reducible repeat (first | refine blk_drewN ?_ _ | refine blk_drew ?_ | refine blk_alloc ?_ _)); refine blk_put (cs := #[.int .i64 (wrap64 (rd l0 0)), .int .u32 ((t259) % 4294967296), .int .i64 t261, .int .i64 t263, .int .u32 ((t266) % 4294967296), .int .u32 ((t268) % 4294967296), .int .u32 ((t270) % 4294967296), .int .u32 0, .slice none 0 0, .slice none 0 0]) ?_ 7 _ rfl; (with_reducible repeat (first | refine blk_drewN ?_ _ | refine blk_drew ?_ | refine blk_alloc ?_ _)); refine blk_put (cs := #[.int .i64 (wrap64 (rd l0 0)), .int .u32 ((t259) % 4294967296), .int .i64 t261, .int .i64 t263, .int .u32 ((t266) % 4294967296), .int .u32 ((t268) % 4294967296), .int .u32 0, .int .u32 0, .slice none 0 0, .slice none 0 0]) ?_ 6 _ rfl; (with_reducible repeat (first | refine blk_drewN ?_ _ | refine blk_drew ?_ | refine blk_alloc ?_ _)); refine blk_put (cs := #[.int .i64 (wrap64 (rd l0 0)), .int .u32 ((t259) % 4294967296), .int .i64 t261, .int .i64 t263, .int .u32 ((t266) % 4294967296), .int .u32 0, .int .u32 0, .int .u32 0, .slice none 0 0, .slice none 0 0]) ?_ 5 _ rfl; (with_reducible repeat (first | refine blk_drewN ?_ _ | refine blk_drew ?_ | refine blk_alloc ?_ _)); refine blk_put (cs := #[.int .i64 (wrap64 (rd l0 0)), .int .u32 ((t259) % 4294967296), .int .i64 t261, .int .i64 t263, .int .u32 0, .int .u32 0, .int .u32 0, .int .u32 0, .slice none 0 0, .slice none 0 0]) ?_ 4 _ rfl; (with_reducible repeat (first | refine blk_drewN ?_ _ | refine blk_drew ?_ | refine blk_alloc ?_ _)); refine blk_put (cs := #[.int .i64 (wrap64 (rd l0 0)), .int .u32 ((t259) % 4294967296), .int .i64 t261, .int .i64 0, .int .u32 0, .int .u32 0, .int .u32 0, .int .u32 0, .slice none 0 0, .slice none 0 0]) ?_ 3 _ rfl; (with_reducible repeat (first | refine blk_drewN ?_ _ | refine blk_drew ?_ | refine blk_alloc ?_ _)); refine blk_put (cs := #[.int .i64 (wrap64 (rd l0 0)), .int .u32 ((t259) % 4294967296), .int .i64 0, .int .i64 0, .int .u32 0, .int .u32 0, .int .u32 0, .int .u32 0, .slice none 0 0, .slice none 0 0]) ?_ 2 _ rfl; (with_reducible repeat (first | refine blk_drewN ?_ _ | refine blk_drew ?_ | refine blk_alloc ?_ _)); refine blk_put (cs := #[.int .i64 (wrap64 (rd l0 0)), .int .u32 0, .int .i64 0, .int .i64 0, .int .u32 0, .int .u32 0, .int .u32 0, .int .u32 0, .slice none 0 0, .slice none 0 0]) ?_ 1 _ rfl; (with_reducible repeat (first | refine blk_drewN ?_ _ | refine blk_drew ?_ | refine blk_alloc ?_ _)); refine blk_put (cs := #[.int .i64 0, .int .u32 0, .int .i64 0, .int .i64 0, .int .u32 0, .int .u32 0, .int .u32 0, .int .u32 0, .slice none 0 0, .slice none 0 0]) ?_ 0 _ rfl; (with_reducible repeat (first | refine blk_drewN ?_ _ | refine blk_drew ?_ | refine blk_alloc ?_ _)); refine blk_far ?_ NB254_264.out _; (with_reducible repeat (first | refine blk_drewN ?_ _ | refine blk_drew ?_ | refine blk_alloc ?_ _)); exact BK254.out) Tryd.underlying28 rfl (by kernel_rfl)) rfl ?_
                            exact ⟨_, _, by first | rfl | (simp [errW_none, errW_some] <;> rfl) | (simp [*, errW_none, errW_some] <;> rfl), by (with_reducible repeat (first | apply Kd.R_alloc | apply Kd.R_drewN | apply Kd.R_drew)); exact Kd.R_mono (Kd.R_far (p := ⟨gb254, 9, none⟩) (Kd.R_far (p := ⟨gb254, 8, none⟩) (Kd.R_far (p := ⟨gb254, 7, none⟩) (Kd.R_far (p := ⟨gb254, 6, none⟩) (Kd.R_far (p := ⟨gb254, 5, none⟩) (Kd.R_far (p := ⟨gb254, 4, none⟩) (Kd.R_far (p := ⟨gb254, 3, none⟩) (Kd.R_far (p := ⟨gb254, 2, none⟩) (Kd.R_far (p := ⟨gb254, 1, none⟩) (Kd.R_far (p := ⟨gb254, 0, none⟩) (Kd.R_far (p := ⟨gb264, 9, none⟩) (Kd.R_types (Kd.R_types HO_265008.out BK264.out (by decide)) BK254.out (by decide)) (fun _ hk => hk.1.2) (.slice Ao85 t291.length co85)) (fun _ hk => hk.2) (.int .i64 (wrap64 (rd l0 0)))) (fun _ hk => hk.2) (.int .u32 ((t259) % 4294967296))) (fun _ hk => hk.2) (.int .i64 t261)) (fun _ hk => hk.2) (.int .i64 t263)) (fun _ hk => hk.2) (.int .u32 ((t266) % 4294967296))) (fun _ hk => hk.2) (.int .u32 ((t268) % 4294967296))) (fun _ hk => hk.2) (.int .u32 ((t270) % 4294967296))) (fun _ hk => hk.2) (.int .u32 ((t272) % 4294967296))) (fun _ hk => hk.2) (.slice Ao63 y278.length co63)) (fun _ hk => hk.2) (.slice Ao85 t291.length co85)) (fun _ hk => trivial), by (with_reducible repeat (first | apply Kd.S_alloc | apply Kd.S_drewN | apply Kd.S_drew)); exact Kd.S_mono (Kd.S_far (p := ⟨gb254, 9, none⟩) (Kd.S_far (p := ⟨gb254, 8, none⟩) (Kd.S_far (p := ⟨gb254, 7, none⟩) (Kd.S_far (p := ⟨gb254, 6, none⟩) (Kd.S_far (p := ⟨gb254, 5, none⟩) (Kd.S_far (p := ⟨gb254, 4, none⟩) (Kd.S_far (p := ⟨gb254, 3, none⟩) (Kd.S_far (p := ⟨gb254, 2, none⟩) (Kd.S_far (p := ⟨gb254, 1, none⟩) (Kd.S_far (p := ⟨gb254, 0, none⟩) (Kd.S_far (p := ⟨gb264, 9, none⟩) (Kd.S_types (Kd.S_types HO294.out BK264.out (by decide)) BK254.out (by decide)) (fun _ hk => hk.1.2) (.slice Ao85 t291.length co85)) (fun _ hk => hk.2) (.int .i64 (wrap64 (rd l0 0)))) (fun _ hk => hk.2) (.int .u32 ((t259) % 4294967296))) (fun _ hk => hk.2) (.int .i64 t261)) (fun _ hk => hk.2) (.int .i64 t263)) (fun _ hk => hk.2) (.int .u32 ((t266) % 4294967296))) (fun _ hk => hk.2) (.int .u32 ((t268) % 4294967296))) (fun _ hk => hk.2) (.int .u32 ((t270) % 4294967296))) (fun _ hk => hk.2) (.int .u32 ((t272) % 4294967296))) (fun _ hk => hk.2) (.slice Ao63 y278.length co63)) (fun _ hk => hk.2) (.slice Ao85 t291.length co85)) (fun _ hk => hk.1.1.2), by repeat (first | (with_reducible first | exact HB.out | apply below_alloc | apply pw_below_drewN | apply below_drew1 | refine below_set ?_ GE254.out | refine below_set ?_ GE264.out) | exact HB.out)⟩
                           ·rw [if_neg c82] at H
                            have c82b0 : (t292 == 0) = false := beq_eq_false_iff_ne.mpr c82
                            have c82b1 : (t292 != 0) = true := bne_iff_ne.mpr c82
                            simp only [Option.some.injEq, Prod.mk.injEq] at H
                            obtain ⟨rfl, rfl, rfl, rfl, rfl, rfl, rfl, rfl, rfl, rfl, rfl⟩ := H
                            obtain ⟨i089, hi089, _, hsz89, _⟩ := info_parts info5
                            obtain ⟨A89, hcut89, hA89, hC89⟩ := print_drop_of (P := Tryd.prog) (Value.int .u8) 0 22 5 .i64 Tryd.underlying22 hi089 hsz89 (some ad257) c0 l0 240 (by omega) (of_decide_eq_true (by first | (with_reducible assumption) | assumption)) HC0.out
                            have HR290 := Aside0.mk (Kd.C_of_reads (h1 := fun _ => rfl) (hA89 _ (Kd.reads_of_C HR0.out)))
                            have HC290 := Aside0.mk hC89
                            clear hA89 hC89 hi089 hsz89
                            go_wp2_with (first | ((with_reducible refine gate_callee (f := 15) rfl ?_); refine goesL_ (some 90) rfl rfl Tryd.func15 (by kernel_rfl) rfl #[.slice A89 (l0.drop 240).length (c0 - 240)] rfl (by (try simp only [List.map_toArray, List.map_cons, List.map_nil]); first | done | (rw [show (l0.drop 240).length = (l0.length - 240) from List.length_drop] <;> rfl) | rfl | (simp only [List.length_drop, List.length_take]; rfl)) ?_; (with_reducible refine (lessorref02_Decode.calls kj35 _ _ (l0.drop 240) t291 t292 _ ?side1_23 ?side2_23 A81.out).mono ?_); (case side1_23 => repeat (first | exact (Kd.C_below HR290.out HB.out) | exact (Kd.C_below (Aside0.out (by assumption)) HB.out) | (with_reducible refine Kd.C_alloc ?_ _) | (with_reducible refine Kd.C_drewN ?_ _) | (with_reducible refine Kd.C_drew ?_))); (case side2_23 => exact HC290.out); rintro e w90 ⟨v293, rfl, ho0, hb⟩; refine ⟨_, rfl, ?_⟩; have n0_ := Aside0.mk (Kd.R_below (by (with_reducible repeat (first | apply Kd.R_alloc | apply Kd.R_drewN | apply Kd.R_drew)); exact HO_265008.out) hb); have n1_ := Aside0.mk (Kd.S_lower (Kd.S_new' ho0 (Kd.R_lt (by (with_reducible repeat (first | apply Kd.R_alloc | apply Kd.R_drewN | apply Kd.R_drew)); exact HO_265008.out))) (below_size (by repeat (first | (with_reducible first | exact HB.out | apply below_alloc | apply pw_below_drewN | apply below_drew1 | refine below_set ?_ GE254.out | refine below_set ?_ GE264.out) | exact HB.out)))); have n2_ := Aside0.mk (blk_below (g := gb254) (o := .cells #[.int .i64 0, .int .u32 0, .int .i64 0, .int .i64 0, .int .u32 0, .int .u32 0, .int .u32 0, .int .u32 0, .slice none 0 0, .slice none 0 0] 28 (0, 0)) (by (with_reducible repeat (first | refine blk_drewN ?_ _ | refine blk_drew ?_ | refine blk_alloc ?_ _)); exact BK254.out) hb); have n3_ := Aside0.mk (blk_below (g := gb264) (o := .cells #[.int .i64 (wrap64 (rd l0 0)), .int .u32 ((t259) % 4294967296), .int .i64 t261, .int .i64 t263, .int .u32 ((t266) % 4294967296), .int .u32 ((t268) % 4294967296), .int .u32 ((t270) % 4294967296), .int .u32 ((t272) % 4294967296), .slice Ao63 y278.length co63, .slice none 0 0] 28 (0, 0)) (by (with_reducible repeat (first | refine blk_drewN ?_ _ | refine blk_drew ?_ | refine blk_alloc ?_ _)); exact BK264.out) hb); have n4_ := Aside0.mk (below_step (by repeat (first | (with_reducible first | exact HB.out | apply below_alloc | apply pw_below_drewN | apply below_drew1 | refine below_set ?_ GE254.out | refine below_set ?_ GE264.out) | exact HB.out)) hb); clear HO_265008; clear BK254; clear BK264; clear HB; have HO_265008 := n0_; have HO294 := n1_; have BK254 := n2_; have BK264 := n3_; have HB := n4_; clear n0_ n1_ n2_ n3_ n4_; (try clear hb); (try clear hb2); (try clear hk); (try clear hi); (try clear ho0); have hnb91 := NB254_264.out; have hnc91 := NB264_254.out; have hcz92_0 : w90.cell? ⟨gb254, 0, none⟩ = some (.int .i64 0) := (blk_cell BK254.out 0).trans rfl; have hcz92_1 : w90.cell? ⟨gb254, 1, none⟩ = some (.int .u32 0) := (blk_cell BK254.out 1).trans rfl; have hcz92_2 : w90.cell? ⟨gb254, 2, none⟩ = some (.int .i64 0) := (blk_cell BK254.out 2).trans rfl; have hcz92_3 : w90.cell? ⟨gb254, 3, none⟩ = some (.int .i64 0) := (blk_cell BK254.out 3).trans rfl; have hcz92_4 : w90.cell? ⟨gb254, 4, none⟩ = some (.int .u32 0) := (blk_cell BK254.out 4).trans rfl; have hcz92_5 : w90.cell? ⟨gb254, 5, none⟩ = some (.int .u32 0) := (blk_cell BK254.out 5).trans rfl; have hcz92_6 : w90.cell? ⟨gb254, 6, none⟩ = some (.int .u32 0) := (blk_cell BK254.out 6).trans rfl; have hcz92_7 : w90.cell? ⟨gb254, 7, none⟩ = some (.int .u32 0) := (blk_cell BK254.out 7).trans rfl; have hcz92_8 : w90.cell? ⟨gb254, 8, none⟩ = some (.slice none 0 0) := (blk_cell BK254.out 8).trans rfl; have hcz92_9 : w90.cell? ⟨gb254, 9, none⟩ = some (.slice none 0 0) := (blk_cell BK254.out 9).trans rfl; have hfz92_0 := blk_frozen BK254.out 0; have hfz92_1 := blk_frozen BK254.out 1; have hfz92_2 := blk_frozen BK254.out 2; have hfz92_3 := blk_frozen BK254.out 3; have hfz92_4 := blk_frozen BK254.out 4; have hfz92_5 := blk_frozen BK254.out 5; have hfz92_6 := blk_frozen BK254.out 6; have hfz92_7 := blk_frozen BK254.out 7; have hfz92_8 := blk_frozen BK254.out 8; have hfz92_9 := blk_frozen BK254.out 9))
                            refine bodyPost_ret (results_ct rfl _ _ gb254 28 #[.int .i64 0, .int .u32 0, .int .i64 0, .int .i64 0, .int .u32 0, .int .u32 0, .int .u32 0, .int .u32 0, .slice none 0 0, .slice none 0 0] (0, 0) _ rfl (by (with_reducible repeat (first | refine blk_drewN ?_ _ | refine blk_drew ?_ | refine blk_alloc ?_ _)); refine blk_put (cs := #[.int .i64 0, .int .u32 0, .int .i64 0, .int .i64 0, .int .u32 0, .int .u32 0, .int .u32 0, .int .u32 0, .slice none 0 0, .slice none 0 0]) ?_ 9 _ rfl; (with_reducible repeat (first | refine blk_drewN ?_ _ | refine blk_drew ?_ | refine blk_alloc ?_ _)); refine blk_put (cs := #[.int .i64 0, .int .u32 0, .int .i64 0, .int .i64 0, .int .u32 0, .int .u32 0, .int .u32 0, .int .u32 0, .slice none 0 0, .slice none 0 0]) ?_ 8 _ rfl; (with_reducible repeat (first | refine blk_drewN ?_ _ | refine blk_drew ?_ | refine blk_alloc ?_ _)); refine blk_put (cs := #[.int .i64 0, .int .u32 0, .int .i64 0, .int .i64 0, .int .u32 0, .int .u32 0, .int .u32 0, .int .u32 0, .slice none 0 0, .slice none 0 0]) ?_ 7 _ rfl; (with_reducible repeat (first | refine blk_drewN ?_ _ | refine blk_drew ?_ | refine blk_alloc ?_ _)); refine blk_put (cs := #[.int .i64 0, .int .u32 0, .int .i64 0, .int .i64 0, .int .u32 0, .int .u32 0, .int .u32 0, .int .u32 0, .slice none 0 0, .slice none 0 0]) ?_ 6 _ rfl; (with_reducible repeat (first | refine blk_drewN ?_ _ | refine blk_drew ?_ | refine blk_alloc ?_ _)); refine blk_put (cs := #[.int .i64 0, .int .u32 0, .int .i64 0, .int .i64 0, .int .u32 0, .int .u32 0, .int .u32 0, .int .u32 0, .slice none 0 0, .slice none 0 0]) ?_ 5 _ rfl; (with_reducible repeat (first | refine blk_drewN ?_ _ | refine blk_drew ?_ | refine blk_alloc ?_ _)); refine blk_put (cs := #[.int .i64 0, .int .u32 0, .int .i64 0, .int .i64 0, .int .u32 0, .int .u32 0, .int .u32 0, .int .u32 0, .slice none 0 0, .slice none 0 0]) ?_ 4 _ rfl; (with_reducible repeat (first | refine blk_drewN ?_ _ | refine blk_drew ?_ | refine blk_alloc ?_ _)); refine blk_put (cs := #[.int .i64 0, .int .u32 0, .int .i64 0, .int .i64 0, .int .u32 0, .int .u32 0, .int .u32 0, .int .u32 0, .slice none 0 0, .slice none 0 0]) ?_ 3 _ rfl; (with_reducible repeat (first | refine blk_drewN ?_ _ | refine blk_drew ?_ | refine blk_alloc ?_ _)); refine blk_put (cs := #[.int .i64 0, .int .u32 0, .int .i64 0, .int .i64 0, .int .u32 0, .int .u32 0, .int .u32 0, .int .u32 0, .slice none 0 0, .slice none 0 0]) ?_ 2 _ rfl; (with_reducible repeat (first | refine blk_drewN ?_ _ | refine blk_drew ?_ | refine blk_alloc ?_ _)); refine blk_put (cs := #[.int .i64 0, .int .u32 0, .int .i64 0, .int .i64 0, .int .u32 0, .int .u32 0, .int .u32 0, .int .u32 0, .slice none 0 0, .slice none 0 0]) ?_ 1 _ rfl; (with_reducible repeat (first | refine blk_drewN ?_ _ | refine blk_drew ?_ | refine blk_alloc ?_ _)); refine blk_put (cs := #[.int .i64 0, .int .u32 0, .int .i64 0, .int .i64 0, .int .u32 0, .int .u32 0, .int .u32 0, .int .u32 0, .slice none 0 0, .slice none 0 0]) ?_ 0 _ rfl; (with_reducible repeat (first | refine blk_drewN ?_ _ | refine blk_drew ?_ | refine blk_alloc ?_ _)); exact BK254.out) Tryd.underlying28 rfl (by kernel_rfl)) rfl ?_
                            exact ⟨_, _, by first | rfl | (simp [errW_none, errW_some] <;> rfl) | (simp [*, errW_none, errW_some] <;> rfl), by first | exact Kd.R_nil _ _ _ _ _ | exact Kd.N_nil _ _ _ _ _ | exact Kd.V_nil _ _ _ _ _ | exact Kd.Q_nil _ _ _ _ _ | exact Kd.S_nil _ _ _ _ _, by first | exact Kd.S_nil _ _ _ _ _ | exact Kd.N_nil _ _ _ _ _ | exact Kd.V_nil _ _ _ _ _ | exact Kd.Q_nil _ _ _ _ _ | exact Kd.R_nil _ _ _ _ _, by repeat (first | (with_reducible first | exact HB.out | apply below_alloc | apply pw_below_drewN | apply below_drew1 | refine below_set ?_ GE254.out | refine below_set ?_ GE264.out) | exact HB.out)⟩
                          ·rw [if_neg c80] at H
                           exact absurd H (by simp)
                      ·rw [if_neg c34] at H
                       exact absurd H (by simp)
                     ·rw [if_neg c33] at H
                      exact absurd H (by simp)
                    ·rw [if_neg c32] at H
                     exact absurd H (by simp)
                   ·rw [if_neg c31] at H
                    exact absurd H (by simp)
                  ·rw [if_neg c29] at H
                   exact absurd H (by simp)
                 ·rw [if_neg c28] at H
                  exact absurd H (by simp)
                ·rw [if_neg c26] at H
                 exact absurd H (by simp)
               ·rw [if_neg c25] at H
                exact absurd H (by simp)
              ·rw [if_neg c23] at H
               exact absurd H (by simp)
             ·rw [if_neg c22] at H
              exact absurd H (by simp)
            ·rw [if_neg c20] at H
             exact absurd H (by simp)
           ·rw [if_neg c19] at H
            exact absurd H (by simp)
          ·rw [if_neg c17] at H
           exact absurd H (by simp)
         ·rw [if_neg c16] at H
          exact absurd H (by simp)
        ·rw [if_neg c14] at H
         exact absurd H (by simp)
       ·rw [if_neg c13] at H
        exact absurd H (by simp)
      ·rw [if_neg c11] at H
       exact absurd H (by simp)
     ·rw [if_neg c10] at H
      exact absurd H (by simp)
    ·rw [if_neg c9] at H
     exact absurd H (by simp)

end Go.Proofs.YtmbfdmceameghaaDoor.Pr
end
