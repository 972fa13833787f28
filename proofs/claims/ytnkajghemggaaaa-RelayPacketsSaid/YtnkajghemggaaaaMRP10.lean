/-
  Printed: PrF22.
  Packets handed on and handed back, over lists: what the reference's Strip and Same compute of few options. (The reference.)
  Printed: PrF8.
-/
import Derived.Test.YtnkajghemggaaaaMRP1
import Derived.Test.YtnkajghemggaaaaMRP8
import Derived.Test.YtnkajghemggaaaaMRP6
import Derived.Test.YtnkajghemggaaaaMRP4
import Derived.Test.YtnkajghemggaaaaMRP9

section
-- written by a program of this session (wip/tools/gen.py) over the kit's print
namespace Go.Proofs.Ytnkajghemggaaaa.Pr
open Go.RowKit Go.Proofs.YtnkajghemggaaaaW.PrintWords Go.Proofs.YtnkajghemggaaaaW.PrintLast Go.Proofs.YtnkajghemggaaaaW.PrintMore
attribute [local go_sem] max2_int min2_int max_two min_two max_three min_three max_four min_four   -- for this text's walks alone
set_option linter.unusedVariables false
set_option linter.unusedSimpArgs false

/-! ### lessorref26_Strip: function 22 -/
mutual
def lessorref26_Strip.j0 : Nat → Bool → Int → Int → Int → Int → Int → Int → Int → Int → List Int → List (S48) → Option (Int × Int × Int × Int × Int × Int × Int × Int × List Int × (List (S48)) × (List (S48)) × Int)
 | 0, _, _, _, _, _, _, _, _, _, _, _ => none
 | k + 1, x20, x280000, x280001, x280002, x280003, x280004, x280005, x280006, x280007, x280008, x280009 => if x20 = true then (some (0, 0, 0, 0, 0, 0, 0, 0, ([] : List Int), ([] : List (S48)), ([] : List (S48)), 1)) else ((lessorref02_Find.f k x280009 82).bind fun bt282 => (if bt282.2 = true then ((lessorref26_Decode.f k bt282.1).bind fun bt286 => (if bt286.2 = 0 then (lessorref26_Strip.l0 k bt286.1 ([] : List (S48)) 0 x280000 x280001 x280002 x280003 x280004 x280005 x280006 x280007 x280008 x280009) else (some (0, 0, 0, 0, 0, 0, 0, 0, ([] : List Int), ([] : List (S48)), ([] : List (S48)), 2)))) else (some (0, 0, 0, 0, 0, 0, 0, 0, ([] : List Int), ([] : List (S48)), ([] : List (S48)), 4))))
def lessorref26_Strip.l0 : Nat → List (S48) → List (S48) → Int → Int → Int → Int → Int → Int → Int → Int → Int → List Int → List (S48) → Option (Int × Int × Int × Int × Int × Int × Int × Int × List Int × (List (S48)) × (List (S48)) × Int)
 | 0, _, _, _, _, _, _, _, _, _, _, _, _, _ => none
 | k + 1, x8, x10, x11, x280000, x280001, x280002, x280003, x280004, x280005, x280006, x280007, x280008, x280009 => if x11 < (x280009.length : Int) then (if 0 ≤ x11 then (if ((rd_T48 x280009 x11).f0) = 82 then (lessorref26_Strip.l0 k x8 x10 (wrap64 (x11 + 1)) x280000 x280001 x280002 x280003 x280004 x280005 x280006 x280007 x280008 x280009) else (if x10.length < 4398046511104 then (lessorref26_Strip.l0 k x8 (x10 ++ [(⟨(rd_T48 x280009 x11).f0, (rd_T48 x280009 x11).f1⟩ : S48)]) (wrap64 (x11 + 1)) x280000 x280001 x280002 x280003 x280004 x280005 x280006 x280007 x280008 x280009) else (none))) else (none)) else (some (x280000, x280001, x280002, x280003, x280004, x280005, x280006, 0, x280008, x10, x8, 0))
end
def lessorref26_Strip.f (k : Nat) (a0_0 : Int) (a0_1 : Int) (a0_2 : Int) (a0_3 : Int) (a0_4 : Int) (a0_5 : Int) (a0_6 : Int) (a0_7 : Int) (l0_8 : List Int) (l0_9 : List (S48)) : Option (Int × Int × Int × Int × Int × Int × Int × Int × List Int × (List (S48)) × (List (S48)) × Int) := (lessorref03_Right.f k a0_0 a0_1 a0_2 a0_3 a0_4 a0_5 a0_6 a0_7 l0_8 l0_9).bind fun t281 => (if t281 = true then (lessorref26_Strip.j0 k (a0_0 != 2) a0_0 a0_1 a0_2 a0_3 a0_4 a0_5 a0_6 a0_7 l0_8 l0_9) else (lessorref26_Strip.j0 k true a0_0 a0_1 a0_2 a0_3 a0_4 a0_5 a0_6 a0_7 l0_8 l0_9))
theorem lessorref26_Strip.mono_l : ∀ k, (∀ y0 y1 y2 y3 y4 y5 y6 y7 y8 y9 y10, LeO (lessorref26_Strip.j0 k y0 y1 y2 y3 y4 y5 y6 y7 y8 y9 y10) (lessorref26_Strip.j0 (k + 1) y0 y1 y2 y3 y4 y5 y6 y7 y8 y9 y10)) ∧ (∀ y0 y1 y2 y3 y4 y5 y6 y7 y8 y9 y10 y11 y12, LeO (lessorref26_Strip.l0 k y0 y1 y2 y3 y4 y5 y6 y7 y8 y9 y10 y11 y12) (lessorref26_Strip.l0 (k + 1) y0 y1 y2 y3 y4 y5 y6 y7 y8 y9 y10 y11 y12))
 | 0 => ⟨fun _ _ _ _ _ _ _ _ _ _ _ r h => by simp [lessorref26_Strip.j0] at h, fun _ _ _ _ _ _ _ _ _ _ _ _ _ r h => by simp [lessorref26_Strip.l0] at h⟩
 | k + 1 => by
  obtain ⟨ih0, ih1⟩ := lessorref26_Strip.mono_l k
  refine ⟨?_, ?_⟩
  ·intro y0 y1 y2 y3 y4 y5 y6 y7 y8 y9 y10
   unfold lessorref26_Strip.j0
   repeat' first
   | (with_reducible exact ih0 _ _ _ _ _ _ _ _ _ _ _)
   | (with_reducible exact ih1 _ _ _ _ _ _ _ _ _ _ _ _ _)
   | (with_reducible exact lessorref02_Find.mono _ _ _)
   | (with_reducible exact lessorref03_Right.mono _ _ _ _ _ _ _ _ _ _ _)
   | (with_reducible exact lessorref26_Decode.mono _ _)
   | (with_reducible exact LeO.refl _)
   | (with_reducible exact LeO.none _)
   | (with_reducible refine LeO.ite ?_ ?_)
   | (with_reducible refine LeO.bind ?_ (fun _ => ?_))
   | exact ih0 _ _ _ _ _ _ _ _ _ _ _
   | exact ih1 _ _ _ _ _ _ _ _ _ _ _ _ _
   | exact lessorref02_Find.mono _ _ _
   | exact lessorref03_Right.mono _ _ _ _ _ _ _ _ _ _ _
   | exact lessorref26_Decode.mono _ _
   | exact LeO.none _
   | refine LeO.ite ?_ ?_
   | refine LeO.bind ?_ (fun _ => ?_)
  ·intro y0 y1 y2 y3 y4 y5 y6 y7 y8 y9 y10 y11 y12
   unfold lessorref26_Strip.l0
   repeat' first
   | (with_reducible exact ih0 _ _ _ _ _ _ _ _ _ _ _)
   | (with_reducible exact ih1 _ _ _ _ _ _ _ _ _ _ _ _ _)
   | (with_reducible exact lessorref02_Find.mono _ _ _)
   | (with_reducible exact lessorref03_Right.mono _ _ _ _ _ _ _ _ _ _ _)
   | (with_reducible exact lessorref26_Decode.mono _ _)
   | (with_reducible exact LeO.refl _)
   | (with_reducible exact LeO.none _)
   | (with_reducible refine LeO.ite ?_ ?_)
   | (with_reducible refine LeO.bind ?_ (fun _ => ?_))
   | exact ih0 _ _ _ _ _ _ _ _ _ _ _
   | exact ih1 _ _ _ _ _ _ _ _ _ _ _ _ _
   | exact lessorref02_Find.mono _ _ _
   | exact lessorref03_Right.mono _ _ _ _ _ _ _ _ _ _ _
   | exact lessorref26_Decode.mono _ _
   | exact LeO.none _
   | refine LeO.ite ?_ ?_
   | refine LeO.bind ?_ (fun _ => ?_)
theorem lessorref26_Strip.mono : ∀ a0 a1 a2 a3 a4 a5 a6 a7 a8 a9 k, LeO (lessorref26_Strip.f k a0 a1 a2 a3 a4 a5 a6 a7 a8 a9) (lessorref26_Strip.f (k + 1) a0 a1 a2 a3 a4 a5 a6 a7 a8 a9) := by
 intro a0 a1 a2 a3 a4 a5 a6 a7 a8 a9 k
 obtain ⟨ih0, ih1⟩ := lessorref26_Strip.mono_l k
 unfold lessorref26_Strip.f
 repeat' first
   | (with_reducible exact ih0 _ _ _ _ _ _ _ _ _ _ _)
   | (with_reducible exact ih1 _ _ _ _ _ _ _ _ _ _ _ _ _)
   | (with_reducible exact lessorref02_Find.mono _ _ _)
   | (with_reducible exact lessorref03_Right.mono _ _ _ _ _ _ _ _ _ _ _)
   | (with_reducible exact lessorref26_Decode.mono _ _)
   | (with_reducible exact LeO.refl _)
   | (with_reducible exact LeO.none _)
   | (with_reducible refine LeO.ite ?_ ?_)
   | (with_reducible refine LeO.bind ?_ (fun _ => ?_))
   | exact ih0 _ _ _ _ _ _ _ _ _ _ _
   | exact ih1 _ _ _ _ _ _ _ _ _ _ _ _ _
   | exact lessorref02_Find.mono _ _ _
   | exact lessorref03_Right.mono _ _ _ _ _ _ _ _ _ _ _
   | exact lessorref26_Decode.mono _ _
   | exact LeO.none _
   | refine LeO.ite ?_ ?_
   | refine LeO.bind ?_ (fun _ => ?_)
set_option maxHeartbeats 8000000 in
set_option maxRecDepth 100000 in
theorem lessorref26_Strip.calls (k : Nat) (a0_0 : Int) (a0_1 : Int) (a0_2 : Int) (a0_3 : Int) (a0_4 : Int) (a0_5 : Int) (a0_6 : Int) (a0_7 : Int) (P0_8_ : Nat → Prop) (A0_8 : Option Addr) (c0_8 : Nat) (l0_8 : List Int) (P0_9_ : Nat → Prop) (A0_9 : Option Addr) (c0_9 : Nat) (l0_9 : List (S48)) (r1 : Int) (r2 : Int) (r3 : Int) (r4 : Int) (r5 : Int) (r6 : Int) (r7 : Int) (r8 : Int) (r9 : List Int) (r10 : List (S48)) (r11 : List (S48)) (r12 : Int) (w : World) (hs0_8 : Kd.V (Kd.int .u8) 5 w w.heap.size (fun k_ => P0_8_ k_) (.slice A0_8 l0_8.length c0_8) l0_8) (hs0_9 : Kd.V k48 48 w w.heap.size (fun k_ => P0_9_ k_) (.slice A0_9 l0_9.length c0_9) l0_9) (h : lessorref26_Strip.f k a0_0 a0_1 a0_2 a0_3 a0_4 a0_5 a0_6 a0_7 l0_8 l0_9 = some (r1, r2, r3, r4, r5, r6, r7, r8, r9, r10, r11, r12)) :
  Calls Try.prog 22 #[.agg #[.int .i64 a0_0, .int .u32 a0_1, .int .i64 a0_2, .int .i64 a0_3, .int .u32 a0_4, .int .u32 a0_5, .int .u32 a0_6, .int .u32 a0_7, .slice A0_8 l0_8.length c0_8, .slice A0_9 l0_9.length c0_9]] w fun e w' => ∃ v8_ v9_ v10_ : Value, e = .returned (.tuple #[.agg #[.int .i64 r1, .int .u32 r2, .int .i64 r3, .int .i64 r4, .int .u32 r5, .int .u32 r6, .int .u32 r7, .int .u32 r8, v8_, v9_], v10_, .int .i64 r12]) ∧ Kd.V (Kd.int .u8) 5 w' w.heap.size (fun k_ => ((P0_8_ k_ ∨ P0_9_ k_) ∨ w.heap.size ≤ k_) ∧ some k_ ≠ (v9_ : Value).ownBlock ∧ some k_ ≠ (v10_ : Value).ownBlock) v8_ r9 ∧ Kd.N k48 48 w' w.heap.size (fun k_ => ((P0_8_ k_ ∨ P0_9_ k_) ∨ w.heap.size ≤ k_) ∧ some k_ ≠ (v10_ : Value).ownBlock) v9_ r10 ∧ Kd.N k48 48 w' w.heap.size (fun k_ => ((P0_8_ k_ ∨ P0_9_ k_) ∨ w.heap.size ≤ k_) ∧ some k_ ≠ (v9_ : Value).ownBlock) v10_ r11 ∧ Below w.heap.size w w' := by
 have hu28 := Try.underlying28
 have hu48 := Try.underlying48
 have HO0_8 := Aside0.mk (show Kd.V (Kd.int .u8) 5 w w.heap.size (fun k_ => ((P0_8_ k_ ∨ P0_9_ k_) ∨ w.heap.size ≤ k_)) (.slice A0_8 l0_8.length c0_8) l0_8 from Kd.V_mono hs0_8 (fun k_ hk => .inl (.inl hk)))
 have HO0_9 := Aside0.mk (show Kd.V k48 48 w w.heap.size (fun k_ => ((P0_8_ k_ ∨ P0_9_ k_) ∨ w.heap.size ≤ k_)) (.slice A0_9 l0_9.length c0_9) l0_9 from Kd.V_mono hs0_9 (fun k_ hk => .inl (.inr hk)))
 have HB := Aside0.mk (Below.refl w.heap.size w)
 have H : ((lessorref03_Right.f k a0_0 a0_1 a0_2 a0_3 a0_4 a0_5 a0_6 a0_7 l0_8 l0_9).bind fun t281 => (if t281 = true then (lessorref26_Strip.j0 k (a0_0 != 2) a0_0 a0_1 a0_2 a0_3 a0_4 a0_5 a0_6 a0_7 l0_8 l0_9) else (lessorref26_Strip.j0 k true a0_0 a0_1 a0_2 a0_3 a0_4 a0_5 a0_6 a0_7 l0_8 l0_9))) = some (r1, r2, r3, r4, r5, r6, r7, r8, r9, r10, r11, r12) := h
 clear h
 replace H := Option.bind_eq_some_iff.mp H
 obtain ⟨t281, A20, H⟩ := H
 replace H : (if t281 = true then (lessorref26_Strip.j0 k (a0_0 != 2) a0_0 a0_1 a0_2 a0_3 a0_4 a0_5 a0_6 a0_7 l0_8 l0_9) else (lessorref26_Strip.j0 k true a0_0 a0_1 a0_2 a0_3 a0_4 a0_5 a0_6 a0_7 l0_8 l0_9)) = some (r1, r2, r3, r4, r5, r6, r7, r8, r9, r10, r11, r12) := H
 have A2 := Aside0.mk A20
 clear A20
 have HC3 := Aside0.mk H
 clear H
 go_enter Try.func22, Try.ntmps22
 go_upto_region 2 with (first | ((with_reducible refine gate_dst (N := 1) rfl ?_); refine box_event ?hg_1 (N := 1) ?hd_1 (cs := #[.int .i64 a0_0, .int .u32 a0_1, .int .i64 a0_2, .int .i64 a0_3, .int .u32 a0_4, .int .u32 a0_5, .int .u32 a0_6, .int .u32 a0_7, .slice A0_8 l0_8.length c0_8, .slice A0_9 l0_9.length c0_9]) (t := 28) ?hr_1 ?_; (case hd_1 => rfl); (case hg_1 => rfl); (case hr_1 => first | (go_simp; done) | (go_simp; rfl)); intro gb279 hg w4 hbox hb; have n0_ := Aside0.mk (Kd.V_below (Kd.V_elderB (by (with_reducible repeat (first | apply Kd.V_alloc | apply Kd.V_drewN | apply Kd.V_drew)); exact HO0_8.out) gb279 (Nat.le_of_eq hg.symm)) hb); have n1_ := Aside0.mk (Kd.V_below (Kd.V_elderB (by (with_reducible repeat (first | apply Kd.V_alloc | apply Kd.V_drewN | apply Kd.V_drew)); exact HO0_9.out) gb279 (Nat.le_of_eq hg.symm)) hb); have n2_ := Aside0.mk (below_step (by repeat (first | (with_reducible first | exact HB.out | apply below_alloc | apply pw_below_drewN | apply below_drew1) | exact HB.out)) hb); have n3_ := Aside0.mk (hbox); have n4_ := Aside0.mk ((by rw [hg]; exact (below_size (by repeat (first | (with_reducible first | exact HB.out | apply below_alloc | apply pw_below_drewN | apply below_drew1) | exact HB.out))) : w.heap.size ≤ gb279)); have n5_ := Aside0.mk ((by rw [hg]; exact (below_size (by repeat (first | (with_reducible first | exact HB.out | apply below_alloc | apply pw_below_drewN | apply below_drew1) | exact HB.out))) : w.heap.size ≤ gb279)); clear HO0_8; clear HO0_9; clear HB; have HO0_8 := n0_; have HO0_9 := n1_; have HB := n2_; have BK279 := n3_; have GW279 := n4_; have GE279 := n5_; clear n0_ n1_ n2_ n3_ n4_ n5_; clear hb hbox hg) | ((with_reducible refine gate_dst (N := 2) rfl ?_); refine box_event ?hg_2 (N := 2) ?hd_2 (cs := #[.int .i64 0, .int .u32 0, .int .i64 0, .int .i64 0, .int .u32 0, .int .u32 0, .int .u32 0, .int .u32 0, .slice none 0 0, .slice none 0 0]) (t := 28) ?hr_2 ?_; (case hd_2 => rfl); (case hg_2 => rfl); (case hr_2 => first | (go_simp; done) | (go_simp; rfl)); intro gb280 hg w5 hbox hb; have n0_ := Aside0.mk (Kd.V_below (Kd.V_elderB (by (with_reducible repeat (first | apply Kd.V_alloc | apply Kd.V_drewN | apply Kd.V_drew)); exact HO0_8.out) gb280 (Nat.le_of_eq hg.symm)) hb); have n1_ := Aside0.mk (Kd.V_below (Kd.V_elderB (by (with_reducible repeat (first | apply Kd.V_alloc | apply Kd.V_drewN | apply Kd.V_drew)); exact HO0_9.out) gb280 (Nat.le_of_eq hg.symm)) hb); have n2_ := Aside0.mk (blk_below (g := gb279) (o := .cells #[.int .i64 a0_0, .int .u32 a0_1, .int .i64 a0_2, .int .i64 a0_3, .int .u32 a0_4, .int .u32 a0_5, .int .u32 a0_6, .int .u32 a0_7, .slice A0_8 l0_8.length c0_8, .slice A0_9 l0_9.length c0_9] 28 (0, 0)) (by (with_reducible repeat (first | refine blk_drewN ?_ _ | refine blk_drew ?_ | refine blk_alloc ?_ _)); exact BK279.out) hb); have n3_ := Aside0.mk (below_step (by repeat (first | (with_reducible first | exact HB.out | apply below_alloc | apply pw_below_drewN | apply below_drew1 | refine below_set ?_ GE279.out) | exact HB.out)) hb); have n4_ := Aside0.mk (hbox); have n5_ := Aside0.mk ((by rw [hg]; exact (below_size (by repeat (first | (with_reducible first | exact HB.out | apply below_alloc | apply pw_below_drewN | apply below_drew1 | refine below_set ?_ GE279.out) | exact HB.out))) : w.heap.size ≤ gb280)); have n6_ := Aside0.mk ((by rw [hg]; exact (below_size (by repeat (first | (with_reducible first | exact HB.out | apply below_alloc | apply pw_below_drewN | apply below_drew1 | refine below_set ?_ GE279.out) | exact HB.out))) : w.heap.size ≤ gb280)); have n7_ := Aside0.mk ((by rw [hg]; exact Nat.ne_of_lt (blk_lt (g := gb279) (o := .cells #[.int .i64 a0_0, .int .u32 a0_1, .int .i64 a0_2, .int .i64 a0_3, .int .u32 a0_4, .int .u32 a0_5, .int .u32 a0_6, .int .u32 a0_7, .slice A0_8 l0_8.length c0_8, .slice A0_9 l0_9.length c0_9] 28 (0, 0)) (by (with_reducible repeat (first | refine blk_drewN ?_ _ | refine blk_drew ?_ | refine blk_alloc ?_ _)); exact BK279.out)) : gb279 ≠ gb280)); have n8_ := Aside0.mk ((by rw [hg]; exact Nat.ne_of_gt (blk_lt (g := gb279) (o := .cells #[.int .i64 a0_0, .int .u32 a0_1, .int .i64 a0_2, .int .i64 a0_3, .int .u32 a0_4, .int .u32 a0_5, .int .u32 a0_6, .int .u32 a0_7, .slice A0_8 l0_8.length c0_8, .slice A0_9 l0_9.length c0_9] 28 (0, 0)) (by (with_reducible repeat (first | refine blk_drewN ?_ _ | refine blk_drew ?_ | refine blk_alloc ?_ _)); exact BK279.out)) : gb280 ≠ gb279)); clear HO0_8; clear HO0_9; clear BK279; clear HB; have HO0_8 := n0_; have HO0_9 := n1_; have BK279 := n2_; have HB := n3_; have BK280 := n4_; have GW280 := n5_; have GE280 := n6_; have NB279_280 := n7_; have NB280_279 := n8_; clear n0_ n1_ n2_ n3_ n4_ n5_ n6_ n7_ n8_; clear hb hbox hg; have hnb6 := NB279_280.out; have hnc6 := NB280_279.out; have hcz7_0 : w5.cell? ⟨gb279, 0, none⟩ = some (.int .i64 a0_0) := (blk_cell BK279.out 0).trans rfl; have hcz7_1 : w5.cell? ⟨gb279, 1, none⟩ = some (.int .u32 a0_1) := (blk_cell BK279.out 1).trans rfl; have hcz7_2 : w5.cell? ⟨gb279, 2, none⟩ = some (.int .i64 a0_2) := (blk_cell BK279.out 2).trans rfl; have hcz7_3 : w5.cell? ⟨gb279, 3, none⟩ = some (.int .i64 a0_3) := (blk_cell BK279.out 3).trans rfl; have hcz7_4 : w5.cell? ⟨gb279, 4, none⟩ = some (.int .u32 a0_4) := (blk_cell BK279.out 4).trans rfl; have hcz7_5 : w5.cell? ⟨gb279, 5, none⟩ = some (.int .u32 a0_5) := (blk_cell BK279.out 5).trans rfl; have hcz7_6 : w5.cell? ⟨gb279, 6, none⟩ = some (.int .u32 a0_6) := (blk_cell BK279.out 6).trans rfl; have hcz7_7 : w5.cell? ⟨gb279, 7, none⟩ = some (.int .u32 a0_7) := (blk_cell BK279.out 7).trans rfl; have hcz7_8 : w5.cell? ⟨gb279, 8, none⟩ = some (.slice A0_8 l0_8.length c0_8) := (blk_cell BK279.out 8).trans rfl; have hcz7_9 : w5.cell? ⟨gb279, 9, none⟩ = some (.slice A0_9 l0_9.length c0_9) := (blk_cell BK279.out 9).trans rfl; have hfz7_0 := blk_frozen BK279.out 0; have hfz7_1 := blk_frozen BK279.out 1; have hfz7_2 := blk_frozen BK279.out 2; have hfz7_3 := blk_frozen BK279.out 3; have hfz7_4 := blk_frozen BK279.out 4; have hfz7_5 := blk_frozen BK279.out 5; have hfz7_6 := blk_frozen BK279.out 6; have hfz7_7 := blk_frozen BK279.out 7; have hfz7_8 := blk_frozen BK279.out 8; have hfz7_9 := blk_frozen BK279.out 9) | ((with_reducible refine gate_callee (f := 32) rfl ?_); refine goesL_ (some 13) rfl rfl Try.func32 (by kernel_rfl) rfl #[.agg #[.int .i64 a0_0, .int .u32 a0_1, .int .i64 a0_2, .int .i64 a0_3, .int .u32 a0_4, .int .u32 a0_5, .int .u32 a0_6, .int .u32 a0_7, .slice A0_8 l0_8.length c0_8, .slice A0_9 l0_9.length c0_9]] rfl (by (try simp only [List.map_toArray, List.map_cons, List.map_nil]); first | done | rfl | (simp only [List.length_drop, List.length_take]; rfl)) ?_; (with_reducible refine (lessorref03_Right.calls k a0_0 a0_1 a0_2 a0_3 a0_4 a0_5 a0_6 a0_7 _ _ l0_8 _ _ l0_9 t281 _ ?side1_3 ?side2_3 ?side3_3 ?side4_3 A2.out).mono ?_); (case side1_3 => repeat (first | exact (Kd.V_reads' HO0_8.out).2.2 | (with_reducible refine Kd.C_alloc ?_ _) | (with_reducible refine Kd.C_drewN ?_ _) | (with_reducible refine Kd.C_drew ?_))); (case side2_3 => exact (Kd.V_reads' HO0_8.out).2.1); (case side3_3 => repeat (first | exact (Kd.V_reads' HO0_9.out).2.2 | (with_reducible refine Kd.C_alloc ?_ _) | (with_reducible refine Kd.C_drewN ?_ _) | (with_reducible refine Kd.C_drew ?_))); (case side4_3 => exact (Kd.V_reads' HO0_9.out).2.1); rintro e w8 ⟨rfl, hb⟩; refine ⟨_, rfl, ?_⟩; have n0_ := Aside0.mk (Kd.V_below (by (with_reducible repeat (first | apply Kd.V_alloc | apply Kd.V_drewN | apply Kd.V_drew)); exact HO0_8.out) hb); have n1_ := Aside0.mk (Kd.V_below (by (with_reducible repeat (first | apply Kd.V_alloc | apply Kd.V_drewN | apply Kd.V_drew)); exact HO0_9.out) hb); have n2_ := Aside0.mk (blk_below (g := gb279) (o := .cells #[.int .i64 a0_0, .int .u32 a0_1, .int .i64 a0_2, .int .i64 a0_3, .int .u32 a0_4, .int .u32 a0_5, .int .u32 a0_6, .int .u32 a0_7, .slice A0_8 l0_8.length c0_8, .slice A0_9 l0_9.length c0_9] 28 (0, 0)) (by (with_reducible repeat (first | refine blk_drewN ?_ _ | refine blk_drew ?_ | refine blk_alloc ?_ _)); exact BK279.out) hb); have n3_ := Aside0.mk (blk_below (g := gb280) (o := .cells #[.int .i64 0, .int .u32 0, .int .i64 0, .int .i64 0, .int .u32 0, .int .u32 0, .int .u32 0, .int .u32 0, .slice none 0 0, .slice none 0 0] 28 (0, 0)) (by (with_reducible repeat (first | refine blk_drewN ?_ _ | refine blk_drew ?_ | refine blk_alloc ?_ _)); exact BK280.out) hb); have n4_ := Aside0.mk (below_step (by repeat (first | (with_reducible first | exact HB.out | apply below_alloc | apply pw_below_drewN | apply below_drew1 | refine below_set ?_ GE279.out | refine below_set ?_ GE280.out) | exact HB.out)) hb); clear HO0_8; clear HO0_9; clear BK279; clear BK280; clear HB; have HO0_8 := n0_; have HO0_9 := n1_; have BK279 := n2_; have BK280 := n3_; have HB := n4_; clear n0_ n1_ n2_ n3_ n4_; (try clear hb); (try clear hb2); (try clear hk); (try clear hi)))
 (try simp only [Act.put, List.setIfInBounds_toArray, List.set_cons_zero, List.set_cons_succ])
 go_cut [20] (fun v20 wc => ∃ (kq : Nat) (x20_2 : Bool), v20 = .bool x20_2 ∧ Aside0 (lessorref26_Strip.j0 kq x20_2 a0_0 a0_1 a0_2 a0_3 a0_4 a0_5 a0_6 a0_7 l0_8 l0_9 = some (r1, r2, r3, r4, r5, r6, r7, r8, r9, r10, r11, r12)) ∧ Aside0 (kq ≤ k) ∧ Aside0 (Kd.V (Kd.int .u8) 5 wc w.heap.size (fun k_ => ((P0_8_ k_ ∨ P0_9_ k_) ∨ w.heap.size ≤ k_) ∧ k_ ≠ gb279 ∧ k_ ≠ gb280) (.slice A0_8 l0_8.length c0_8) l0_8) ∧ Aside0 (Kd.V k48 48 wc w.heap.size (fun k_ => ((P0_8_ k_ ∨ P0_9_ k_) ∨ w.heap.size ≤ k_) ∧ k_ ≠ gb279 ∧ k_ ≠ gb280) (.slice A0_9 l0_9.length c0_9) l0_9) ∧ Aside0 (wc.heap[gb279]? = some (.cells #[.int .i64 a0_0, .int .u32 a0_1, .int .i64 a0_2, .int .i64 a0_3, .int .u32 a0_4, .int .u32 a0_5, .int .u32 a0_6, .int .u32 a0_7, (.slice A0_8 l0_8.length c0_8), (.slice A0_9 l0_9.length c0_9)] 28 (0, 0))) ∧ Aside0 (wc.heap[gb280]? = some (.cells #[.int .i64 0, .int .u32 0, .int .i64 0, .int .i64 0, .int .u32 0, .int .u32 0, .int .u32 0, .int .u32 0, (.slice none 0 0), (.slice none 0 0)] 28 (0, 0))) ∧ Aside0 (Below w.heap.size w wc))
 case first =>
  have H := HC3.out
  clear HC3
  by_cases c9 : t281 = true
  ·subst c9
   have H1 : (lessorref26_Strip.j0 k (a0_0 != 2) a0_0 a0_1 a0_2 a0_3 a0_4 a0_5 a0_6 a0_7 l0_8 l0_9) = some (r1, r2, r3, r4, r5, r6, r7, r8, r9, r10, r11, r12) := by rw [if_pos rfl] at H; exact H
   clear H
   have H := H1
   clear H1
   have H' := Aside0.mk H
   clear H
   have hnb10 := NB279_280.out
   have hnc10 := NB280_279.out
   have hcz11_0 : w8.cell? ⟨gb279, 0, none⟩ = some (.int .i64 a0_0) := (blk_cell BK279.out 0).trans rfl
   have hcz11_1 : w8.cell? ⟨gb279, 1, none⟩ = some (.int .u32 a0_1) := (blk_cell BK279.out 1).trans rfl
   have hcz11_2 : w8.cell? ⟨gb279, 2, none⟩ = some (.int .i64 a0_2) := (blk_cell BK279.out 2).trans rfl
   have hcz11_3 : w8.cell? ⟨gb279, 3, none⟩ = some (.int .i64 a0_3) := (blk_cell BK279.out 3).trans rfl
   have hcz11_4 : w8.cell? ⟨gb279, 4, none⟩ = some (.int .u32 a0_4) := (blk_cell BK279.out 4).trans rfl
   have hcz11_5 : w8.cell? ⟨gb279, 5, none⟩ = some (.int .u32 a0_5) := (blk_cell BK279.out 5).trans rfl
   have hcz11_6 : w8.cell? ⟨gb279, 6, none⟩ = some (.int .u32 a0_6) := (blk_cell BK279.out 6).trans rfl
   have hcz11_7 : w8.cell? ⟨gb279, 7, none⟩ = some (.int .u32 a0_7) := (blk_cell BK279.out 7).trans rfl
   have hcz11_8 : w8.cell? ⟨gb279, 8, none⟩ = some (.slice A0_8 l0_8.length c0_8) := (blk_cell BK279.out 8).trans rfl
   have hcz11_9 : w8.cell? ⟨gb279, 9, none⟩ = some (.slice A0_9 l0_9.length c0_9) := (blk_cell BK279.out 9).trans rfl
   have hfz11_0 := blk_frozen BK279.out 0
   have hfz11_1 := blk_frozen BK279.out 1
   have hfz11_2 := blk_frozen BK279.out 2
   have hfz11_3 := blk_frozen BK279.out 3
   have hfz11_4 := blk_frozen BK279.out 4
   have hfz11_5 := blk_frozen BK279.out 5
   have hfz11_6 := blk_frozen BK279.out 6
   have hfz11_7 := blk_frozen BK279.out 7
   have hfz11_8 := blk_frozen BK279.out 8
   have hfz11_9 := blk_frozen BK279.out 9
   go_wp2
   go_meet
   case rel => exact ⟨_, ((a0_0 != 2)), (by first | rfl | (simp; done) | (simp [*]; done)), H', ⟨by first | omega | exact Nat.le_refl _⟩, ⟨by (with_reducible repeat (first | apply Kd.V_alloc | apply Kd.V_drewN | apply Kd.V_drew)); exact Kd.V_mono HO0_8.out (fun _ hk => ⟨hk.1.1, ⟨hk.1.2, hk.2⟩⟩)⟩, ⟨by (with_reducible repeat (first | apply Kd.V_alloc | apply Kd.V_drewN | apply Kd.V_drew)); exact Kd.V_mono HO0_9.out (fun _ hk => ⟨hk.1.1, ⟨hk.1.2, hk.2⟩⟩)⟩, ⟨by (with_reducible repeat (first | refine blk_drewN ?_ _ | refine blk_drew ?_ | refine blk_alloc ?_ _)); exact BK279.out⟩, ⟨by (with_reducible repeat (first | refine blk_drewN ?_ _ | refine blk_drew ?_ | refine blk_alloc ?_ _)); exact BK280.out⟩, ⟨by repeat (first | (with_reducible first | exact HB.out | apply below_alloc | apply pw_below_drewN | apply below_drew1 | refine below_set ?_ GE279.out | refine below_set ?_ GE280.out) | exact HB.out)⟩⟩
  ·replace c9 := Bool.eq_false_iff.mpr c9
   subst c9
   have H1 : (lessorref26_Strip.j0 k true a0_0 a0_1 a0_2 a0_3 a0_4 a0_5 a0_6 a0_7 l0_8 l0_9) = some (r1, r2, r3, r4, r5, r6, r7, r8, r9, r10, r11, r12) := by rw [if_neg (show ¬ (false = true) by decide)] at H; exact H
   clear H
   have H := H1
   clear H1
   have H' := Aside0.mk H
   clear H
   go_wp2
   go_meet
   case rel => exact ⟨_, (true), (by first | rfl | (simp; done) | (simp [*]; done)), H', ⟨by first | omega | exact Nat.le_refl _⟩, ⟨by (with_reducible repeat (first | apply Kd.V_alloc | apply Kd.V_drewN | apply Kd.V_drew)); exact Kd.V_mono HO0_8.out (fun _ hk => ⟨hk.1.1, ⟨hk.1.2, hk.2⟩⟩)⟩, ⟨by (with_reducible repeat (first | apply Kd.V_alloc | apply Kd.V_drewN | apply Kd.V_drew)); exact Kd.V_mono HO0_9.out (fun _ hk => ⟨hk.1.1, ⟨hk.1.2, hk.2⟩⟩)⟩, ⟨by (with_reducible repeat (first | refine blk_drewN ?_ _ | refine blk_drew ?_ | refine blk_alloc ?_ _)); exact BK279.out⟩, ⟨by (with_reducible repeat (first | refine blk_drewN ?_ _ | refine blk_drew ?_ | refine blk_alloc ?_ _)); exact BK280.out⟩, ⟨by repeat (first | (with_reducible first | exact HB.out | apply below_alloc | apply pw_below_drewN | apply below_drew1 | refine below_set ?_ GE279.out | refine below_set ?_ GE280.out) | exact HB.out)⟩⟩
 case rest =>
  clear HC3
  try clear c1
  try clear c2
  try clear p2
  try clear c3
  try clear c6
  try clear c9
  try clear c10
  try clear hcz11_0
  try clear hcz11_1
  try clear hcz11_2
  try clear hcz11_3
  try clear hcz11_4
  try clear hcz11_5
  try clear hcz11_6
  try clear hcz11_7
  try clear hcz11_8
  try clear hcz11_9
  try clear hcz7_0
  try clear hcz7_1
  try clear hcz7_2
  try clear hcz7_3
  try clear hcz7_4
  try clear hcz7_5
  try clear hcz7_6
  try clear hcz7_7
  try clear hcz7_8
  try clear hcz7_9
  try clear hfz11_0
  try clear hfz11_1
  try clear hfz11_2
  try clear hfz11_3
  try clear hfz11_4
  try clear hfz11_5
  try clear hfz11_6
  try clear hfz11_7
  try clear hfz11_8
  try clear hfz11_9
  try clear hfz7_0
  try clear hfz7_1
  try clear hfz7_2
  try clear hfz7_3
  try clear hfz7_4
  try clear hfz7_5
  try clear hfz7_6
  try clear hfz7_7
  try clear hfz7_8
  try clear hfz7_9
  obtain ⟨kq, x20_2, rfl, HA, HJ2, HO_280008, HO_280009, BK279, BK280, HB⟩ := hcut
  cases kq with
  | zero => exact absurd HA.out (by simp [lessorref26_Strip.j0])
  | succ kj2 =>
   have H := HA.out
   clear HA
   simp only [lessorref26_Strip.j0] at H
   by_cases c12 : x20_2 = true
   ·subst c12
    have H1 : (some (0, 0, 0, 0, 0, 0, 0, 0, ([] : List Int), ([] : List (S48)), ([] : List (S48)), 1)) = some (r1, r2, r3, r4, r5, r6, r7, r8, r9, r10, r11, r12) := by rw [if_pos rfl] at H; exact H
    clear H
    have H := H1
    clear H1
    simp only [Option.some.injEq, Prod.mk.injEq] at H
    obtain ⟨rfl, rfl, rfl, rfl, rfl, rfl, rfl, rfl, rfl, rfl, rfl, rfl⟩ := H
    have hnb13 := NB280_279.out
    have hnc13 := NB279_280.out
    have hcz14_0 : wc.cell? ⟨gb280, 0, none⟩ = some (.int .i64 0) := (blk_cell BK280.out 0).trans rfl
    have hcz14_1 : wc.cell? ⟨gb280, 1, none⟩ = some (.int .u32 0) := (blk_cell BK280.out 1).trans rfl
    have hcz14_2 : wc.cell? ⟨gb280, 2, none⟩ = some (.int .i64 0) := (blk_cell BK280.out 2).trans rfl
    have hcz14_3 : wc.cell? ⟨gb280, 3, none⟩ = some (.int .i64 0) := (blk_cell BK280.out 3).trans rfl
    have hcz14_4 : wc.cell? ⟨gb280, 4, none⟩ = some (.int .u32 0) := (blk_cell BK280.out 4).trans rfl
    have hcz14_5 : wc.cell? ⟨gb280, 5, none⟩ = some (.int .u32 0) := (blk_cell BK280.out 5).trans rfl
    have hcz14_6 : wc.cell? ⟨gb280, 6, none⟩ = some (.int .u32 0) := (blk_cell BK280.out 6).trans rfl
    have hcz14_7 : wc.cell? ⟨gb280, 7, none⟩ = some (.int .u32 0) := (blk_cell BK280.out 7).trans rfl
    have hcz14_8 : wc.cell? ⟨gb280, 8, none⟩ = some (.slice none 0 0) := (blk_cell BK280.out 8).trans rfl
    have hcz14_9 : wc.cell? ⟨gb280, 9, none⟩ = some (.slice none 0 0) := (blk_cell BK280.out 9).trans rfl
    have hfz14_0 := blk_frozen BK280.out 0
    have hfz14_1 := blk_frozen BK280.out 1
    have hfz14_2 := blk_frozen BK280.out 2
    have hfz14_3 := blk_frozen BK280.out 3
    have hfz14_4 := blk_frozen BK280.out 4
    have hfz14_5 := blk_frozen BK280.out 5
    have hfz14_6 := blk_frozen BK280.out 6
    have hfz14_7 := blk_frozen BK280.out 7
    have hfz14_8 := blk_frozen BK280.out 8
    have hfz14_9 := blk_frozen BK280.out 9
    go_wp2
    refine bodyPost_ret (results_ctt rfl _ _ gb280 28 #[.int .i64 0, .int .u32 0, .int .i64 0, .int .i64 0, .int .u32 0, .int .u32 0, .int .u32 0, .int .u32 0, .slice none 0 0, .slice none 0 0] (0, 0) _ rfl (by (with_reducible repeat (first | refine blk_drewN ?_ _ | refine blk_drew ?_ | refine blk_alloc ?_ _)); refine blk_put (cs := #[.int .i64 0, .int .u32 0, .int .i64 0, .int .i64 0, .int .u32 0, .int .u32 0, .int .u32 0, .int .u32 0, .slice none 0 0, .slice none 0 0]) ?_ 9 _ rfl; (with_reducible repeat (first | refine blk_drewN ?_ _ | refine blk_drew ?_ | refine blk_alloc ?_ _)); refine blk_put (cs := #[.int .i64 0, .int .u32 0, .int .i64 0, .int .i64 0, .int .u32 0, .int .u32 0, .int .u32 0, .int .u32 0, .slice none 0 0, .slice none 0 0]) ?_ 8 _ rfl; (with_reducible repeat (first | refine blk_drewN ?_ _ | refine blk_drew ?_ | refine blk_alloc ?_ _)); refine blk_put (cs := #[.int .i64 0, .int .u32 0, .int .i64 0, .int .i64 0, .int .u32 0, .int .u32 0, .int .u32 0, .int .u32 0, .slice none 0 0, .slice none 0 0]) ?_ 7 _ rfl; (with_reducible repeat (first | refine blk_drewN ?_ _ | refine blk_drew ?_ | refine blk_alloc ?_ _)); refine blk_put (cs := #[.int .i64 0, .int .u32 0, .int .i64 0, .int .i64 0, .int .u32 0, .int .u32 0, .int .u32 0, .int .u32 0, .slice none 0 0, .slice none 0 0]) ?_ 6 _ rfl; (with_reducible repeat (first | refine blk_drewN ?_ _ | refine blk_drew ?_ | refine blk_alloc ?_ _)); refine blk_put (cs := #[.int .i64 0, .int .u32 0, .int .i64 0, .int .i64 0, .int .u32 0, .int .u32 0, .int .u32 0, .int .u32 0, .slice none 0 0, .slice none 0 0]) ?_ 5 _ rfl; (with_reducible repeat (first | refine blk_drewN ?_ _ | refine blk_drew ?_ | refine blk_alloc ?_ _)); refine blk_put (cs := #[.int .i64 0, .int .u32 0, .int .i64 0, .int .i64 0, .int .u32 0, .int .u32 0, .int .u32 0, .int .u32 0, .slice none 0 0, .slice none 0 0]) ?_ 4 _ rfl; (with_reducible repeat (first | refine blk_drewN ?_ _ | refine blk_drew ?_ | refine blk_alloc ?_ _)); refine blk_put (cs := #[.int .i64 0, .int .u32 0, .int .i64 0, .int .i64 0, .int .u32 0, .int .u32 0, .int .u32 0, .int .u32 0, .slice none 0 0, .slice none 0 0]) ?_ 3 _ rfl; (with_reducible repeat (first | refine blk_drewN ?_ _ | refine blk_drew ?_ | refine blk_alloc ?_ _)); refine blk_put (cs := #[.int .i64 0, .int .u32 0, .int .i64 0, .int .i64 0, .int .u32 0, .int .u32 0, .int .u32 0, .int .u32 0, .slice none 0 0, .slice none 0 0]) ?_ 2 _ rfl; (with_reducible repeat (first | refine blk_drewN ?_ _ | refine blk_drew ?_ | refine blk_alloc ?_ _)); refine blk_put (cs := #[.int .i64 0, .int .u32 0, .int .i64 0, .int .i64 0, .int .u32 0, .int .u32 0, .int .u32 0, .int .u32 0, .slice none 0 0, .slice none 0 0]) ?_ 1 _ rfl; (with_reducible repeat (first | refine blk_drewN ?_ _ | refine blk_drew ?_ | refine blk_alloc ?_ _)); refine blk_put (cs := #[.int .i64 0, .int .u32 0, .int .i64 0, .int .i64 0, .int .u32 0, .int .u32 0, .int .u32 0, .int .u32 0, .slice none 0 0, .slice none 0 0]) ?_ 0 _ rfl; (with_reducible repeat (first | refine blk_drewN ?_ _ | refine blk_drew ?_ | refine blk_alloc ?_ _)); exact BK280.out) Try.underlying28 rfl (by kernel_rfl)) rfl ?_
    exact ⟨_, _, _, by first | rfl | (simp [errW_none, errW_some] <;> rfl) | (simp [*, errW_none, errW_some] <;> rfl), (by first | exact Kd.V_nil _ _ _ _ _ | exact Kd.V_mono (Kd.R_V (by first | exact Kd.R_nil _ _ _ _ _ | exact Kd.N_nil _ _ _ _ _ | exact Kd.V_nil _ _ _ _ _ | exact Kd.Q_nil _ _ _ _ _ | exact Kd.S_nil _ _ _ _ _)) (fun k_ hk => by first | exact ⟨(.inr (hk.1)), hk.2⟩ | exact (.inr (hk)))), by first | exact Kd.S_nil _ _ _ _ _ | exact Kd.N_nil _ _ _ _ _ | exact Kd.V_nil _ _ _ _ _ | exact Kd.Q_nil _ _ _ _ _ | exact Kd.R_nil _ _ _ _ _, by first | exact Kd.S_nil _ _ _ _ _ | exact Kd.N_nil _ _ _ _ _ | exact Kd.V_nil _ _ _ _ _ | exact Kd.Q_nil _ _ _ _ _ | exact Kd.R_nil _ _ _ _ _, by repeat (first | (with_reducible first | exact HB.out | apply below_alloc | apply pw_below_drewN | apply below_drew1 | refine below_set ?_ GE279.out | refine below_set ?_ GE280.out) | exact HB.out)⟩
   ·replace c12 := Bool.eq_false_iff.mpr c12
    subst c12
    have H1 : ((lessorref02_Find.f kj2 l0_9 82).bind fun bt282 => (if bt282.2 = true then ((lessorref26_Decode.f kj2 bt282.1).bind fun bt286 => (if bt286.2 = 0 then (lessorref26_Strip.l0 kj2 bt286.1 ([] : List (S48)) 0 a0_0 a0_1 a0_2 a0_3 a0_4 a0_5 a0_6 a0_7 l0_8 l0_9) else (some (0, 0, 0, 0, 0, 0, 0, 0, ([] : List Int), ([] : List (S48)), ([] : List (S48)), 2)))) else (some (0, 0, 0, 0, 0, 0, 0, 0, ([] : List Int), ([] : List (S48)), ([] : List (S48)), 4)))) = some (r1, r2, r3, r4, r5, r6, r7, r8, r9, r10, r11, r12) := by rw [if_neg (show ¬ (false = true) by decide)] at H; exact H
    clear H
    have H := H1
    clear H1
    replace H := Option.bind_eq_some_iff.mp H
    obtain ⟨⟨t282, t285⟩, A150, H⟩ := H
    replace H : (if t285 = true then ((lessorref26_Decode.f kj2 t282).bind fun bt286 => (if bt286.2 = 0 then (lessorref26_Strip.l0 kj2 bt286.1 ([] : List (S48)) 0 a0_0 a0_1 a0_2 a0_3 a0_4 a0_5 a0_6 a0_7 l0_8 l0_9) else (some (0, 0, 0, 0, 0, 0, 0, 0, ([] : List Int), ([] : List (S48)), ([] : List (S48)), 2)))) else (some (0, 0, 0, 0, 0, 0, 0, 0, ([] : List Int), ([] : List (S48)), ([] : List (S48)), 4))) = some (r1, r2, r3, r4, r5, r6, r7, r8, r9, r10, r11, r12) := H
    have A15 := Aside0.mk A150
    clear A150
    by_cases c16 : t285 = true
    ·subst c16
     have H1 : ((lessorref26_Decode.f kj2 t282).bind fun bt286 => (if bt286.2 = 0 then (lessorref26_Strip.l0 kj2 bt286.1 ([] : List (S48)) 0 a0_0 a0_1 a0_2 a0_3 a0_4 a0_5 a0_6 a0_7 l0_8 l0_9) else (some (0, 0, 0, 0, 0, 0, 0, 0, ([] : List Int), ([] : List (S48)), ([] : List (S48)), 2)))) = some (r1, r2, r3, r4, r5, r6, r7, r8, r9, r10, r11, r12) := by rw [if_pos rfl] at H; exact H
     clear H
     have H := H1
     clear H1
     replace H := Option.bind_eq_some_iff.mp H
     obtain ⟨⟨t286, t287⟩, A170, H⟩ := H
     replace H : (if t287 = 0 then (lessorref26_Strip.l0 kj2 t286 ([] : List (S48)) 0 a0_0 a0_1 a0_2 a0_3 a0_4 a0_5 a0_6 a0_7 l0_8 l0_9) else (some (0, 0, 0, 0, 0, 0, 0, 0, ([] : List Int), ([] : List (S48)), ([] : List (S48)), 2))) = some (r1, r2, r3, r4, r5, r6, r7, r8, r9, r10, r11, r12) := H
     have A17 := Aside0.mk A170
     clear A170
     by_cases c18 : t287 = 0
     ·rw [if_pos c18] at H
      have c18b0 : (t287 == 0) = true := beq_iff_eq.mpr c18
      have c18b1 : (t287 != 0) = false := bne_eq_false_iff_eq.mpr c18
      clear c18
      have H' := Aside0.mk H
      clear H
      have hnb19 := NB279_280.out
      have hnc19 := NB280_279.out
      have hcz20_0 : wc.cell? ⟨gb279, 0, none⟩ = some (.int .i64 a0_0) := (blk_cell BK279.out 0).trans rfl
      have hcz20_1 : wc.cell? ⟨gb279, 1, none⟩ = some (.int .u32 a0_1) := (blk_cell BK279.out 1).trans rfl
      have hcz20_2 : wc.cell? ⟨gb279, 2, none⟩ = some (.int .i64 a0_2) := (blk_cell BK279.out 2).trans rfl
      have hcz20_3 : wc.cell? ⟨gb279, 3, none⟩ = some (.int .i64 a0_3) := (blk_cell BK279.out 3).trans rfl
      have hcz20_4 : wc.cell? ⟨gb279, 4, none⟩ = some (.int .u32 a0_4) := (blk_cell BK279.out 4).trans rfl
      have hcz20_5 : wc.cell? ⟨gb279, 5, none⟩ = some (.int .u32 a0_5) := (blk_cell BK279.out 5).trans rfl
      have hcz20_6 : wc.cell? ⟨gb279, 6, none⟩ = some (.int .u32 a0_6) := (blk_cell BK279.out 6).trans rfl
      have hcz20_7 : wc.cell? ⟨gb279, 7, none⟩ = some (.int .u32 a0_7) := (blk_cell BK279.out 7).trans rfl
      have hcz20_8 : wc.cell? ⟨gb279, 8, none⟩ = some (.slice A0_8 l0_8.length c0_8) := (blk_cell BK279.out 8).trans rfl
      have hcz20_9 : wc.cell? ⟨gb279, 9, none⟩ = some (.slice A0_9 l0_9.length c0_9) := (blk_cell BK279.out 9).trans rfl
      have hfz20_0 := blk_frozen BK279.out 0
      have hfz20_1 := blk_frozen BK279.out 1
      have hfz20_2 := blk_frozen BK279.out 2
      have hfz20_3 := blk_frozen BK279.out 3
      have hfz20_4 := blk_frozen BK279.out 4
      have hfz20_5 := blk_frozen BK279.out 5
      have hfz20_6 := blk_frozen BK279.out 6
      have hfz20_7 := blk_frozen BK279.out 7
      have hfz20_8 := blk_frozen BK279.out 8
      have hfz20_9 := blk_frozen BK279.out 9
      go_wp2_with (first | ((with_reducible refine gate_callee (f := 33) rfl ?_); refine goesL_ (some 25) rfl rfl Try.func33 (by kernel_rfl) rfl #[.slice A0_9 l0_9.length c0_9, .int .i64 82] rfl (by (try simp only [List.map_toArray, List.map_cons, List.map_nil]); first | done | rfl | (simp only [List.length_drop, List.length_take]; rfl)) ?_; (with_reducible refine (lessorref02_Find.calls kj2 (fun k_ => (((P0_8_ k_ ∨ P0_9_ k_) ∨ w.heap.size ≤ k_) ∧ (k_ ≠ gb279 ∧ k_ ≠ gb280))) _ _ l0_9 82 t282 true _ ?side1_4 A15.out).mono ?_); (case side1_4 => exact HO_280009.out); rintro e w21 ⟨v283, rfl, ho0, hb⟩; refine ⟨_, rfl, ?_⟩; have n0_ := Aside0.mk (Kd.V_below (by (with_reducible repeat (first | apply Kd.V_alloc | apply Kd.V_drewN | apply Kd.V_drew)); exact HO_280008.out) hb); have n1_ := Aside0.mk (Kd.V_below (by (with_reducible repeat (first | apply Kd.V_alloc | apply Kd.V_drewN | apply Kd.V_drew)); exact HO_280009.out) hb); have n2_ := Aside0.mk (Kd.V_lower (Kd.V_mono (ok' := fun k_ => ((P0_8_ k_ ∨ P0_9_ k_) ∨ w.heap.size ≤ k_) ∧ k_ ≠ gb279 ∧ k_ ≠ gb280) ho0 (fun k_ hk_ => ⟨Or.elim hk_ (fun hs_ => hs_.1) (fun hn_ => (.inr (Nat.le_trans (below_size (by repeat (first | (with_reducible first | exact HB.out | apply below_alloc | apply pw_below_drewN | apply below_drew1 | refine below_set ?_ GE279.out | refine below_set ?_ GE280.out) | exact HB.out))) hn_))), Or.elim hk_ (fun hs_ => hs_.2.1) (fun hn_ => (Kd.freshB (g := gb279) (o := .cells #[.int .i64 a0_0, .int .u32 a0_1, .int .i64 a0_2, .int .i64 a0_3, .int .u32 a0_4, .int .u32 a0_5, .int .u32 a0_6, .int .u32 a0_7, .slice A0_8 l0_8.length c0_8, .slice A0_9 l0_9.length c0_9] 28 (0, 0)) (by (with_reducible repeat (first | refine blk_drewN ?_ _ | refine blk_drew ?_ | refine blk_alloc ?_ _)); exact BK279.out) k_ hn_)), Or.elim hk_ (fun hs_ => hs_.2.2) (fun hn_ => (Kd.freshB (g := gb280) (o := .cells #[.int .i64 0, .int .u32 0, .int .i64 0, .int .i64 0, .int .u32 0, .int .u32 0, .int .u32 0, .int .u32 0, .slice none 0 0, .slice none 0 0] 28 (0, 0)) (by (with_reducible repeat (first | refine blk_drewN ?_ _ | refine blk_drew ?_ | refine blk_alloc ?_ _)); exact BK280.out) k_ hn_))⟩)) (below_size (by repeat (first | (with_reducible first | exact HB.out | apply below_alloc | apply pw_below_drewN | apply below_drew1 | refine below_set ?_ GE279.out | refine below_set ?_ GE280.out) | exact HB.out)))); have n3_ := Aside0.mk (blk_below (g := gb279) (o := .cells #[.int .i64 a0_0, .int .u32 a0_1, .int .i64 a0_2, .int .i64 a0_3, .int .u32 a0_4, .int .u32 a0_5, .int .u32 a0_6, .int .u32 a0_7, .slice A0_8 l0_8.length c0_8, .slice A0_9 l0_9.length c0_9] 28 (0, 0)) (by (with_reducible repeat (first | refine blk_drewN ?_ _ | refine blk_drew ?_ | refine blk_alloc ?_ _)); exact BK279.out) hb); have n4_ := Aside0.mk (blk_below (g := gb280) (o := .cells #[.int .i64 0, .int .u32 0, .int .i64 0, .int .i64 0, .int .u32 0, .int .u32 0, .int .u32 0, .int .u32 0, .slice none 0 0, .slice none 0 0] 28 (0, 0)) (by (with_reducible repeat (first | refine blk_drewN ?_ _ | refine blk_drew ?_ | refine blk_alloc ?_ _)); exact BK280.out) hb); have n5_ := Aside0.mk (below_step (by repeat (first | (with_reducible first | exact HB.out | apply below_alloc | apply pw_below_drewN | apply below_drew1 | refine below_set ?_ GE279.out | refine below_set ?_ GE280.out) | exact HB.out)) hb); clear HO_280008; clear HO_280009; clear BK279; clear BK280; clear HB; have HO_280008 := n0_; have HO_280009 := n1_; have HO284 := n2_; have BK279 := n3_; have BK280 := n4_; have HB := n5_; clear n0_ n1_ n2_ n3_ n4_ n5_; (try clear hb); (try clear hb2); (try clear hk); (try clear hi); (try clear ho0); obtain ⟨Ao22, co22, eo22⟩ := Kd.V_slice HO284.out; subst eo22) | ((with_reducible refine gate_callee (f := 16) rfl ?_); refine goesL_ (some 33) rfl rfl Try.func16 (by kernel_rfl) rfl #[.slice Ao22 t282.length co22] rfl (by (try simp only [List.map_toArray, List.map_cons, List.map_nil]); first | done | rfl | (simp only [List.length_drop, List.length_take]; rfl)) ?_; (with_reducible refine (lessorref26_Decode.calls kj2 _ _ t282 t286 t287 _ ?side1_5 ?side2_5 A17.out).mono ?_); (case side1_5 => repeat (first | exact (Kd.V_reads' HO284.out).2.2 | (with_reducible refine Kd.C_alloc ?_ _) | (with_reducible refine Kd.C_drewN ?_ _) | (with_reducible refine Kd.C_drew ?_))); (case side2_5 => exact (Kd.V_reads' HO284.out).2.1); rintro e w23 ⟨v288, rfl, ho0, hb⟩; refine ⟨_, rfl, ?_⟩; have n0_ := Aside0.mk (Kd.V_elder' (by (with_reducible repeat (first | apply Kd.V_alloc | apply Kd.V_drewN | apply Kd.V_drew)); exact HO_280008.out) (by first | exact Kd.N_base ho0 | exact Kd.N_base (Kd.S_N ho0)) hb); have n1_ := Aside0.mk (Kd.V_elder' (by (with_reducible repeat (first | apply Kd.V_alloc | apply Kd.V_drewN | apply Kd.V_drew)); exact HO_280009.out) (by first | exact Kd.N_base ho0 | exact Kd.N_base (Kd.S_N ho0)) hb); have n2_ := Aside0.mk (Kd.V_elder' (by (with_reducible repeat (first | apply Kd.V_alloc | apply Kd.V_drewN | apply Kd.V_drew)); exact HO284.out) (by first | exact Kd.N_base ho0 | exact Kd.N_base (Kd.S_N ho0)) hb); have n3_ := Aside0.mk (Kd.N_lower (Kd.N_mono (ok' := fun k_ => ((P0_8_ k_ ∨ P0_9_ k_) ∨ w.heap.size ≤ k_) ∧ k_ ≠ gb279 ∧ k_ ≠ gb280) (Kd.S_N (Kd.S_bound ho0)) (fun k_ hk_ => ⟨(.inr (Nat.le_trans (below_size (by repeat (first | (with_reducible first | exact HB.out | apply below_alloc | apply pw_below_drewN | apply below_drew1 | refine below_set ?_ GE279.out | refine below_set ?_ GE280.out) | exact HB.out))) hk_.2.1)), (Kd.freshB (g := gb279) (o := .cells #[.int .i64 a0_0, .int .u32 a0_1, .int .i64 a0_2, .int .i64 a0_3, .int .u32 a0_4, .int .u32 a0_5, .int .u32 a0_6, .int .u32 a0_7, .slice A0_8 l0_8.length c0_8, .slice A0_9 l0_9.length c0_9] 28 (0, 0)) (by (with_reducible repeat (first | refine blk_drewN ?_ _ | refine blk_drew ?_ | refine blk_alloc ?_ _)); exact BK279.out) k_ hk_.2.1), (Kd.freshB (g := gb280) (o := .cells #[.int .i64 0, .int .u32 0, .int .i64 0, .int .i64 0, .int .u32 0, .int .u32 0, .int .u32 0, .int .u32 0, .slice none 0 0, .slice none 0 0] 28 (0, 0)) (by (with_reducible repeat (first | refine blk_drewN ?_ _ | refine blk_drew ?_ | refine blk_alloc ?_ _)); exact BK280.out) k_ hk_.2.1)⟩)) (below_size (by repeat (first | (with_reducible first | exact HB.out | apply below_alloc | apply pw_below_drewN | apply below_drew1 | refine below_set ?_ GE279.out | refine below_set ?_ GE280.out) | exact HB.out)))); have n4_ := Aside0.mk (blk_below (g := gb279) (o := .cells #[.int .i64 a0_0, .int .u32 a0_1, .int .i64 a0_2, .int .i64 a0_3, .int .u32 a0_4, .int .u32 a0_5, .int .u32 a0_6, .int .u32 a0_7, .slice A0_8 l0_8.length c0_8, .slice A0_9 l0_9.length c0_9] 28 (0, 0)) (by (with_reducible repeat (first | refine blk_drewN ?_ _ | refine blk_drew ?_ | refine blk_alloc ?_ _)); exact BK279.out) hb); have n5_ := Aside0.mk (blk_below (g := gb280) (o := .cells #[.int .i64 0, .int .u32 0, .int .i64 0, .int .i64 0, .int .u32 0, .int .u32 0, .int .u32 0, .int .u32 0, .slice none 0 0, .slice none 0 0] 28 (0, 0)) (by (with_reducible repeat (first | refine blk_drewN ?_ _ | refine blk_drew ?_ | refine blk_alloc ?_ _)); exact BK280.out) hb); have n6_ := Aside0.mk (below_step (by repeat (first | (with_reducible first | exact HB.out | apply below_alloc | apply pw_below_drewN | apply below_drew1 | refine below_set ?_ GE279.out | refine below_set ?_ GE280.out) | exact HB.out)) hb); clear HO_280008; clear HO_280009; clear HO284; clear BK279; clear BK280; clear HB; have HO_280008 := n0_; have HO_280009 := n1_; have HO284 := n2_; have HO289 := n3_; have BK279 := n4_; have BK280 := n5_; have HB := n6_; clear n0_ n1_ n2_ n3_ n4_ n5_ n6_; (try clear hb); (try clear hb2); (try clear hk); (try clear hi); (try clear ho0)))
      go_loopg [10, 11] kj2 (fun kq v10 v11 w' => ∃ (x10_2 : List (S48)) (x11_2 : Int), v11 = .int .i64 x11_2 ∧ Aside0 (lessorref26_Strip.l0 kq t286 x10_2 x11_2 a0_0 a0_1 a0_2 a0_3 a0_4 a0_5 a0_6 a0_7 l0_8 l0_9 = some (r1, r2, r3, r4, r5, r6, r7, r8, r9, r10, r11, r12)) ∧ Aside0 (kq ≤ kj2) ∧ Aside0 (Kd.N k48 48 w' w.heap.size (fun k_ => ((P0_8_ k_ ∨ P0_9_ k_) ∨ w.heap.size ≤ k_) ∧ some k_ ≠ (v10 : Value).ownBlock ∧ k_ ≠ gb279 ∧ k_ ≠ gb280) v288 t286) ∧ Aside0 (Kd.N k48 48 w' w.heap.size (fun k_ => ((P0_8_ k_ ∨ P0_9_ k_) ∨ w.heap.size ≤ k_) ∧ some k_ ≠ (v288 : Value).ownBlock ∧ k_ ≠ gb279 ∧ k_ ≠ gb280) v10 x10_2) ∧ Aside0 (Kd.V (Kd.int .u8) 5 w' w.heap.size (fun k_ => ((P0_8_ k_ ∨ P0_9_ k_) ∨ w.heap.size ≤ k_) ∧ some k_ ≠ (v288 : Value).ownBlock ∧ some k_ ≠ (v10 : Value).ownBlock ∧ k_ ≠ gb279 ∧ k_ ≠ gb280) (.slice A0_8 l0_8.length c0_8) l0_8) ∧ Aside0 (Kd.V k48 48 w' w.heap.size (fun k_ => ((P0_8_ k_ ∨ P0_9_ k_) ∨ w.heap.size ≤ k_) ∧ some k_ ≠ (v288 : Value).ownBlock ∧ some k_ ≠ (v10 : Value).ownBlock ∧ k_ ≠ gb279 ∧ k_ ≠ gb280) (.slice A0_9 l0_9.length c0_9) l0_9) ∧ Aside0 (w'.heap[gb279]? = some (.cells #[.int .i64 a0_0, .int .u32 a0_1, .int .i64 a0_2, .int .i64 a0_3, .int .u32 a0_4, .int .u32 a0_5, .int .u32 a0_6, .int .u32 a0_7, (.slice A0_8 l0_8.length c0_8), (.slice A0_9 l0_9.length c0_9)] 28 (0, 0))) ∧ Aside0 (w'.heap[gb280]? = some (.cells #[.int .i64 0, .int .u32 0, .int .i64 0, .int .i64 0, .int .u32 0, .int .u32 0, .int .u32 0, .int .u32 0, (.slice none 0 0), (.slice none 0 0)] 28 (0, 0))) ∧ Aside0 (Below w.heap.size w w'))
      case atStart => exact ⟨(([] : List (S48))), (0), (by first | rfl | (simp; done) | (simp [*]; done)), H', ⟨Nat.le_refl _⟩, ⟨by (with_reducible repeat (first | apply Kd.N_alloc | apply Kd.N_drewN | apply Kd.N_drew)); exact Kd.N_mono HO289.out (fun _ hk => ⟨hk.1, ⟨(by simp [Value.ownBlock]), ⟨hk.2.1, hk.2.2⟩⟩⟩)⟩, ⟨by first | exact Kd.S_nil _ _ _ _ _ | exact Kd.N_nil _ _ _ _ _ | exact Kd.V_nil _ _ _ _ _ | exact Kd.Q_nil _ _ _ _ _ | exact Kd.R_nil _ _ _ _ _⟩, ⟨by (with_reducible repeat (first | apply Kd.V_alloc | apply Kd.V_drewN | apply Kd.V_drew)); exact Kd.V_mono HO_280008.out (fun _ hk => ⟨hk.1.1, ⟨hk.2, ⟨(by simp [Value.ownBlock]), ⟨hk.1.2.1, hk.1.2.2⟩⟩⟩⟩)⟩, ⟨by (with_reducible repeat (first | apply Kd.V_alloc | apply Kd.V_drewN | apply Kd.V_drew)); exact Kd.V_mono HO_280009.out (fun _ hk => ⟨hk.1.1, ⟨hk.2, ⟨(by simp [Value.ownBlock]), ⟨hk.1.2.1, hk.1.2.2⟩⟩⟩⟩)⟩, ⟨by (with_reducible repeat (first | refine blk_drewN ?_ _ | refine blk_drew ?_ | refine blk_alloc ?_ _)); exact BK279.out⟩, ⟨by (with_reducible repeat (first | refine blk_drewN ?_ _ | refine blk_drew ?_ | refine blk_alloc ?_ _)); exact BK280.out⟩, ⟨by repeat (first | (with_reducible first | exact HB.out | apply below_alloc | apply pw_below_drewN | apply below_drew1 | refine below_set ?_ GE279.out | refine below_set ?_ GE280.out) | exact HB.out)⟩⟩
      case round =>
       clear H'
       try clear c1
       try clear c2
       try clear p2
       try clear c3
       try clear c6
       try clear c9
       try clear c10
       try clear c12
       try clear c13
       try clear c16
       try clear c18
       try clear c18b0
       try clear c18b1
       try clear c19
       try clear c22
       try clear hcz11_0
       try clear hcz11_1
       try clear hcz11_2
       try clear hcz11_3
       try clear hcz11_4
       try clear hcz11_5
       try clear hcz11_6
       try clear hcz11_7
       try clear hcz11_8
       try clear hcz11_9
       try clear hcz14_0
       try clear hcz14_1
       try clear hcz14_2
       try clear hcz14_3
       try clear hcz14_4
       try clear hcz14_5
       try clear hcz14_6
       try clear hcz14_7
       try clear hcz14_8
       try clear hcz14_9
       try clear hcz20_0
       try clear hcz20_1
       try clear hcz20_2
       try clear hcz20_3
       try clear hcz20_4
       try clear hcz20_5
       try clear hcz20_6
       try clear hcz20_7
       try clear hcz20_8
       try clear hcz20_9
       try clear hcz7_0
       try clear hcz7_1
       try clear hcz7_2
       try clear hcz7_3
       try clear hcz7_4
       try clear hcz7_5
       try clear hcz7_6
       try clear hcz7_7
       try clear hcz7_8
       try clear hcz7_9
       try clear hfz11_0
       try clear hfz11_1
       try clear hfz11_2
       try clear hfz11_3
       try clear hfz11_4
       try clear hfz11_5
       try clear hfz11_6
       try clear hfz11_7
       try clear hfz11_8
       try clear hfz11_9
       try clear hfz14_0
       try clear hfz14_1
       try clear hfz14_2
       try clear hfz14_3
       try clear hfz14_4
       try clear hfz14_5
       try clear hfz14_6
       try clear hfz14_7
       try clear hfz14_8
       try clear hfz14_9
       try clear hfz20_0
       try clear hfz20_1
       try clear hfz20_2
       try clear hfz20_3
       try clear hfz20_4
       try clear hfz20_5
       try clear hfz20_6
       try clear hfz20_7
       try clear hfz20_8
       try clear hfz20_9
       try clear hfz7_0
       try clear hfz7_1
       try clear hfz7_2
       try clear hfz7_3
       try clear hfz7_4
       try clear hfz7_5
       try clear hfz7_6
       try clear hfz7_7
       try clear hfz7_8
       try clear hfz7_9
       try clear p2
       obtain ⟨x10_2, x11_2, rfl, HA, HK2, HO_8, HO_10, HO_280008, HO_280009, BK279, BK280, HB⟩ := hrel
       cases gk with
       | zero => exact absurd HA.out (by simp [lessorref26_Strip.l0])
       | succ k2 =>
        have H := HA.out
        clear HA
        simp only [lessorref26_Strip.l0] at H
        by_cases c24 : x11_2 < (l0_9.length : Int)
        ·rw [if_pos c24] at H
         have c24b0 : decide (x11_2 < (l0_9.length : Int)) = true := decide_eq_true c24
         clear c24
         by_cases c25 : 0 ≤ x11_2
         ·rw [if_pos c25] at H
          have c25b0 : decide (0 ≤ x11_2) = true := decide_eq_true c25
          clear c25
          by_cases c26 : ((rd_T48 l0_9 x11_2).f0) = 82
          ·rw [if_pos c26] at H
           have c26b0 : (((rd_T48 l0_9 x11_2).f0) == 82) = true := beq_iff_eq.mpr c26
           have c26b1 : (((rd_T48 l0_9 x11_2).f0) != 82) = false := bne_eq_false_iff_eq.mpr c26
           clear c26
           have H' := Aside0.mk H
           clear H
           have hnb27 := NB279_280.out
           have hnc27 := NB280_279.out
           have hcz28_0 : wr.cell? ⟨gb279, 0, none⟩ = some (.int .i64 a0_0) := (blk_cell BK279.out 0).trans rfl
           have hcz28_1 : wr.cell? ⟨gb279, 1, none⟩ = some (.int .u32 a0_1) := (blk_cell BK279.out 1).trans rfl
           have hcz28_2 : wr.cell? ⟨gb279, 2, none⟩ = some (.int .i64 a0_2) := (blk_cell BK279.out 2).trans rfl
           have hcz28_3 : wr.cell? ⟨gb279, 3, none⟩ = some (.int .i64 a0_3) := (blk_cell BK279.out 3).trans rfl
           have hcz28_4 : wr.cell? ⟨gb279, 4, none⟩ = some (.int .u32 a0_4) := (blk_cell BK279.out 4).trans rfl
           have hcz28_5 : wr.cell? ⟨gb279, 5, none⟩ = some (.int .u32 a0_5) := (blk_cell BK279.out 5).trans rfl
           have hcz28_6 : wr.cell? ⟨gb279, 6, none⟩ = some (.int .u32 a0_6) := (blk_cell BK279.out 6).trans rfl
           have hcz28_7 : wr.cell? ⟨gb279, 7, none⟩ = some (.int .u32 a0_7) := (blk_cell BK279.out 7).trans rfl
           have hcz28_8 : wr.cell? ⟨gb279, 8, none⟩ = some (.slice A0_8 l0_8.length c0_8) := (blk_cell BK279.out 8).trans rfl
           have hcz28_9 : wr.cell? ⟨gb279, 9, none⟩ = some (.slice A0_9 l0_9.length c0_9) := (blk_cell BK279.out 9).trans rfl
           have hfz28_0 := blk_frozen BK279.out 0
           have hfz28_1 := blk_frozen BK279.out 1
           have hfz28_2 := blk_frozen BK279.out 2
           have hfz28_3 := blk_frozen BK279.out 3
           have hfz28_4 := blk_frozen BK279.out 4
           have hfz28_5 := blk_frozen BK279.out 5
           have hfz28_6 := blk_frozen BK279.out 6
           have hfz28_7 := blk_frozen BK279.out 7
           have hfz28_8 := blk_frozen BK279.out 8
           have hfz28_9 := blk_frozen BK279.out 9
           have p290 : 0 ≤ (x11_2 : Int) := of_decide_eq_true (by first | (with_reducible assumption) | assumption)
           have q290 : x11_2 < (l0_9.length : Int) := of_decide_eq_true (by first | (with_reducible assumption) | assumption)
           obtain ⟨ad290, A290_1, c290_1, e290, hx290_0, hx290_1, hl290_1, hi290_1⟩ := at_T48 (Kd.V_reads' HO_280009.out).2.2 x11_2 p290 q290
           cases e290
           obtain ⟨ce290, hce290, hMe290, hcc290⟩ := Kd.V_get HO_280009.out z48 x11_2 p290 (by first | exact q290 | exact of_decide_eq_true (by first | (with_reducible assumption) | assumption) | (have e_ := (Kd.V_reads' HO_280009.out).1; omega))
           obtain ⟨ua290_1, uc290_1, rfl, ul290_1, ge290_1⟩ := k48_openF hMe290
           have hv290_1 := hcc290 1 _ rfl
           rw [add_field _ _ 1 (by omega)] at hv290_1
           replace hv290_1 := Option.some.inj (hv290_1.symm.trans hx290_1)
           injection hv290_1 with hva_ hvn_ hvc_
           rw [hva_] at ge290_1
           rw [hvc_] at ul290_1
           have HL290_1 := Aside0.mk (show Kd.V (Kd.int .u8) 5 _ w.heap.size _ _ ((rd_T48 l0_9 x11_2).f1) from Kd.V_mk ul290_1 ge290_1)
           clear hva_ hvn_ hvc_ ge290_1 ul290_1
           clear hcc290 hce290
           have HR290_1 := Aside0.mk hi290_1
           have HC290_1 := Aside0.mk hl290_1
           clear hi290_1 hl290_1
           replace p290 := eq_true p290
           replace q290 := eq_true q290
           go_wp2
           go_roundg k2
           case measure => have := HJ2.out; have := HK2.out; omega
           case rel => exact ⟨(x10_2), (wrap64 (x11_2 + 1)), (by first | rfl | (simp; done) | (simp [*]; done)), H', ⟨by have := HJ2.out; have := HK2.out; omega⟩, ⟨by (with_reducible repeat (first | apply Kd.N_alloc | apply Kd.N_drewN | apply Kd.N_drew)); exact HO_8.out⟩, ⟨by (with_reducible repeat (first | apply Kd.N_alloc | apply Kd.N_drewN | apply Kd.N_drew)); exact HO_10.out⟩, ⟨by (with_reducible repeat (first | apply Kd.V_alloc | apply Kd.V_drewN | apply Kd.V_drew)); exact HO_280008.out⟩, ⟨by (with_reducible repeat (first | apply Kd.V_alloc | apply Kd.V_drewN | apply Kd.V_drew)); exact HO_280009.out⟩, ⟨by (with_reducible repeat (first | refine blk_drewN ?_ _ | refine blk_drew ?_ | refine blk_alloc ?_ _)); exact BK279.out⟩, ⟨by (with_reducible repeat (first | refine blk_drewN ?_ _ | refine blk_drew ?_ | refine blk_alloc ?_ _)); exact BK280.out⟩, ⟨by repeat (first | (with_reducible first | exact HB.out | apply below_alloc | apply pw_below_drewN | apply below_drew1 | refine below_set ?_ GE279.out | refine below_set ?_ GE280.out) | exact HB.out)⟩⟩
          ·rw [if_neg c26] at H
           have c26b0 : (((rd_T48 l0_9 x11_2).f0) == 82) = false := beq_eq_false_iff_ne.mpr c26
           have c26b1 : (((rd_T48 l0_9 x11_2).f0) != 82) = true := bne_iff_ne.mpr c26
           by_cases c29 : x10_2.length < 4398046511104
           ·rw [if_pos c29] at H
            have LMc29 := Aside0.mk c29
            clear c29
            obtain ⟨y292, hy292⟩ : ∃ y_ : List (S48), y_ = (x10_2 ++ [(⟨(rd_T48 l0_9 x11_2).f0, (rd_T48 l0_9 x11_2).f1⟩ : S48)]) := ⟨_, rfl⟩
            replace H : (lessorref26_Strip.l0 k2 t286 y292 (wrap64 (x11_2 + 1)) a0_0 a0_1 a0_2 a0_3 a0_4 a0_5 a0_6 a0_7 l0_8 l0_9) = some (r1, r2, r3, r4, r5, r6, r7, r8, r9, r10, r11, r12) := by first | (rw [hy292]; with_reducible exact H) | (have H2_ := (Option.bind_some _ _).symm.trans H; rw [hy292]; with_reducible exact H2_) | (have H2_ := (Option.bind_some _ _).symm.trans H; with_reducible exact H2_) | with_reducible exact H | (rw [hy292]; exact H) | exact H
            have Ny292 := Aside0.mk hy292
            clear hy292
            have H' := Aside0.mk H
            clear H
            have hnb30 := NB279_280.out
            have hnc30 := NB280_279.out
            have hcz31_0 : wr.cell? ⟨gb279, 0, none⟩ = some (.int .i64 a0_0) := (blk_cell BK279.out 0).trans rfl
            have hcz31_1 : wr.cell? ⟨gb279, 1, none⟩ = some (.int .u32 a0_1) := (blk_cell BK279.out 1).trans rfl
            have hcz31_2 : wr.cell? ⟨gb279, 2, none⟩ = some (.int .i64 a0_2) := (blk_cell BK279.out 2).trans rfl
            have hcz31_3 : wr.cell? ⟨gb279, 3, none⟩ = some (.int .i64 a0_3) := (blk_cell BK279.out 3).trans rfl
            have hcz31_4 : wr.cell? ⟨gb279, 4, none⟩ = some (.int .u32 a0_4) := (blk_cell BK279.out 4).trans rfl
            have hcz31_5 : wr.cell? ⟨gb279, 5, none⟩ = some (.int .u32 a0_5) := (blk_cell BK279.out 5).trans rfl
            have hcz31_6 : wr.cell? ⟨gb279, 6, none⟩ = some (.int .u32 a0_6) := (blk_cell BK279.out 6).trans rfl
            have hcz31_7 : wr.cell? ⟨gb279, 7, none⟩ = some (.int .u32 a0_7) := (blk_cell BK279.out 7).trans rfl
            have hcz31_8 : wr.cell? ⟨gb279, 8, none⟩ = some (.slice A0_8 l0_8.length c0_8) := (blk_cell BK279.out 8).trans rfl
            have hcz31_9 : wr.cell? ⟨gb279, 9, none⟩ = some (.slice A0_9 l0_9.length c0_9) := (blk_cell BK279.out 9).trans rfl
            have hfz31_0 := blk_frozen BK279.out 0
            have hfz31_1 := blk_frozen BK279.out 1
            have hfz31_2 := blk_frozen BK279.out 2
            have hfz31_3 := blk_frozen BK279.out 3
            have hfz31_4 := blk_frozen BK279.out 4
            have hfz31_5 := blk_frozen BK279.out 5
            have hfz31_6 := blk_frozen BK279.out 6
            have hfz31_7 := blk_frozen BK279.out 7
            have hfz31_8 := blk_frozen BK279.out 8
            have hfz31_9 := blk_frozen BK279.out 9
            have p290 : 0 ≤ (x11_2 : Int) := of_decide_eq_true (by first | (with_reducible assumption) | assumption)
            have q290 : x11_2 < (l0_9.length : Int) := of_decide_eq_true (by first | (with_reducible assumption) | assumption)
            obtain ⟨ad290, A290_1, c290_1, e290, hx290_0, hx290_1, hl290_1, hi290_1⟩ := at_T48 (Kd.V_reads' HO_280009.out).2.2 x11_2 p290 q290
            cases e290
            obtain ⟨ce290, hce290, hMe290, hcc290⟩ := Kd.V_get HO_280009.out z48 x11_2 p290 (by first | exact q290 | exact of_decide_eq_true (by first | (with_reducible assumption) | assumption) | (have e_ := (Kd.V_reads' HO_280009.out).1; omega))
            obtain ⟨ua290_1, uc290_1, rfl, ul290_1, ge290_1⟩ := k48_openF hMe290
            have hv290_1 := hcc290 1 _ rfl
            rw [add_field _ _ 1 (by omega)] at hv290_1
            replace hv290_1 := Option.some.inj (hv290_1.symm.trans hx290_1)
            injection hv290_1 with hva_ hvn_ hvc_
            rw [hva_] at ge290_1
            rw [hvc_] at ul290_1
            have HL290_1 := Aside0.mk (show Kd.V (Kd.int .u8) 5 _ w.heap.size _ _ ((rd_T48 l0_9 x11_2).f1) from Kd.V_mk ul290_1 ge290_1)
            clear hva_ hvn_ hvc_ ge290_1 ul290_1
            clear hcc290 hce290
            have HR290_1 := Aside0.mk hi290_1
            have HC290_1 := Aside0.mk hl290_1
            clear hi290_1 hl290_1
            replace p290 := eq_true p290
            replace q290 := eq_true q290
            have p291 : 0 ≤ (x11_2 : Int) := of_decide_eq_true (by first | (with_reducible assumption) | assumption)
            have q291 : x11_2 < (l0_9.length : Int) := of_decide_eq_true (by first | (with_reducible assumption) | assumption)
            obtain ⟨ad291, A291_1, c291_1, e291, hx291_0, hx291_1, hl291_1, hi291_1⟩ := at_T48 (Kd.V_reads' HO_280009.out).2.2 x11_2 p291 q291
            obtain rfl : ad290 = ad291 := (by injection e291)
            obtain ⟨ce291, hce291, hMe291, hcc291⟩ := Kd.V_get HO_280009.out z48 x11_2 p291 (by first | exact q291 | exact of_decide_eq_true (by first | (with_reducible assumption) | assumption) | (have e_ := (Kd.V_reads' HO_280009.out).1; omega))
            obtain ⟨ua291_1, uc291_1, rfl, ul291_1, ge291_1⟩ := k48_openF hMe291
            have hv291_1 := hcc291 1 _ rfl
            rw [add_field _ _ 1 (by omega)] at hv291_1
            replace hv291_1 := Option.some.inj (hv291_1.symm.trans hx291_1)
            injection hv291_1 with hva_ hvn_ hvc_
            rw [hva_] at ge291_1
            rw [hvc_] at ul291_1
            have HL291_1 := Aside0.mk (show Kd.V (Kd.int .u8) 5 _ w.heap.size _ _ ((rd_T48 l0_9 x11_2).f1) from Kd.V_mk ul291_1 ge291_1)
            clear hva_ hvn_ hvc_ ge291_1 ul291_1
            clear hcc291 hce291
            have HR291_1 := Aside0.mk hi291_1
            have HC291_1 := Aside0.mk hl291_1
            clear hi291_1 hl291_1
            replace p291 := eq_true p291
            replace q291 := eq_true q291
            have ea_ := Option.some.inj (hx290_1.symm.trans hx291_1)
            injection ea_ with ea_ en_ ec_
            subst ea_
            subst ec_
            clear en_
            go_wp2_with (first | ((with_reducible refine gate_builtin (b := .append) (xs := #[.tmp 53, .tmp 59]) rfl ?_); at_builtin; refine Kd.N_append k48 (w0 := w) w.heap.size rfl (.tmp 53) (.tmp 59) 26 48 (.agg #[(.int .i64 0), (.slice none 0 0)]) 32 rfl Try.underlying26 info48 rfl (by decide) (by omega) u10 x10_2 (⟨(rd_T48 l0_9 x11_2).f0, (rd_T48 l0_9 x11_2).f1⟩ : S48) [.int .i64 ((rd_T48 l0_9 x11_2).f0), .slice A290_1 ((rd_T48 l0_9 x11_2).f1).length c290_1] (fun k_ => ((P0_8_ k_ ∨ P0_9_ k_) ∨ w.heap.size ≤ k_) ∧ some k_ ≠ (v288 : Value).ownBlock ∧ k_ ≠ gb279 ∧ k_ ≠ gb280) (fun k_ => ((fun k_ => ((P0_8_ k_ ∨ P0_9_ k_) ∨ w.heap.size ≤ k_) ∧ some k_ ≠ (v288 : Value).ownBlock ∧ k_ ≠ gb279 ∧ k_ ≠ gb280)) k_ ∧ some k_ ≠ (u10 : Value).ownBlock) rfl rfl ?aP_6 (fun _ hk => hk) ?aF_6 ?aO_6 ?aB_6 ?aS_6 ?aL_6 ?_; (case aP_6 => exact (k48_mkF _ _ (⟨(rd_T48 l0_9 x11_2).f0, (rd_T48 l0_9 x11_2).f1⟩ : S48) (Kd.V_reads' (Kd.V_mono (ok' := (fun k_ => ((fun k_ => ((P0_8_ k_ ∨ P0_9_ k_) ∨ w.heap.size ≤ k_) ∧ some k_ ≠ (v288 : Value).ownBlock ∧ k_ ≠ gb279 ∧ k_ ≠ gb280)) k_ ∧ some k_ ≠ (u10 : Value).ownBlock)) (HL291_1.out) (fun k_ hk => ⟨⟨hk.1, ⟨hk.2.1, ⟨hk.2.2.2.1, hk.2.2.2.2⟩⟩⟩, hk.2.2.1⟩))).2.1 (Kd.V_F (Kd.V_mono (ok' := (fun k_ => ((fun k_ => ((P0_8_ k_ ∨ P0_9_ k_) ∨ w.heap.size ≤ k_) ∧ some k_ ≠ (v288 : Value).ownBlock ∧ k_ ≠ gb279 ∧ k_ ≠ gb280)) k_ ∧ some k_ ≠ (u10 : Value).ownBlock)) (HL291_1.out) (fun k_ hk => ⟨⟨hk.1, ⟨hk.2.1, ⟨hk.2.2.2.1, hk.2.2.2.2⟩⟩⟩, hk.2.2.1⟩))))); (case aB_6 => exact (by repeat (first | (with_reducible first | exact HB.out | apply below_alloc | apply pw_below_drewN | apply below_drew1 | refine below_set ?_ GE279.out | refine below_set ?_ GE280.out) | exact HB.out))); (case aF_6 => exact (fun k_ hk => ⟨(.inr (Nat.le_trans (below_size (by repeat (first | (with_reducible first | exact HB.out | apply below_alloc | apply pw_below_drewN | apply below_drew1 | refine below_set ?_ GE279.out | refine below_set ?_ GE280.out) | exact HB.out))) hk)), Kd.fresh' (Kd.N_lt (by (with_reducible repeat (first | apply Kd.N_alloc | apply Kd.N_drewN | apply Kd.N_drew)); exact HO_8.out)) k_ hk, Kd.freshB (g := gb279) (o := .cells #[.int .i64 a0_0, .int .u32 a0_1, .int .i64 a0_2, .int .i64 a0_3, .int .u32 a0_4, .int .u32 a0_5, .int .u32 a0_6, .int .u32 a0_7, .slice A0_8 l0_8.length c0_8, .slice (some ad290) l0_9.length c0_9] 28 (0, 0)) (by (with_reducible repeat (first | refine blk_drewN ?_ _ | refine blk_drew ?_ | refine blk_alloc ?_ _)); exact BK279.out) k_ hk, Kd.freshB (g := gb280) (o := .cells #[.int .i64 0, .int .u32 0, .int .i64 0, .int .i64 0, .int .u32 0, .int .u32 0, .int .u32 0, .int .u32 0, .slice none 0 0, .slice none 0 0] 28 (0, 0)) (by (with_reducible repeat (first | refine blk_drewN ?_ _ | refine blk_drew ?_ | refine blk_alloc ?_ _)); exact BK280.out) k_ hk⟩)); (case aO_6 => exact (by (with_reducible repeat (first | apply Kd.N_alloc | apply Kd.N_drewN | apply Kd.N_drew)); exact HO_10.out)); (case aS_6 => exact (below_size (by repeat (first | (with_reducible first | exact HB.out | apply below_alloc | apply pw_below_drewN | apply below_drew1 | refine below_set ?_ GE279.out | refine below_set ?_ GE280.out) | exact HB.out)))); (case aL_6 => have := LMc29.out; omega); intro v293 w32 ho hb hg hat; rw [← Ny292.out] at ho; have n0_ := Aside0.mk (Kd.N_afterv (ok := (fun k_ => ((P0_8_ k_ ∨ P0_9_ k_) ∨ w.heap.size ≤ k_) ∧ k_ ≠ gb279 ∧ k_ ≠ gb280)) (by (with_reducible repeat (first | apply Kd.N_alloc | apply Kd.N_drewN | apply Kd.N_drew)); exact Kd.N_mono HO_8.out (fun _ hk => ⟨⟨hk.1, ⟨hk.2.2.1, hk.2.2.2⟩⟩, hk.2.1⟩)) hg hat); have n1_ := Aside0.mk (Kd.V_afterv (ok := (fun k_ => ((P0_8_ k_ ∨ P0_9_ k_) ∨ w.heap.size ≤ k_) ∧ some k_ ≠ (v288 : Value).ownBlock ∧ k_ ≠ gb279 ∧ k_ ≠ gb280)) (by (with_reducible repeat (first | apply Kd.V_alloc | apply Kd.V_drewN | apply Kd.V_drew)); exact Kd.V_mono HO_280008.out (fun _ hk => ⟨⟨hk.1, ⟨hk.2.1, ⟨hk.2.2.2.1, hk.2.2.2.2⟩⟩⟩, hk.2.2.1⟩)) hg hat); have n2_ := Aside0.mk (Kd.V_afterv (ok := (fun k_ => ((P0_8_ k_ ∨ P0_9_ k_) ∨ w.heap.size ≤ k_) ∧ some k_ ≠ (v288 : Value).ownBlock ∧ k_ ≠ gb279 ∧ k_ ≠ gb280)) (by (with_reducible repeat (first | apply Kd.V_alloc | apply Kd.V_drewN | apply Kd.V_drew)); exact Kd.V_mono HO_280009.out (fun _ hk => ⟨⟨hk.1, ⟨hk.2.1, ⟨hk.2.2.2.1, hk.2.2.2.2⟩⟩⟩, hk.2.2.1⟩)) hg hat); have n3_ := Aside0.mk (blk_grown (g := gb279) (o := .cells #[.int .i64 a0_0, .int .u32 a0_1, .int .i64 a0_2, .int .i64 a0_3, .int .u32 a0_4, .int .u32 a0_5, .int .u32 a0_6, .int .u32 a0_7, .slice A0_8 l0_8.length c0_8, .slice (some ad290) l0_9.length c0_9] 28 (0, 0)) (by (with_reducible repeat (first | refine blk_drewN ?_ _ | refine blk_drew ?_ | refine blk_alloc ?_ _)); exact BK279.out) hg (Kd.N_ne HO_10.out BK279.out (by decide))); have n4_ := Aside0.mk (blk_grown (g := gb280) (o := .cells #[.int .i64 0, .int .u32 0, .int .i64 0, .int .i64 0, .int .u32 0, .int .u32 0, .int .u32 0, .int .u32 0, .slice none 0 0, .slice none 0 0] 28 (0, 0)) (by (with_reducible repeat (first | refine blk_drewN ?_ _ | refine blk_drew ?_ | refine blk_alloc ?_ _)); exact BK280.out) hg (Kd.N_ne HO_10.out BK280.out (by decide))); have n5_ := Aside0.mk (Kd.V_afterv (ok := (fun k_ => ((P0_8_ k_ ∨ P0_9_ k_) ∨ w.heap.size ≤ k_) ∧ some k_ ≠ (v288 : Value).ownBlock ∧ k_ ≠ gb279 ∧ k_ ≠ gb280)) (by (with_reducible repeat (first | apply Kd.V_alloc | apply Kd.V_drewN | apply Kd.V_drew)); exact Kd.V_mono HL290_1.out (fun _ hk => ⟨⟨hk.1, ⟨hk.2.1, ⟨hk.2.2.2.1, hk.2.2.2.2⟩⟩⟩, hk.2.2.1⟩)) hg hat); have n6_ := Aside0.mk (Kd.V_afterv (ok := (fun k_ => ((P0_8_ k_ ∨ P0_9_ k_) ∨ w.heap.size ≤ k_) ∧ some k_ ≠ (v288 : Value).ownBlock ∧ k_ ≠ gb279 ∧ k_ ≠ gb280)) (by (with_reducible repeat (first | apply Kd.V_alloc | apply Kd.V_drewN | apply Kd.V_drew)); exact Kd.V_mono HL291_1.out (fun _ hk => ⟨⟨hk.1, ⟨hk.2.1, ⟨hk.2.2.2.1, hk.2.2.2.2⟩⟩⟩, hk.2.2.1⟩)) hg hat); have n7_ := Aside0.mk (hb); have n8_ := Aside0.mk (ho); clear HO_8; clear HO_280008; clear HO_280009; clear BK279; clear BK280; clear HL290_1; clear HL291_1; clear HB; clear HO_10; have HO_8 := n0_; have HO_280008 := n1_; have HO_280009 := n2_; have BK279 := n3_; have BK280 := n4_; have HL290_1 := n5_; have HL291_1 := n6_; have HB := n7_; have HO294 := n8_; clear n0_ n1_ n2_ n3_ n4_ n5_ n6_ n7_ n8_; clear ho hb hg hat))
            go_roundg k2
            case measure => have := HJ2.out; have := HK2.out; omega
            case rel => exact ⟨(y292), (wrap64 (x11_2 + 1)), (by first | rfl | (simp; done) | (simp [*]; done)), H', ⟨by have := HJ2.out; have := HK2.out; omega⟩, ⟨by (with_reducible repeat (first | apply Kd.N_alloc | apply Kd.N_drewN | apply Kd.N_drew)); exact Kd.N_mono HO_8.out (fun _ hk => ⟨hk.1.1, ⟨hk.2, ⟨hk.1.2.1, hk.1.2.2⟩⟩⟩)⟩, ⟨by (with_reducible repeat (first | apply Kd.N_alloc | apply Kd.N_drewN | apply Kd.N_drew)); exact HO294.out⟩, ⟨by (with_reducible repeat (first | apply Kd.V_alloc | apply Kd.V_drewN | apply Kd.V_drew)); exact Kd.V_mono HO_280008.out (fun _ hk => ⟨hk.1.1, ⟨hk.1.2.1, ⟨hk.2, ⟨hk.1.2.2.1, hk.1.2.2.2⟩⟩⟩⟩)⟩, ⟨by (with_reducible repeat (first | apply Kd.V_alloc | apply Kd.V_drewN | apply Kd.V_drew)); exact Kd.V_mono HO_280009.out (fun _ hk => ⟨hk.1.1, ⟨hk.1.2.1, ⟨hk.2, ⟨hk.1.2.2.1, hk.1.2.2.2⟩⟩⟩⟩)⟩, ⟨by (with_reducible repeat (first | refine blk_drewN ?_ _ | refine blk_drew ?_ | refine blk_alloc ?_ _)); exact BK279.out⟩, ⟨by (with_reducible repeat (first | refine blk_drewN ?_ _ | refine blk_drew ?_ | refine blk_alloc ?_ _)); exact BK280.out⟩, ⟨by repeat (first | (with_reducible first | exact HB.out | apply below_alloc | apply pw_below_drewN | apply below_drew1 | refine below_set ?_ GE279.out | refine below_set ?_ GE280.out) | exact HB.out)⟩⟩
           ·rw [if_neg c29] at H
            exact absurd H (by simp)
         ·rw [if_neg c25] at H
          exact absurd H (by simp)
        ·rw [if_neg c24] at H
         have c24b0 : decide (x11_2 < (l0_9.length : Int)) = false := decide_eq_false c24
         clear c24
         simp only [Option.some.injEq, Prod.mk.injEq] at H
         obtain ⟨rfl, rfl, rfl, rfl, rfl, rfl, rfl, rfl, rfl, rfl, rfl, rfl⟩ := H
         have hnb33 := NB279_280.out
         have hnc33 := NB280_279.out
         have hcz34_0 : wr.cell? ⟨gb279, 0, none⟩ = some (.int .i64 a0_0) := (blk_cell BK279.out 0).trans rfl
         have hcz34_1 : wr.cell? ⟨gb279, 1, none⟩ = some (.int .u32 a0_1) := (blk_cell BK279.out 1).trans rfl
         have hcz34_2 : wr.cell? ⟨gb279, 2, none⟩ = some (.int .i64 a0_2) := (blk_cell BK279.out 2).trans rfl
         have hcz34_3 : wr.cell? ⟨gb279, 3, none⟩ = some (.int .i64 a0_3) := (blk_cell BK279.out 3).trans rfl
         have hcz34_4 : wr.cell? ⟨gb279, 4, none⟩ = some (.int .u32 a0_4) := (blk_cell BK279.out 4).trans rfl
         have hcz34_5 : wr.cell? ⟨gb279, 5, none⟩ = some (.int .u32 a0_5) := (blk_cell BK279.out 5).trans rfl
         have hcz34_6 : wr.cell? ⟨gb279, 6, none⟩ = some (.int .u32 a0_6) := (blk_cell BK279.out 6).trans rfl
         have hcz34_7 : wr.cell? ⟨gb279, 7, none⟩ = some (.int .u32 a0_7) := (blk_cell BK279.out 7).trans rfl
         have hcz34_8 : wr.cell? ⟨gb279, 8, none⟩ = some (.slice A0_8 l0_8.length c0_8) := (blk_cell BK279.out 8).trans rfl
         have hcz34_9 : wr.cell? ⟨gb279, 9, none⟩ = some (.slice A0_9 l0_9.length c0_9) := (blk_cell BK279.out 9).trans rfl
         have hfz34_0 := blk_frozen BK279.out 0
         have hfz34_1 := blk_frozen BK279.out 1
         have hfz34_2 := blk_frozen BK279.out 2
         have hfz34_3 := blk_frozen BK279.out 3
         have hfz34_4 := blk_frozen BK279.out 4
         have hfz34_5 := blk_frozen BK279.out 5
         have hfz34_6 := blk_frozen BK279.out 6
         have hfz34_7 := blk_frozen BK279.out 7
         have hfz34_8 := blk_frozen BK279.out 8
         have hfz34_9 := blk_frozen BK279.out 9
         obtain ⟨Ao35, co35, eo35⟩ := Kd.N_slice HO_10.out
         subst eo35
         have hcz36_0 : wr.cell? ⟨gb280, 0, none⟩ = some (.int .i64 0) := (blk_cell BK280.out 0).trans rfl
         have hcz36_1 : wr.cell? ⟨gb280, 1, none⟩ = some (.int .u32 0) := (blk_cell BK280.out 1).trans rfl
         have hcz36_2 : wr.cell? ⟨gb280, 2, none⟩ = some (.int .i64 0) := (blk_cell BK280.out 2).trans rfl
         have hcz36_3 : wr.cell? ⟨gb280, 3, none⟩ = some (.int .i64 0) := (blk_cell BK280.out 3).trans rfl
         have hcz36_4 : wr.cell? ⟨gb280, 4, none⟩ = some (.int .u32 0) := (blk_cell BK280.out 4).trans rfl
         have hcz36_5 : wr.cell? ⟨gb280, 5, none⟩ = some (.int .u32 0) := (blk_cell BK280.out 5).trans rfl
         have hcz36_6 : wr.cell? ⟨gb280, 6, none⟩ = some (.int .u32 0) := (blk_cell BK280.out 6).trans rfl
         have hcz36_7 : wr.cell? ⟨gb280, 7, none⟩ = some (.int .u32 0) := (blk_cell BK280.out 7).trans rfl
         have hcz36_8 : wr.cell? ⟨gb280, 8, none⟩ = some (.slice none 0 0) := (blk_cell BK280.out 8).trans rfl
         have hcz36_9 : wr.cell? ⟨gb280, 9, none⟩ = some (.slice none 0 0) := (blk_cell BK280.out 9).trans rfl
         have hfz36_0 := blk_frozen BK280.out 0
         have hfz36_1 := blk_frozen BK280.out 1
         have hfz36_2 := blk_frozen BK280.out 2
         have hfz36_3 := blk_frozen BK280.out 3
         have hfz36_4 := blk_frozen BK280.out 4
         have hfz36_5 := blk_frozen BK280.out 5
         have hfz36_6 := blk_frozen BK280.out 6
         have hfz36_7 := blk_frozen BK280.out 7
         have hfz36_8 := blk_frozen BK280.out 8
         have hfz36_9 := blk_frozen BK280.out 9
         go_wp2
         refine bodyPost_ret (results_ctt rfl _ _ gb280 28 #[.int .i64 a0_0, .int .u32 a0_1, .int .i64 a0_2, .int .i64 a0_3, .int .u32 a0_4, .int .u32 a0_5, .int .u32 a0_6, .int .u32 0, .slice A0_8 l0_8.length c0_8, .slice Ao35 x10_2.length co35] (0, 0) _ rfl (by (with_reducible repeat (first | refine blk_drewN ?_ _ | refine blk_drew ?_ | refine blk_alloc ?_ _)); refine blk_put (cs := #[.int .i64 a0_0, .int .u32 a0_1, .int .i64 a0_2, .int .i64 a0_3, .int .u32 a0_4, .int .u32 a0_5, .int .u32 a0_6, .int .u32 0, .slice A0_8 l0_8.length c0_8, .slice none 0 0]) ?_ 9 _ rfl; (with_reducible repeat (first | refine blk_drewN ?_ _ | refine blk_drew ?_ | refine blk_alloc ?_ _)); refine blk_put (cs := #[.int .i64 a0_0, .int .u32 a0_1, .int .i64 a0_2, .int .i64 a0_3, .int .u32 a0_4, .int .u32 a0_5, .int .u32 a0_6, .int .u32 0, .slice none 0 0, .slice none 0 0]) ?_ 8 _ rfl; (with_reducible repeat (first | refine blk_drewN ?_ _ | refine blk_drew ?_ | refine blk_alloc ?_ _)); refine blk_put (cs := #[.int .i64 a0_0, .int .u32 a0_1, .int .i64 a0_2, .int .i64 a0_3, .int .u32 a0_4, .int .u32 a0_5, .int .u32 a0_6, .int .u32 0, .slice none 0 0, .slice none 0 0]) ?_ 7 _ rfl; (with_reducible repeat (first | refine blk_drewN ?_ _ | refine blk_drew ?_ | refine blk_alloc ?_ _)); refine blk_put (cs := #[.int .i64 a0_0, .int .u32 a0_1, .int .i64 a0_2, .int .i64 a0_3, .int .u32 a0_4, .int .u32 a0_5, .int .u32 0, .int .u32 0, .slice none 0 0, .slice none 0 0]) ?_ 6 _ rfl; (with_reducible repeat (first | refine blk_drewN ?_ _ | refine blk_drew ?_ | refine blk_alloc ?_ _)); refine blk_put (cs := #[.int .i64 a0_0, .int .u32 a0_1, .int .i64 a0_2, .int .i64 a0_3, .int .u32 a0_4, .int .u32 0, .int .u32 0, .int .u32 0, .slice none 0 0, .slice none 0 0]) ?_ 5 _ rfl; (with_reducible repeat (first | refine blk_drewN ?_ _ | refine blk_drew ?_ | refine blk_alloc ?_ _)); refine blk_put (cs := #[.int .i64 a0_0, .int .u32 a0_1, .int .i64 a0_2, .int .i64 a0_3, .int .u32 0, .int .u32 0, .int .u32 0, .int .u32 0, .slice none 0 0, .slice none 0 0]) ?_ 4 _ rfl; (with_reducible repeat (first | refine blk_drewN ?_ _ | refine blk_drew ?_ | refine blk_alloc ?_ _)); refine blk_put (cs := #[.int .i64 a0_0, .int .u32 a0_1, .int .i64 a0_2, .int .i64 0, .int .u32 0, .int .u32 0, .int .u32 0, .int .u32 0, .slice none 0 0, .slice none 0 0]) ?_ 3 _ rfl; (with_reducible repeat (first | refine blk_drewN ?_ _ | refine blk_drew ?_ | refine blk_alloc ?_ _)); refine blk_put (cs := #[.int .i64 a0_0, .int .u32 a0_1, .int .i64 0, .int .i64 0, .int .u32 0, .int .u32 0, .int .u32 0, .int .u32 0, .slice none 0 0, .slice none 0 0]) ?_ 2 _ rfl; (with_reducible repeat (first | refine blk_drewN ?_ _ | refine blk_drew ?_ | refine blk_alloc ?_ _)); refine blk_put (cs := #[.int .i64 a0_0, .int .u32 0, .int .i64 0, .int .i64 0, .int .u32 0, .int .u32 0, .int .u32 0, .int .u32 0, .slice none 0 0, .slice none 0 0]) ?_ 1 _ rfl; (with_reducible repeat (first | refine blk_drewN ?_ _ | refine blk_drew ?_ | refine blk_alloc ?_ _)); refine blk_put (cs := #[.int .i64 0, .int .u32 0, .int .i64 0, .int .i64 0, .int .u32 0, .int .u32 0, .int .u32 0, .int .u32 0, .slice none 0 0, .slice none 0 0]) ?_ 0 _ rfl; (with_reducible repeat (first | refine blk_drewN ?_ _ | refine blk_drew ?_ | refine blk_alloc ?_ _)); refine blk_far ?_ NB280_279.out _; (with_reducible repeat (first | refine blk_drewN ?_ _ | refine blk_drew ?_ | refine blk_alloc ?_ _)); refine blk_far ?_ NB280_279.out _; (with_reducible repeat (first | refine blk_drewN ?_ _ | refine blk_drew ?_ | refine blk_alloc ?_ _)); exact BK280.out) Try.underlying28 rfl (by kernel_rfl)) rfl ?_
         exact ⟨_, _, _, by first | rfl | (simp [errW_none, errW_some] <;> rfl) | (simp [*, errW_none, errW_some] <;> rfl), by (with_reducible repeat (first | apply Kd.V_alloc | apply Kd.V_drewN | apply Kd.V_drew)); exact Kd.V_mono (Kd.V_far (p := ⟨gb280, 9, none⟩) (Kd.V_far (p := ⟨gb280, 8, none⟩) (Kd.V_far (p := ⟨gb280, 7, none⟩) (Kd.V_far (p := ⟨gb280, 6, none⟩) (Kd.V_far (p := ⟨gb280, 5, none⟩) (Kd.V_far (p := ⟨gb280, 4, none⟩) (Kd.V_far (p := ⟨gb280, 3, none⟩) (Kd.V_far (p := ⟨gb280, 2, none⟩) (Kd.V_far (p := ⟨gb280, 1, none⟩) (Kd.V_far (p := ⟨gb280, 0, none⟩) (Kd.V_far (p := ⟨gb279, 7, none⟩) (Kd.V_far (p := ⟨gb279, 9, none⟩) (Kd.V_mono (Kd.V_mono HO_280008.out (fun k_ hk => (⟨hk, hk.2.2.2.1⟩ : _ ∧ k_ ≠ gb279))) (fun k_ hk => (⟨hk, hk.1.2.2.2.2⟩ : _ ∧ k_ ≠ gb280))) (fun _ hk => hk.1.2) (.slice Ao35 x10_2.length co35)) (fun _ hk => hk.1.2) (.int .u32 0)) (fun _ hk => hk.2) (.int .i64 a0_0)) (fun _ hk => hk.2) (.int .u32 a0_1)) (fun _ hk => hk.2) (.int .i64 a0_2)) (fun _ hk => hk.2) (.int .i64 a0_3)) (fun _ hk => hk.2) (.int .u32 a0_4)) (fun _ hk => hk.2) (.int .u32 a0_5)) (fun _ hk => hk.2) (.int .u32 a0_6)) (fun _ hk => hk.2) (.int .u32 0)) (fun _ hk => hk.2) (.slice A0_8 l0_8.length c0_8)) (fun _ hk => hk.2) (.slice Ao35 x10_2.length co35)) (fun _ hk => ⟨hk.1.1.1, ⟨hk.1.1.2.2.1, hk.1.1.2.1⟩⟩), by (with_reducible repeat (first | apply Kd.N_alloc | apply Kd.N_drewN | apply Kd.N_drew)); exact Kd.N_mono (Kd.N_far (p := ⟨gb280, 9, none⟩) (Kd.N_far (p := ⟨gb280, 8, none⟩) (Kd.N_far (p := ⟨gb280, 7, none⟩) (Kd.N_far (p := ⟨gb280, 6, none⟩) (Kd.N_far (p := ⟨gb280, 5, none⟩) (Kd.N_far (p := ⟨gb280, 4, none⟩) (Kd.N_far (p := ⟨gb280, 3, none⟩) (Kd.N_far (p := ⟨gb280, 2, none⟩) (Kd.N_far (p := ⟨gb280, 1, none⟩) (Kd.N_far (p := ⟨gb280, 0, none⟩) (Kd.N_far (p := ⟨gb279, 7, none⟩) (Kd.N_far (p := ⟨gb279, 9, none⟩) (Kd.N_mono (Kd.N_mono HO_10.out (fun k_ hk => (⟨hk, hk.2.2.1⟩ : _ ∧ k_ ≠ gb279))) (fun k_ hk => (⟨hk, hk.1.2.2.2⟩ : _ ∧ k_ ≠ gb280))) (fun _ hk => hk.1.2) (.slice Ao35 x10_2.length co35)) (fun _ hk => hk.1.2) (.int .u32 0)) (fun _ hk => hk.2) (.int .i64 a0_0)) (fun _ hk => hk.2) (.int .u32 a0_1)) (fun _ hk => hk.2) (.int .i64 a0_2)) (fun _ hk => hk.2) (.int .i64 a0_3)) (fun _ hk => hk.2) (.int .u32 a0_4)) (fun _ hk => hk.2) (.int .u32 a0_5)) (fun _ hk => hk.2) (.int .u32 a0_6)) (fun _ hk => hk.2) (.int .u32 0)) (fun _ hk => hk.2) (.slice A0_8 l0_8.length c0_8)) (fun _ hk => hk.2) (.slice Ao35 x10_2.length co35)) (fun _ hk => ⟨hk.1.1.1, hk.1.1.2.1⟩), by (with_reducible repeat (first | apply Kd.N_alloc | apply Kd.N_drewN | apply Kd.N_drew)); exact Kd.N_mono (Kd.N_far (p := ⟨gb280, 9, none⟩) (Kd.N_far (p := ⟨gb280, 8, none⟩) (Kd.N_far (p := ⟨gb280, 7, none⟩) (Kd.N_far (p := ⟨gb280, 6, none⟩) (Kd.N_far (p := ⟨gb280, 5, none⟩) (Kd.N_far (p := ⟨gb280, 4, none⟩) (Kd.N_far (p := ⟨gb280, 3, none⟩) (Kd.N_far (p := ⟨gb280, 2, none⟩) (Kd.N_far (p := ⟨gb280, 1, none⟩) (Kd.N_far (p := ⟨gb280, 0, none⟩) (Kd.N_far (p := ⟨gb279, 7, none⟩) (Kd.N_far (p := ⟨gb279, 9, none⟩) (Kd.N_mono (Kd.N_mono HO_8.out (fun k_ hk => (⟨hk, hk.2.2.1⟩ : _ ∧ k_ ≠ gb279))) (fun k_ hk => (⟨hk, hk.1.2.2.2⟩ : _ ∧ k_ ≠ gb280))) (fun _ hk => hk.1.2) (.slice Ao35 x10_2.length co35)) (fun _ hk => hk.1.2) (.int .u32 0)) (fun _ hk => hk.2) (.int .i64 a0_0)) (fun _ hk => hk.2) (.int .u32 a0_1)) (fun _ hk => hk.2) (.int .i64 a0_2)) (fun _ hk => hk.2) (.int .i64 a0_3)) (fun _ hk => hk.2) (.int .u32 a0_4)) (fun _ hk => hk.2) (.int .u32 a0_5)) (fun _ hk => hk.2) (.int .u32 a0_6)) (fun _ hk => hk.2) (.int .u32 0)) (fun _ hk => hk.2) (.slice A0_8 l0_8.length c0_8)) (fun _ hk => hk.2) (.slice Ao35 x10_2.length co35)) (fun _ hk => ⟨hk.1.1.1, hk.1.1.2.1⟩), by repeat (first | (with_reducible first | exact HB.out | apply below_alloc | apply pw_below_drewN | apply below_drew1 | refine below_set ?_ GE279.out | refine below_set ?_ GE280.out) | exact HB.out)⟩
     ·rw [if_neg c18] at H
      have c18b0 : (t287 == 0) = false := beq_eq_false_iff_ne.mpr c18
      have c18b1 : (t287 != 0) = true := bne_iff_ne.mpr c18
      simp only [Option.some.injEq, Prod.mk.injEq] at H
      obtain ⟨rfl, rfl, rfl, rfl, rfl, rfl, rfl, rfl, rfl, rfl, rfl, rfl⟩ := H
      have hnb37 := NB279_280.out
      have hnc37 := NB280_279.out
      have hcz38_0 : wc.cell? ⟨gb279, 0, none⟩ = some (.int .i64 a0_0) := (blk_cell BK279.out 0).trans rfl
      have hcz38_1 : wc.cell? ⟨gb279, 1, none⟩ = some (.int .u32 a0_1) := (blk_cell BK279.out 1).trans rfl
      have hcz38_2 : wc.cell? ⟨gb279, 2, none⟩ = some (.int .i64 a0_2) := (blk_cell BK279.out 2).trans rfl
      have hcz38_3 : wc.cell? ⟨gb279, 3, none⟩ = some (.int .i64 a0_3) := (blk_cell BK279.out 3).trans rfl
      have hcz38_4 : wc.cell? ⟨gb279, 4, none⟩ = some (.int .u32 a0_4) := (blk_cell BK279.out 4).trans rfl
      have hcz38_5 : wc.cell? ⟨gb279, 5, none⟩ = some (.int .u32 a0_5) := (blk_cell BK279.out 5).trans rfl
      have hcz38_6 : wc.cell? ⟨gb279, 6, none⟩ = some (.int .u32 a0_6) := (blk_cell BK279.out 6).trans rfl
      have hcz38_7 : wc.cell? ⟨gb279, 7, none⟩ = some (.int .u32 a0_7) := (blk_cell BK279.out 7).trans rfl
      have hcz38_8 : wc.cell? ⟨gb279, 8, none⟩ = some (.slice A0_8 l0_8.length c0_8) := (blk_cell BK279.out 8).trans rfl
      have hcz38_9 : wc.cell? ⟨gb279, 9, none⟩ = some (.slice A0_9 l0_9.length c0_9) := (blk_cell BK279.out 9).trans rfl
      have hfz38_0 := blk_frozen BK279.out 0
      have hfz38_1 := blk_frozen BK279.out 1
      have hfz38_2 := blk_frozen BK279.out 2
      have hfz38_3 := blk_frozen BK279.out 3
      have hfz38_4 := blk_frozen BK279.out 4
      have hfz38_5 := blk_frozen BK279.out 5
      have hfz38_6 := blk_frozen BK279.out 6
      have hfz38_7 := blk_frozen BK279.out 7
      have hfz38_8 := blk_frozen BK279.out 8
      have hfz38_9 := blk_frozen BK279.out 9
      go_wp2_with (first | ((with_reducible refine gate_callee (f := 33) rfl ?_); refine goesL_ (some 25) rfl rfl Try.func33 (by kernel_rfl) rfl #[.slice A0_9 l0_9.length c0_9, .int .i64 82] rfl (by (try simp only [List.map_toArray, List.map_cons, List.map_nil]); first | done | rfl | (simp only [List.length_drop, List.length_take]; rfl)) ?_; (with_reducible refine (lessorref02_Find.calls kj2 (fun k_ => (((P0_8_ k_ ∨ P0_9_ k_) ∨ w.heap.size ≤ k_) ∧ (k_ ≠ gb279 ∧ k_ ≠ gb280))) _ _ l0_9 82 t282 true _ ?side1_7 A15.out).mono ?_); (case side1_7 => exact HO_280009.out); rintro e w39 ⟨v283, rfl, ho0, hb⟩; refine ⟨_, rfl, ?_⟩; have n0_ := Aside0.mk (Kd.V_below (by (with_reducible repeat (first | apply Kd.V_alloc | apply Kd.V_drewN | apply Kd.V_drew)); exact HO_280008.out) hb); have n1_ := Aside0.mk (Kd.V_below (by (with_reducible repeat (first | apply Kd.V_alloc | apply Kd.V_drewN | apply Kd.V_drew)); exact HO_280009.out) hb); have n2_ := Aside0.mk (Kd.V_lower (Kd.V_mono (ok' := fun k_ => ((P0_8_ k_ ∨ P0_9_ k_) ∨ w.heap.size ≤ k_) ∧ k_ ≠ gb279 ∧ k_ ≠ gb280) ho0 (fun k_ hk_ => ⟨Or.elim hk_ (fun hs_ => hs_.1) (fun hn_ => (.inr (Nat.le_trans (below_size (by repeat (first | (with_reducible first | exact HB.out | apply below_alloc | apply pw_below_drewN | apply below_drew1 | refine below_set ?_ GE279.out | refine below_set ?_ GE280.out) | exact HB.out))) hn_))), Or.elim hk_ (fun hs_ => hs_.2.1) (fun hn_ => (Kd.freshB (g := gb279) (o := .cells #[.int .i64 a0_0, .int .u32 a0_1, .int .i64 a0_2, .int .i64 a0_3, .int .u32 a0_4, .int .u32 a0_5, .int .u32 a0_6, .int .u32 a0_7, .slice A0_8 l0_8.length c0_8, .slice A0_9 l0_9.length c0_9] 28 (0, 0)) (by (with_reducible repeat (first | refine blk_drewN ?_ _ | refine blk_drew ?_ | refine blk_alloc ?_ _)); exact BK279.out) k_ hn_)), Or.elim hk_ (fun hs_ => hs_.2.2) (fun hn_ => (Kd.freshB (g := gb280) (o := .cells #[.int .i64 0, .int .u32 0, .int .i64 0, .int .i64 0, .int .u32 0, .int .u32 0, .int .u32 0, .int .u32 0, .slice none 0 0, .slice none 0 0] 28 (0, 0)) (by (with_reducible repeat (first | refine blk_drewN ?_ _ | refine blk_drew ?_ | refine blk_alloc ?_ _)); exact BK280.out) k_ hn_))⟩)) (below_size (by repeat (first | (with_reducible first | exact HB.out | apply below_alloc | apply pw_below_drewN | apply below_drew1 | refine below_set ?_ GE279.out | refine below_set ?_ GE280.out) | exact HB.out)))); have n3_ := Aside0.mk (blk_below (g := gb279) (o := .cells #[.int .i64 a0_0, .int .u32 a0_1, .int .i64 a0_2, .int .i64 a0_3, .int .u32 a0_4, .int .u32 a0_5, .int .u32 a0_6, .int .u32 a0_7, .slice A0_8 l0_8.length c0_8, .slice A0_9 l0_9.length c0_9] 28 (0, 0)) (by (with_reducible repeat (first | refine blk_drewN ?_ _ | refine blk_drew ?_ | refine blk_alloc ?_ _)); exact BK279.out) hb); have n4_ := Aside0.mk (blk_below (g := gb280) (o := .cells #[.int .i64 0, .int .u32 0, .int .i64 0, .int .i64 0, .int .u32 0, .int .u32 0, .int .u32 0, .int .u32 0, .slice none 0 0, .slice none 0 0] 28 (0, 0)) (by (with_reducible repeat (first | refine blk_drewN ?_ _ | refine blk_drew ?_ | refine blk_alloc ?_ _)); exact BK280.out) hb); have n5_ := Aside0.mk (below_step (by repeat (first | (with_reducible first | exact HB.out | apply below_alloc | apply pw_below_drewN | apply below_drew1 | refine below_set ?_ GE279.out | refine below_set ?_ GE280.out) | exact HB.out)) hb); clear HO_280008; clear HO_280009; clear BK279; clear BK280; clear HB; have HO_280008 := n0_; have HO_280009 := n1_; have HO284 := n2_; have BK279 := n3_; have BK280 := n4_; have HB := n5_; clear n0_ n1_ n2_ n3_ n4_ n5_; (try clear hb); (try clear hb2); (try clear hk); (try clear hi); (try clear ho0); obtain ⟨Ao40, co40, eo40⟩ := Kd.V_slice HO284.out; subst eo40) | ((with_reducible refine gate_callee (f := 16) rfl ?_); refine goesL_ (some 33) rfl rfl Try.func16 (by kernel_rfl) rfl #[.slice Ao40 t282.length co40] rfl (by (try simp only [List.map_toArray, List.map_cons, List.map_nil]); first | done | rfl | (simp only [List.length_drop, List.length_take]; rfl)) ?_; (with_reducible refine (lessorref26_Decode.calls kj2 _ _ t282 t286 t287 _ ?side1_8 ?side2_8 A17.out).mono ?_); (case side1_8 => repeat (first | exact (Kd.V_reads' HO284.out).2.2 | (with_reducible refine Kd.C_alloc ?_ _) | (with_reducible refine Kd.C_drewN ?_ _) | (with_reducible refine Kd.C_drew ?_))); (case side2_8 => exact (Kd.V_reads' HO284.out).2.1); rintro e w41 ⟨v288, rfl, ho0, hb⟩; refine ⟨_, rfl, ?_⟩; have n0_ := Aside0.mk (Kd.V_elder' (by (with_reducible repeat (first | apply Kd.V_alloc | apply Kd.V_drewN | apply Kd.V_drew)); exact HO_280008.out) (by first | exact Kd.N_base ho0 | exact Kd.N_base (Kd.S_N ho0)) hb); have n1_ := Aside0.mk (Kd.V_elder' (by (with_reducible repeat (first | apply Kd.V_alloc | apply Kd.V_drewN | apply Kd.V_drew)); exact HO_280009.out) (by first | exact Kd.N_base ho0 | exact Kd.N_base (Kd.S_N ho0)) hb); have n2_ := Aside0.mk (Kd.V_elder' (by (with_reducible repeat (first | apply Kd.V_alloc | apply Kd.V_drewN | apply Kd.V_drew)); exact HO284.out) (by first | exact Kd.N_base ho0 | exact Kd.N_base (Kd.S_N ho0)) hb); have n3_ := Aside0.mk (Kd.N_lower (Kd.N_mono (ok' := fun k_ => ((P0_8_ k_ ∨ P0_9_ k_) ∨ w.heap.size ≤ k_) ∧ k_ ≠ gb279 ∧ k_ ≠ gb280) (Kd.S_N (Kd.S_bound ho0)) (fun k_ hk_ => ⟨(.inr (Nat.le_trans (below_size (by repeat (first | (with_reducible first | exact HB.out | apply below_alloc | apply pw_below_drewN | apply below_drew1 | refine below_set ?_ GE279.out | refine below_set ?_ GE280.out) | exact HB.out))) hk_.2.1)), (Kd.freshB (g := gb279) (o := .cells #[.int .i64 a0_0, .int .u32 a0_1, .int .i64 a0_2, .int .i64 a0_3, .int .u32 a0_4, .int .u32 a0_5, .int .u32 a0_6, .int .u32 a0_7, .slice A0_8 l0_8.length c0_8, .slice A0_9 l0_9.length c0_9] 28 (0, 0)) (by (with_reducible repeat (first | refine blk_drewN ?_ _ | refine blk_drew ?_ | refine blk_alloc ?_ _)); exact BK279.out) k_ hk_.2.1), (Kd.freshB (g := gb280) (o := .cells #[.int .i64 0, .int .u32 0, .int .i64 0, .int .i64 0, .int .u32 0, .int .u32 0, .int .u32 0, .int .u32 0, .slice none 0 0, .slice none 0 0] 28 (0, 0)) (by (with_reducible repeat (first | refine blk_drewN ?_ _ | refine blk_drew ?_ | refine blk_alloc ?_ _)); exact BK280.out) k_ hk_.2.1)⟩)) (below_size (by repeat (first | (with_reducible first | exact HB.out | apply below_alloc | apply pw_below_drewN | apply below_drew1 | refine below_set ?_ GE279.out | refine below_set ?_ GE280.out) | exact HB.out)))); have n4_ := Aside0.mk (blk_below (g := gb279) (o := .cells #[.int .i64 a0_0, .int .u32 a0_1, .int .i64 a0_2, .int .i64 a0_3, .int .u32 a0_4, .int .u32 a0_5, .int .u32 a0_6, .int .u32 a0_7, .slice A0_8 l0_8.length c0_8, .slice A0_9 l0_9.length c0_9] 28 (0, 0)) (by (with_reducible repeat (first | refine blk_drewN ?_ _ | refine blk_drew ?_ | refine blk_alloc ?_ _)); exact BK279.out) hb); have n5_ := Aside0.mk (blk_below (g := gb280) (o := .cells #[.int .i64 0, .int .u32 0, .int .i64 0, .int .i64 0, .int .u32 0, .int .u32 0, .int .u32 0, .int .u32 0, .slice none 0 0, .slice none 0 0] 28 (0, 0)) (by (with_reducible repeat (first | refine blk_drewN ?_ _ | refine blk_drew ?_ | refine blk_alloc ?_ _)); exact BK280.out) hb); have n6_ := Aside0.mk (below_step (by repeat (first | (with_reducible first | exact HB.out | apply below_alloc | apply pw_below_drewN | apply below_drew1 | refine below_set ?_ GE279.out | refine below_set ?_ GE280.out) | exact HB.out)) hb); clear HO_280008; clear HO_280009; clear HO284; clear BK279; clear BK280; clear HB; have HO_280008 := n0_; have HO_280009 := n1_; have HO284 := n2_; have HO289 := n3_; have BK279 := n4_; have BK280 := n5_; have HB := n6_; clear n0_ n1_ n2_ n3_ n4_ n5_ n6_; (try clear hb); (try clear hb2); (try clear hk); (try clear hi); (try clear ho0); have hcz42_0 : w41.cell? ⟨gb280, 0, none⟩ = some (.int .i64 0) := (blk_cell BK280.out 0).trans rfl; have hcz42_1 : w41.cell? ⟨gb280, 1, none⟩ = some (.int .u32 0) := (blk_cell BK280.out 1).trans rfl; have hcz42_2 : w41.cell? ⟨gb280, 2, none⟩ = some (.int .i64 0) := (blk_cell BK280.out 2).trans rfl; have hcz42_3 : w41.cell? ⟨gb280, 3, none⟩ = some (.int .i64 0) := (blk_cell BK280.out 3).trans rfl; have hcz42_4 : w41.cell? ⟨gb280, 4, none⟩ = some (.int .u32 0) := (blk_cell BK280.out 4).trans rfl; have hcz42_5 : w41.cell? ⟨gb280, 5, none⟩ = some (.int .u32 0) := (blk_cell BK280.out 5).trans rfl; have hcz42_6 : w41.cell? ⟨gb280, 6, none⟩ = some (.int .u32 0) := (blk_cell BK280.out 6).trans rfl; have hcz42_7 : w41.cell? ⟨gb280, 7, none⟩ = some (.int .u32 0) := (blk_cell BK280.out 7).trans rfl; have hcz42_8 : w41.cell? ⟨gb280, 8, none⟩ = some (.slice none 0 0) := (blk_cell BK280.out 8).trans rfl; have hcz42_9 : w41.cell? ⟨gb280, 9, none⟩ = some (.slice none 0 0) := (blk_cell BK280.out 9).trans rfl; have hfz42_0 := blk_frozen BK280.out 0; have hfz42_1 := blk_frozen BK280.out 1; have hfz42_2 := blk_frozen BK280.out 2; have hfz42_3 := blk_frozen BK280.out 3; have hfz42_4 := blk_frozen BK280.out 4; have hfz42_5 := blk_frozen BK280.out 5; have hfz42_6 := blk_frozen BK280.out 6; have hfz42_7 := blk_frozen BK280.out 7; have hfz42_8 := blk_frozen BK280.out 8; have hfz42_9 := blk_frozen BK280.out 9))
      refine bodyPost_ret (results_ctt rfl _ _ gb280 28 #[.int .i64 0, .int .u32 0, .int .i64 0, .int .i64 0, .int .u32 0, .int .u32 0, .int .u32 0, .int .u32 0, .slice none 0 0, .slice none 0 0] (0, 0) _ rfl (by (with_reducible repeat (first | refine blk_drewN ?_ _ | refine blk_drew ?_ | refine blk_alloc ?_ _)); refine blk_put (cs := #[.int .i64 0, .int .u32 0, .int .i64 0, .int .i64 0, .int .u32 0, .int .u32 0, .int .u32 0, .int .u32 0, .slice none 0 0, .slice none 0 0]) ?_ 9 _ rfl; (with_reducible repeat (first | refine blk_drewN ?_ _ | refine blk_drew ?_ | refine blk_alloc ?_ _)); refine blk_put (cs := #[.int .i64 0, .int .u32 0, .int .i64 0, .int .i64 0, .int .u32 0, .int .u32 0, .int .u32 0, .int .u32 0, .slice none 0 0, .slice none 0 0]) ?_ 8 _ rfl; (with_reducible repeat (first | refine blk_drewN ?_ _ | refine blk_drew ?_ | refine blk_alloc ?_ _)); refine blk_put (cs := #[.int .i64 0, .int .u32 0, .int .i64 0, .int .i64 0, .int .u32 0, .int .u32 0, .int .u32 0, .int .u32 0, .slice none 0 0, .slice none 0 0]) ?_ 7 _ rfl; (with_reducible repeat (first | refine blk_drewN ?_ _ | refine blk_drew ?_ | refine blk_alloc ?_ _)); refine blk_put (cs := #[.int .i64 0, .int .u32 0, .int .i64 0, .int .i64 0, .int .u32 0, .int .u32 0, .int .u32 0, .int .u32 0, .slice none 0 0, .slice none 0 0]) ?_ 6 _ rfl; (with_reducible repeat (first | refine blk_drewN ?_ _ | refine blk_drew ?_ | refine blk_alloc ?_ _)); refine blk_put (cs := #[.int .i64 0, .int .u32 0, .int .i64 0, .int .i64 0, .int .u32 0, .int .u32 0, .int .u32 0, .int .u32 0, .slice none 0 0, .slice none 0 0]) ?_ 5 _ rfl; (with_reducible repeat (first | refine blk_drewN ?_ _ | refine blk_drew ?_ | refine blk_alloc ?_ _)); refine blk_put (cs := #[.int .i64 0, .int .u32 0, .int .i64 0, .int .i64 0, .int .u32 0, .int .u32 0, .int .u32 0, .int .u32 0, .slice none 0 0, .slice none 0 0]) ?_ 4 _ rfl; (with_reducible repeat (first | refine blk_drewN ?_ _ | refine blk_drew ?_ | refine blk_alloc ?_ _)); refine blk_put (cs := #[.int .i64 0, .int .u32 0, .int .i64 0, .int .i64 0, .int .u32 0, .int .u32 0, .int .u32 0, .int .u32 0, .slice none 0 0, .slice none 0 0]) ?_ 3 _ rfl; (with_reducible repeat (first | refine blk_drewN ?_ _ | refine blk_drew ?_ | refine blk_alloc ?_ _)); refine blk_put (cs := #[.int .i64 0, .int .u32 0, .int .i64 0, .int .i64 0, .int .u32 0, .int .u32 0, .int .u32 0, .int .u32 0, .slice none 0 0, .slice none 0 0]) ?_ 2 _ rfl; (with_reducible repeat (first | refine blk_drewN ?_ _ | refine blk_drew ?_ | refine blk_alloc ?_ _)); refine blk_put (cs := #[.int .i64 0, .int .u32 0, .int .i64 0, .int .i64 0, .int .u32 0, .int .u32 0, .int .u32 0, .int .u32 0, .slice none 0 0, .slice none 0 0]) ?_ 1 _ rfl; (with_reducible repeat (first | refine blk_drewN ?_ _ | refine blk_drew ?_ | refine blk_alloc ?_ _)); refine blk_put (cs := #[.int .i64 0, .int .u32 0, .int .i64 0, .int .i64 0, .int .u32 0, .int .u32 0, .int .u32 0, .int .u32 0, .slice none 0 0, .slice none 0 0]) ?_ 0 _ rfl; (with_reducible repeat (first | refine blk_drewN ?_ _ | refine blk_drew ?_ | refine blk_alloc ?_ _)); exact BK280.out) Try.underlying28 rfl (by kernel_rfl)) rfl ?_
      exact ⟨_, _, _, by first | rfl | (simp [errW_none, errW_some] <;> rfl) | (simp [*, errW_none, errW_some] <;> rfl), (by first | exact Kd.V_nil _ _ _ _ _ | exact Kd.V_mono (Kd.R_V (by first | exact Kd.R_nil _ _ _ _ _ | exact Kd.N_nil _ _ _ _ _ | exact Kd.V_nil _ _ _ _ _ | exact Kd.Q_nil _ _ _ _ _ | exact Kd.S_nil _ _ _ _ _)) (fun k_ hk => by first | exact ⟨(.inr (hk.1)), hk.2⟩ | exact (.inr (hk)))), by first | exact Kd.S_nil _ _ _ _ _ | exact Kd.N_nil _ _ _ _ _ | exact Kd.V_nil _ _ _ _ _ | exact Kd.Q_nil _ _ _ _ _ | exact Kd.R_nil _ _ _ _ _, by first | exact Kd.S_nil _ _ _ _ _ | exact Kd.N_nil _ _ _ _ _ | exact Kd.V_nil _ _ _ _ _ | exact Kd.Q_nil _ _ _ _ _ | exact Kd.R_nil _ _ _ _ _, by repeat (first | (with_reducible first | exact HB.out | apply below_alloc | apply pw_below_drewN | apply below_drew1 | refine below_set ?_ GE279.out | refine below_set ?_ GE280.out) | exact HB.out)⟩
    ·replace c16 := Bool.eq_false_iff.mpr c16
     subst c16
     have H1 : (some (0, 0, 0, 0, 0, 0, 0, 0, ([] : List Int), ([] : List (S48)), ([] : List (S48)), 4)) = some (r1, r2, r3, r4, r5, r6, r7, r8, r9, r10, r11, r12) := by rw [if_neg (show ¬ (false = true) by decide)] at H; exact H
     clear H
     have H := H1
     clear H1
     simp only [Option.some.injEq, Prod.mk.injEq] at H
     obtain ⟨rfl, rfl, rfl, rfl, rfl, rfl, rfl, rfl, rfl, rfl, rfl, rfl⟩ := H
     have hnb43 := NB279_280.out
     have hnc43 := NB280_279.out
     have hcz44_0 : wc.cell? ⟨gb279, 0, none⟩ = some (.int .i64 a0_0) := (blk_cell BK279.out 0).trans rfl
     have hcz44_1 : wc.cell? ⟨gb279, 1, none⟩ = some (.int .u32 a0_1) := (blk_cell BK279.out 1).trans rfl
     have hcz44_2 : wc.cell? ⟨gb279, 2, none⟩ = some (.int .i64 a0_2) := (blk_cell BK279.out 2).trans rfl
     have hcz44_3 : wc.cell? ⟨gb279, 3, none⟩ = some (.int .i64 a0_3) := (blk_cell BK279.out 3).trans rfl
     have hcz44_4 : wc.cell? ⟨gb279, 4, none⟩ = some (.int .u32 a0_4) := (blk_cell BK279.out 4).trans rfl
     have hcz44_5 : wc.cell? ⟨gb279, 5, none⟩ = some (.int .u32 a0_5) := (blk_cell BK279.out 5).trans rfl
     have hcz44_6 : wc.cell? ⟨gb279, 6, none⟩ = some (.int .u32 a0_6) := (blk_cell BK279.out 6).trans rfl
     have hcz44_7 : wc.cell? ⟨gb279, 7, none⟩ = some (.int .u32 a0_7) := (blk_cell BK279.out 7).trans rfl
     have hcz44_8 : wc.cell? ⟨gb279, 8, none⟩ = some (.slice A0_8 l0_8.length c0_8) := (blk_cell BK279.out 8).trans rfl
     have hcz44_9 : wc.cell? ⟨gb279, 9, none⟩ = some (.slice A0_9 l0_9.length c0_9) := (blk_cell BK279.out 9).trans rfl
     have hfz44_0 := blk_frozen BK279.out 0
     have hfz44_1 := blk_frozen BK279.out 1
     have hfz44_2 := blk_frozen BK279.out 2
     have hfz44_3 := blk_frozen BK279.out 3
     have hfz44_4 := blk_frozen BK279.out 4
     have hfz44_5 := blk_frozen BK279.out 5
     have hfz44_6 := blk_frozen BK279.out 6
     have hfz44_7 := blk_frozen BK279.out 7
     have hfz44_8 := blk_frozen BK279.out 8
     have hfz44_9 := blk_frozen BK279.out 9
     go_wp2_with (first | ((with_reducible refine gate_callee (f := 33) rfl ?_); refine goesL_ (some 25) rfl rfl Try.func33 (by kernel_rfl) rfl #[.slice A0_9 l0_9.length c0_9, .int .i64 82] rfl (by (try simp only [List.map_toArray, List.map_cons, List.map_nil]); first | done | rfl | (simp only [List.length_drop, List.length_take]; rfl)) ?_; (with_reducible refine (lessorref02_Find.calls kj2 (fun k_ => (((P0_8_ k_ ∨ P0_9_ k_) ∨ w.heap.size ≤ k_) ∧ (k_ ≠ gb279 ∧ k_ ≠ gb280))) _ _ l0_9 82 t282 false _ ?side1_9 A15.out).mono ?_); (case side1_9 => exact HO_280009.out); rintro e w45 ⟨v283, rfl, ho0, hb⟩; refine ⟨_, rfl, ?_⟩; have n0_ := Aside0.mk (Kd.V_below (by (with_reducible repeat (first | apply Kd.V_alloc | apply Kd.V_drewN | apply Kd.V_drew)); exact HO_280008.out) hb); have n1_ := Aside0.mk (Kd.V_below (by (with_reducible repeat (first | apply Kd.V_alloc | apply Kd.V_drewN | apply Kd.V_drew)); exact HO_280009.out) hb); have n2_ := Aside0.mk (Kd.V_lower (Kd.V_mono (ok' := fun k_ => ((P0_8_ k_ ∨ P0_9_ k_) ∨ w.heap.size ≤ k_) ∧ k_ ≠ gb279 ∧ k_ ≠ gb280) ho0 (fun k_ hk_ => ⟨Or.elim hk_ (fun hs_ => hs_.1) (fun hn_ => (.inr (Nat.le_trans (below_size (by repeat (first | (with_reducible first | exact HB.out | apply below_alloc | apply pw_below_drewN | apply below_drew1 | refine below_set ?_ GE279.out | refine below_set ?_ GE280.out) | exact HB.out))) hn_))), Or.elim hk_ (fun hs_ => hs_.2.1) (fun hn_ => (Kd.freshB (g := gb279) (o := .cells #[.int .i64 a0_0, .int .u32 a0_1, .int .i64 a0_2, .int .i64 a0_3, .int .u32 a0_4, .int .u32 a0_5, .int .u32 a0_6, .int .u32 a0_7, .slice A0_8 l0_8.length c0_8, .slice A0_9 l0_9.length c0_9] 28 (0, 0)) (by (with_reducible repeat (first | refine blk_drewN ?_ _ | refine blk_drew ?_ | refine blk_alloc ?_ _)); exact BK279.out) k_ hn_)), Or.elim hk_ (fun hs_ => hs_.2.2) (fun hn_ => (Kd.freshB (g := gb280) (o := .cells #[.int .i64 0, .int .u32 0, .int .i64 0, .int .i64 0, .int .u32 0, .int .u32 0, .int .u32 0, .int .u32 0, .slice none 0 0, .slice none 0 0] 28 (0, 0)) (by (with_reducible repeat (first | refine blk_drewN ?_ _ | refine blk_drew ?_ | refine blk_alloc ?_ _)); exact BK280.out) k_ hn_))⟩)) (below_size (by repeat (first | (with_reducible first | exact HB.out | apply below_alloc | apply pw_below_drewN | apply below_drew1 | refine below_set ?_ GE279.out | refine below_set ?_ GE280.out) | exact HB.out)))); have n3_ := Aside0.mk (blk_below (g := gb279) (o := .cells #[.int .i64 a0_0, .int .u32 a0_1, .int .i64 a0_2, .int .i64 a0_3, .int .u32 a0_4, .int .u32 a0_5, .int .u32 a0_6, .int .u32 a0_7, .slice A0_8 l0_8.length c0_8, .slice A0_9 l0_9.length c0_9] 28 (0, 0)) (by (with_reducible repeat (first | refine blk_drewN ?_ _ | refine blk_drew ?_ | refine blk_alloc ?_ _)); exact BK279.out) hb); have n4_ := Aside0.mk (blk_below (g := gb280) (o := .cells #[.int .i64 0, .int .u32 0, .int .i64 0, .int .i64 0, .int .u32 0, .int .u32 0, .int .u32 0, .int .u32 0, .slice none 0 0, .slice none 0 0] 28 (0, 0)) (by (with_reducible repeat (first | refine blk_drewN ?_ _ | refine blk_drew ?_ | refine blk_alloc ?_ _)); exact BK280.out) hb); have n5_ := Aside0.mk (below_step (by repeat (first | (with_reducible first | exact HB.out | apply below_alloc | apply pw_below_drewN | apply below_drew1 | refine below_set ?_ GE279.out | refine below_set ?_ GE280.out) | exact HB.out)) hb); clear HO_280008; clear HO_280009; clear BK279; clear BK280; clear HB; have HO_280008 := n0_; have HO_280009 := n1_; have HO284 := n2_; have BK279 := n3_; have BK280 := n4_; have HB := n5_; clear n0_ n1_ n2_ n3_ n4_ n5_; (try clear hb); (try clear hb2); (try clear hk); (try clear hi); (try clear ho0); have hcz46_0 : w45.cell? ⟨gb280, 0, none⟩ = some (.int .i64 0) := (blk_cell BK280.out 0).trans rfl; have hcz46_1 : w45.cell? ⟨gb280, 1, none⟩ = some (.int .u32 0) := (blk_cell BK280.out 1).trans rfl; have hcz46_2 : w45.cell? ⟨gb280, 2, none⟩ = some (.int .i64 0) := (blk_cell BK280.out 2).trans rfl; have hcz46_3 : w45.cell? ⟨gb280, 3, none⟩ = some (.int .i64 0) := (blk_cell BK280.out 3).trans rfl; have hcz46_4 : w45.cell? ⟨gb280, 4, none⟩ = some (.int .u32 0) := (blk_cell BK280.out 4).trans rfl; have hcz46_5 : w45.cell? ⟨gb280, 5, none⟩ = some (.int .u32 0) := (blk_cell BK280.out 5).trans rfl; have hcz46_6 : w45.cell? ⟨gb280, 6, none⟩ = some (.int .u32 0) := (blk_cell BK280.out 6).trans rfl; have hcz46_7 : w45.cell? ⟨gb280, 7, none⟩ = some (.int .u32 0) := (blk_cell BK280.out 7).trans rfl; have hcz46_8 : w45.cell? ⟨gb280, 8, none⟩ = some (.slice none 0 0) := (blk_cell BK280.out 8).trans rfl; have hcz46_9 : w45.cell? ⟨gb280, 9, none⟩ = some (.slice none 0 0) := (blk_cell BK280.out 9).trans rfl; have hfz46_0 := blk_frozen BK280.out 0; have hfz46_1 := blk_frozen BK280.out 1; have hfz46_2 := blk_frozen BK280.out 2; have hfz46_3 := blk_frozen BK280.out 3; have hfz46_4 := blk_frozen BK280.out 4; have hfz46_5 := blk_frozen BK280.out 5; have hfz46_6 := blk_frozen BK280.out 6; have hfz46_7 := blk_frozen BK280.out 7; have hfz46_8 := blk_frozen BK280.out 8; have hfz46_9 := blk_frozen BK280.out 9))
     refine bodyPost_ret (results_ctt rfl _ _ gb280 28 #[.int .i64 0, .int .u32 0, .int .i64 0, .int .i64 0, .int .u32 0, .int .u32 0, .int .u32 0, .int .u32 0, .slice none 0 0, .slice none 0 0] (0, 0) _ rfl (by (with_reducible repeat (first | refine blk_drewN ?_ _ | refine blk_drew ?_ | refine blk_alloc ?_ _)); refine blk_put (cs := #[.int .i64 0, .int .u32 0, .int .i64 0, .int .i64 0, .int .u32 0, .int .u32 0, .int .u32 0, .int .u32 0, .slice none 0 0, .slice none 0 0]) ?_ 9 _ rfl; (with_reducible repeat (first | refine blk_drewN ?_ _ | refine blk_drew ?_ | refine blk_alloc ?_ _)); refine blk_put (cs := #[.int .i64 0, .int .u32 0, .int .i64 0, .int .i64 0, .int .u32 0, .int .u32 0, .int .u32 0, .int .u32 0, .slice none 0 0, .slice none 0 0]) ?_ 8 _ rfl; (with_reducible repeat (first | refine blk_drewN ?_ _ | refine blk_drew ?_ | refine blk_alloc ?_ _)); refine blk_put (cs := #[.int .i64 0, .int .u32 0, .int .i64 0, .int .i64 0, .int .u32 0, .int .u32 0, .int .u32 0, .int .u32 0, .slice none 0 0, .slice none 0 0]) ?_ 7 _ rfl; (with_reducible repeat (first | refine blk_drewN ?_ _ | refine blk_drew ?_ | refine blk_alloc ?_ _)); refine blk_put (cs := #[.int .i64 0, .int .u32 0, .int .i64 0, .int .i64 0, .int .u32 0, .int .u32 0, .int .u32 0, .int .u32 0, .slice none 0 0, .slice none 0 0]) ?_ 6 _ rfl; (with_reducible repeat (first | refine blk_drewN ?_ _ | refine blk_drew ?_ | refine blk_alloc ?_ _)); refine blk_put (cs := #[.int .i64 0, .int .u32 0, .int .i64 0, .int .i64 0, .int .u32 0, .int .u32 0, .int .u32 0, .int .u32 0, .slice none 0 0, .slice none 0 0]) ?_ 5 _ rfl; (with_reducible repeat (first | refine blk_drewN ?_ _ | refine blk_drew ?_ | refine blk_alloc ?_ _)); refine blk_put (cs := #[.int .i64 0, .int .u32 0, .int .i64 0, .int .i64 0, .int .u32 0, .int .u32 0, .int .u32 0, .int .u32 0, .slice none 0 0, .slice none 0 0]) ?_ 4 _ rfl; (with_reducible repeat (first | refine blk_drewN ?_ _ | refine blk_drew ?_ | refine blk_alloc ?_ _)); refine blk_put (cs := #[.int .i64 0, .int .u32 0, .int .i64 0, .int .i64 0, .int .u32 0, .int .u32 0, .int .u32 0, .int .u32 0, .slice none 0 0, .slice none 0 0]) ?_ 3 _ rfl; (with_reducible repeat (first | refine blk_drewN ?_ _ | refine blk_drew ?_ | refine blk_alloc ?_ _)); refine blk_put (cs := #[.int .i64 0, .int .u32 0, .int .i64 0, .int .i64 0, .int .u32 0, .int .u32 0, .int .u32 0, .int .u32 0, .slice none 0 0, .slice none 0 0]) ?_ 2 _ rfl; (with_reducible repeat (first | refine blk_drewN ?_ _ | refine blk_drew ?_ | refine blk_alloc ?_ _)); refine blk_put (cs := #[.int .i64 0, .int .u32 0, .int .i64 0, .int .i64 0, .int .u32 0, .int .u32 0, .int .u32 0, .int .u32 0, .slice none 0 0, .slice none 0 0]) ?_ 1 _ rfl; (with_reducible repeat (first | refine blk_drewN ?_ _ | refine blk_drew ?_ | refine blk_alloc ?_ _)); refine blk_put (cs := #[.int .i64 0, .int .u32 0, .int .i64 0, .int .i64 0, .int .u32 0, .int .u32 0, .int .u32 0, .int .u32 0, .slice none 0 0, .slice none 0 0]) ?_ 0 _ rfl; (with_reducible repeat (first | refine blk_drewN ?_ _ | refine blk_drew ?_ | refine blk_alloc ?_ _)); exact BK280.out) Try.underlying28 rfl (by kernel_rfl)) rfl ?_
     exact ⟨_, _, _, by first | rfl | (simp [errW_none, errW_some] <;> rfl) | (simp [*, errW_none, errW_some] <;> rfl), (by first | exact Kd.V_nil _ _ _ _ _ | exact Kd.V_mono (Kd.R_V (by first | exact Kd.R_nil _ _ _ _ _ | exact Kd.N_nil _ _ _ _ _ | exact Kd.V_nil _ _ _ _ _ | exact Kd.Q_nil _ _ _ _ _ | exact Kd.S_nil _ _ _ _ _)) (fun k_ hk => by first | exact ⟨(.inr (hk.1)), hk.2⟩ | exact (.inr (hk)))), by first | exact Kd.S_nil _ _ _ _ _ | exact Kd.N_nil _ _ _ _ _ | exact Kd.V_nil _ _ _ _ _ | exact Kd.Q_nil _ _ _ _ _ | exact Kd.R_nil _ _ _ _ _, by first | exact Kd.S_nil _ _ _ _ _ | exact Kd.N_nil _ _ _ _ _ | exact Kd.V_nil _ _ _ _ _ | exact Kd.Q_nil _ _ _ _ _ | exact Kd.R_nil _ _ _ _ _, by repeat (first | (with_reducible first | exact HB.out | apply below_alloc | apply pw_below_drewN | apply below_drew1 | refine below_set ?_ GE279.out | refine below_set ?_ GE280.out) | exact HB.out)⟩

end Go.Proofs.Ytnkajghemggaaaa.Pr
end

section
namespace Go.Proofs.Ytnkajghemggaaaa.PS
open Go.RowKit Go.Proofs.Ytnkajghemggaaaa Go.Proofs.Ytnkajghemggaaaa.Pr Go.Proofs.YtnkajghemggaaaaW.PrintWords Go.Proofs.YtnkajghemggaaaaW.PrintLast Go.Proofs.YtnkajghemggaaaaW.PrintMore
set_option linter.unusedVariables false
set_option linter.unusedSimpArgs false

theorem strip_loop (tg : List OptF) (a0 a1 a2 a3 a4 a5 a6 a7 : Int) (l8 : List Int) (l : List OptF) (hl : l.length ≤ 1000000) : ∀ (d i k : Nat) (acc : List OptF), l.length ≤ i + d → i ≤ l.length → d < k → acc.length ≤ i →
    lessorref26_Strip.l0 k tg acc (i : Int) a0 a1 a2 a3 a4 a5 a6 a7 l8 l = some (a0, a1, a2, a3, a4, a5, a6, 0, l8, acc ++ (l.drop i).filter (fun x => !(x.f0 == 82)), tg, 0) := by
  intro d
  induction d with
  | zero =>
    intro i k acc h1 h2 h3 h4
    obtain ⟨k, rfl⟩ : ∃ m, k = m + 1 := ⟨k - 1, by omega⟩
    simp only [lessorref26_Strip.l0]
    rw [if_neg (by omega), List.drop_eq_nil_of_le (by omega)]
    simp
  | succ d ih =>
    intro i k acc h1 h2 h3 h4
    obtain ⟨k, rfl⟩ : ∃ m, k = m + 1 := ⟨k - 1, by omega⟩
    simp only [lessorref26_Strip.l0]
    by_cases hlt : i < l.length
    · rw [if_pos (by omega), if_pos (by omega), rd_opt l hlt, wrapS (by omega) (by omega), show ((i : Int) + 1) = ((i + 1 : Nat) : Int) by omega, List.drop_eq_getElem_cons hlt, List.filter_cons]
      by_cases c : l[i].f0 = 82
      · rw [if_pos c, ih (i + 1) k acc (by omega) (by omega) (by omega) (by omega), if_neg (by simp [c])]
      · rw [if_neg c, if_pos (by omega), ih (i + 1) k _ (by omega) (by omega) (by omega) (by simp; omega), if_pos (by simp [c])]
        simp
    · rw [if_neg (by omega), List.drop_eq_nil_of_le (by omega)]
      simp
theorem ref_strip_eq (a0 a1 a2 a3 a4 a5 a6 a7 : Int) (l8 : List Int) (l9 : List OptF) (hf : fewP l8 l9) (hb : bytesO l9) (k : Nat) (hk : 520 ≤ k) : lessorref26_Strip.f k a0 a1 a2 a3 a4 a5 a6 a7 l8 l9 = some (stripR a0 a1 a2 a3 a4 a5 a6 a7 l8 l9) := by
  have hn := hf.2.1
  obtain ⟨h1, h2⟩ := opFind_fd hf hb
  unfold lessorref26_Strip.f stripR
  rw [PP.ref_right_eq _ _ _ _ _ _ _ _ _ _ (fewP_po hf) k (by omega)]
  simp only [Option.bind_some]
  obtain ⟨k, rfl⟩ : ∃ m, k = m + 1 := ⟨k - 1, by omega⟩
  by_cases c : PP.okPk a0 a2 a3 l8 l9
  · rw [decide_eq_true c, if_pos rfl]
    simp only [lessorref26_Strip.j0]
    by_cases c2 : a0 = 2
    · rw [if_neg (by simp [c2]), if_pos ⟨c, c2⟩, PF.ref_find_eq l9 (by omega) 82 k (by omega)]
      simp only [Option.bind_some]
      by_cases c3 : (opFind l9 82).2 = true
      · rw [if_pos c3, if_pos c3, PL.ref_decode_eq _ h1 k (by omega)]
        simp only [Option.bind_some]
        by_cases c4 : (PL.decR (opFind l9 82).1).2 = 0
        · have := strip_loop (PL.decR (opFind l9 82).1).1 a0 a1 a2 a3 a4 a5 a6 a7 l8 l9 (by omega) l9.length 0 k [] (by omega) (by omega) (by omega) (by simp)
          rw [if_pos c4, if_pos c4]
          simpa using this
        · rw [if_neg c4, if_neg c4]
          rcases PL.decR_cases _ h1 with ⟨m, e, _⟩ | e
          · rw [e] at c4; exact absurd rfl c4
          · rw [e]
      · rw [if_neg c3, if_neg c3]
    · rw [if_pos (by simpa using c2), if_neg (fun h => c2 h.2)]
  · rw [decide_eq_false c, if_neg (by decide), if_neg (fun h => c h.1)]
    simp only [lessorref26_Strip.j0]
    rfl
end Go.Proofs.Ytnkajghemggaaaa.PS
end

section
-- written by a program of this session (wip/tools/gen.py) over the kit's print
namespace Go.Proofs.Ytnkajghemggaaaa.Pr
open Go.RowKit Go.Proofs.YtnkajghemggaaaaW.PrintWords Go.Proofs.YtnkajghemggaaaaW.PrintLast Go.Proofs.YtnkajghemggaaaaW.PrintMore
attribute [local go_sem] max2_int min2_int max_two min_two max_three min_three max_four min_four   -- for this text's walks alone
set_option linter.unusedVariables false
set_option linter.unusedSimpArgs false

/-! ### lessorlaw26_awake: function 8 -/
def lessorlaw26_awake.f (k : Nat)  : Option (Bool) := (relay_Encode.f k (([(⟨1, (([7, 8] : List Int))⟩ : S48)] : List (S48)))).bind fun bt123 => (if bt123.2 = 0 then (some ((strOfNums bt123.1).toList == ([1, 2, 7, 8] : List UInt8))) else (some false))
theorem lessorlaw26_awake.mono : ∀ k, LeO (lessorlaw26_awake.f k ) (lessorlaw26_awake.f (k + 1) ) := by
 intro  k
 unfold lessorlaw26_awake.f
 repeat' first
   | (with_reducible exact relay_Encode.mono _ _)
   | (with_reducible exact LeO.refl _)
   | (with_reducible exact LeO.none _)
   | (with_reducible refine LeO.ite ?_ ?_)
   | (with_reducible refine LeO.bind ?_ (fun _ => ?_))
   | exact relay_Encode.mono _ _
   | exact LeO.none _
   | refine LeO.ite ?_ ?_
   | refine LeO.bind ?_ (fun _ => ?_)
set_option maxHeartbeats 8000000 in
set_option maxRecDepth 100000 in
theorem lessorlaw26_awake.calls (k : Nat)  (r : Bool) (w : World) (h : lessorlaw26_awake.f k  = some r) :
  Calls Try.prog 8 #[] w fun e w' => e = .returned (.bool r) ∧ Below w.heap.size w w' := by
 have hu48 := Try.underlying48
 have HB := Aside0.mk (Below.refl w.heap.size w)
 have H : ((relay_Encode.f k (([(⟨1, (([7, 8] : List Int))⟩ : S48)] : List (S48)))).bind fun bt123 => (if bt123.2 = 0 then (some ((strOfNums bt123.1).toList == ([1, 2, 7, 8] : List UInt8))) else (some false))) = some r := h
 clear h
 obtain ⟨y117, hy117⟩ : ∃ y_ : List Int, y_ = (([7, 8] : List Int)) := ⟨_, rfl⟩
 replace H : ((relay_Encode.f k (([(⟨1, y117⟩ : S48)] : List (S48)))).bind fun bt123 => (if bt123.2 = 0 then (some ((strOfNums bt123.1).toList == ([1, 2, 7, 8] : List UInt8))) else (some false))) = some r := by first | (rw [hy117]; with_reducible exact H) | (have H2_ := (Option.bind_some _ _).symm.trans H; rw [hy117]; with_reducible exact H2_) | (have H2_ := (Option.bind_some _ _).symm.trans H; with_reducible exact H2_) | with_reducible exact H | (rw [hy117]; exact H) | exact H
 have Ny117 := Aside0.mk hy117
 clear hy117
 obtain ⟨y120, hy120⟩ : ∃ y_ : List (S48), y_ = (([(⟨1, y117⟩ : S48)] : List (S48))) := ⟨_, rfl⟩
 replace H : ((relay_Encode.f k y120).bind fun bt123 => (if bt123.2 = 0 then (some ((strOfNums bt123.1).toList == ([1, 2, 7, 8] : List UInt8))) else (some false))) = some r := by first | (rw [hy120]; with_reducible exact H) | (have H2_ := (Option.bind_some _ _).symm.trans H; rw [hy120]; with_reducible exact H2_) | (have H2_ := (Option.bind_some _ _).symm.trans H; with_reducible exact H2_) | with_reducible exact H | (rw [hy120]; exact H) | exact H
 have Ny120 := Aside0.mk hy120
 clear hy120
 replace H := Option.bind_eq_some_iff.mp H
 obtain ⟨⟨t123, t124⟩, A10, H⟩ := H
 replace H : (if t124 = 0 then (some ((strOfNums t123).toList == ([1, 2, 7, 8] : List UInt8))) else (some false)) = some r := H
 have A1 := Aside0.mk A10
 clear A10
 by_cases c2 : t124 = 0
 ·rw [if_pos c2] at H
  have c2b0 : (t124 == 0) = true := beq_iff_eq.mpr c2
  have c2b1 : (t124 != 0) = false := bne_eq_false_iff_eq.mpr c2
  clear c2
  obtain rfl := Option.some.inj H
  go_enter Try.func8, Try.ntmps8
  go_wp2_with (first | ((with_reducible refine gate_dst (N := 4) rfl ?_); refine Kd.R_lit (Kd.int .u8) _ 5 ?hg_1 (N := 4) ?hd_1 (xs := ([7, 8] : List Int)) (inner := [.int .u8 7, .int .u8 8]) (ok := fun _ => True) (okp := fun _ => True) ?hr_1 ?hp_1 (fun _ hk => hk) trivial (Below.refl _ _) (Nat.le_refl _) (by simp) ?_; (case hd_1 => rfl); (case hg_1 => rfl); (case hr_1 => first | (go_simp; done) | (go_simp; rfl)); (case hp_1 => exact (Reps.one (show Kd.M (Kd.int .u8) _ _ _ 7 [.int .u8 7] from rfl) (Reps.one (show Kd.M (Kd.int .u8) _ _ _ 8 [.int .u8 8] from rfl) (Reps.none _ _)))); intro v118 w3 ho4 hb hg_ hnew_; clear hg_ hnew_; (first | rw [← Ny117.out] at ho4 | (simp only [Int.reduceToNat] at ho4; rw [← Ny117.out] at ho4)); have n0_ := Aside0.mk (Kd.R_lower ho4 (below_size (by repeat (first | (with_reducible first | exact HB.out | apply below_alloc | apply pw_below_drewN | apply below_drew1) | exact HB.out)))); have n1_ := Aside0.mk (below_step (by repeat (first | (with_reducible first | exact HB.out | apply below_alloc | apply pw_below_drewN | apply below_drew1) | exact HB.out)) hb); clear HB; have HO119 := n0_; have HB := n1_; clear n0_ n1_; clear hb ho4; obtain ⟨Ao5, co5, eo5⟩ := Kd.R_slice HO119.out; subst eo5) | ((with_reducible refine gate_dst (N := 6) rfl ?_); refine Kd.N_lit k48 _ 48 ?hg_2 (N' := 6) ?hd_2 (xs := ([(⟨1, y117⟩ : S48)] : List (S48))) (inner := [.int .i64 1, .slice Ao5 y117.length co5]) (ok := (fun _ => True)) (okp := (fun _ => True)) ?hr_2 ?hp_2 (fun _ hk => hk) ((show ∀ k_, w3.heap.size ≤ k_ → (fun _ => True) k_ from fun k_ hk => trivial) _ (Nat.le_refl _)) (Below.refl _ _) (Nat.le_refl _) (by simp) ?_; (case hd_2 => rfl); (case hg_2 => rfl); (case hr_2 => first | (go_simp; done) | (go_simp; rfl)); (case hp_2 => exact (Reps.c2 (show Kd.FK k48 _ _ (⟨1, y117⟩ : S48) [.int .i64 1, .slice Ao5 y117.length co5] from (k48_mkF _ _ (⟨1, y117⟩ : S48) (Kd.R_reads' (Kd.R_mono (ok' := (fun _ => True)) (HO119.out) (fun k_ hk => trivial))).2.1 (Kd.R_F (Kd.R_mono (ok' := (fun _ => True)) (HO119.out) (fun k_ hk => trivial))))) (Reps.none _ _))); intro v121 w6 ho7 hb hg_ hnew_; clear hg_ hnew_; (first | rw [← Ny120.out] at ho7 | (simp only [Int.reduceToNat] at ho7; rw [← Ny120.out] at ho7)); have n0_ := Aside0.mk (Kd.N_lower ho7 (below_size (by repeat (first | (with_reducible first | exact HB.out | apply below_alloc | apply pw_below_drewN | apply below_drew1) | exact HB.out)))); have n1_ := Aside0.mk (below_step (by repeat (first | (with_reducible first | exact HB.out | apply below_alloc | apply pw_below_drewN | apply below_drew1) | exact HB.out)) hb); clear HB; clear HO119; have HO122 := n0_; have HB := n1_; clear n0_ n1_; clear hb ho7; obtain ⟨Ao8, co8, eo8⟩ := Kd.N_slice HO122.out; subst eo8) | ((with_reducible refine gate_callee (f := 13) rfl ?_); refine goesL_ (some 7) rfl rfl Try.func13 (by kernel_rfl) rfl #[.slice Ao8 y120.length co8] rfl (by (try simp only [List.map_toArray, List.map_cons, List.map_nil]); first | done | rfl | (simp only [List.length_drop, List.length_take]; rfl)) ?_; (with_reducible refine (relay_Encode.calls k _ _ y120 t123 t124 _ ?side1_3 ?side2_3 A1.out).mono ?_); (case side1_3 => repeat (first | exact (Kd.N_reads' HO122.out).2.2 | (with_reducible refine Kd.C_alloc ?_ _) | (with_reducible refine Kd.C_drewN ?_ _) | (with_reducible refine Kd.C_drew ?_))); (case side2_3 => exact (Kd.N_reads' HO122.out).2.1); rintro e w9 ⟨v125, rfl, ho0, hb⟩; refine ⟨_, rfl, ?_⟩; have n0_ := Aside0.mk (Kd.N_elder' (by (with_reducible repeat (first | apply Kd.N_alloc | apply Kd.N_drewN | apply Kd.N_drew)); exact HO122.out) (Kd.R_base ho0) hb); have n1_ := Aside0.mk (Kd.R_lower ho0 (below_size (by repeat (first | (with_reducible first | exact HB.out | apply below_alloc | apply pw_below_drewN | apply below_drew1) | exact HB.out)))); have n2_ := Aside0.mk (below_step (by repeat (first | (with_reducible first | exact HB.out | apply below_alloc | apply pw_below_drewN | apply below_drew1) | exact HB.out)) hb); clear HO122; clear HB; have HO122 := n0_; have HO126 := n1_; have HB := n2_; clear n0_ n1_ n2_; (try clear hb); (try clear hb2); (try clear hk); (try clear hi); (try clear ho0); (first | (have hcv10 := own_string (P := Try.prog) Try.underlying25 Try.underlying5 Try.underlying9 (Kd.own_of_R HO126.out); have hcv10q := fun nq_ : Nat => own_string (P := Try.prog) Try.underlying25 Try.underlying5 Try.underlying9 (Kd.own_of_R (Kd.R_drewN HO126.out nq_))) | (have hcv10 := fun c_ : Nat => Kd.C_string (P := Try.prog) Try.underlying25 Try.underlying5 Try.underlying9 (c := c_) (Kd.V_reads' HO126.out).2.2; have hcv10q := fun (nq_ c_ : Nat) => Kd.C_string (P := Try.prog) Try.underlying25 Try.underlying5 Try.underlying9 (c := c_) (Kd.C_drewN (Kd.V_reads' HO126.out).2.2 nq_)))))
  go_ret
  exact ⟨by first | rfl | (simp [errW_none, errW_some] <;> rfl) | (simp [*, errW_none, errW_some] <;> rfl), by repeat (first | (with_reducible first | exact HB.out | apply below_alloc | apply pw_below_drewN | apply below_drew1) | exact HB.out)⟩
 ·rw [if_neg c2] at H
  have c2b0 : (t124 == 0) = false := beq_eq_false_iff_ne.mpr c2
  have c2b1 : (t124 != 0) = true := bne_iff_ne.mpr c2
  obtain rfl := Option.some.inj H
  go_enter Try.func8, Try.ntmps8
  go_wp2_with (first | ((with_reducible refine gate_dst (N := 4) rfl ?_); refine Kd.R_lit (Kd.int .u8) _ 5 ?hg_4 (N := 4) ?hd_4 (xs := ([7, 8] : List Int)) (inner := [.int .u8 7, .int .u8 8]) (ok := fun _ => True) (okp := fun _ => True) ?hr_4 ?hp_4 (fun _ hk => hk) trivial (Below.refl _ _) (Nat.le_refl _) (by simp) ?_; (case hd_4 => rfl); (case hg_4 => rfl); (case hr_4 => first | (go_simp; done) | (go_simp; rfl)); (case hp_4 => exact (Reps.one (show Kd.M (Kd.int .u8) _ _ _ 7 [.int .u8 7] from rfl) (Reps.one (show Kd.M (Kd.int .u8) _ _ _ 8 [.int .u8 8] from rfl) (Reps.none _ _)))); intro v118 w11 ho12 hb hg_ hnew_; clear hg_ hnew_; (first | rw [← Ny117.out] at ho12 | (simp only [Int.reduceToNat] at ho12; rw [← Ny117.out] at ho12)); have n0_ := Aside0.mk (Kd.R_lower ho12 (below_size (by repeat (first | (with_reducible first | exact HB.out | apply below_alloc | apply pw_below_drewN | apply below_drew1) | exact HB.out)))); have n1_ := Aside0.mk (below_step (by repeat (first | (with_reducible first | exact HB.out | apply below_alloc | apply pw_below_drewN | apply below_drew1) | exact HB.out)) hb); clear HB; have HO119 := n0_; have HB := n1_; clear n0_ n1_; clear hb ho12; obtain ⟨Ao13, co13, eo13⟩ := Kd.R_slice HO119.out; subst eo13) | ((with_reducible refine gate_dst (N := 6) rfl ?_); refine Kd.N_lit k48 _ 48 ?hg_5 (N' := 6) ?hd_5 (xs := ([(⟨1, y117⟩ : S48)] : List (S48))) (inner := [.int .i64 1, .slice Ao13 y117.length co13]) (ok := (fun _ => True)) (okp := (fun _ => True)) ?hr_5 ?hp_5 (fun _ hk => hk) ((show ∀ k_, w11.heap.size ≤ k_ → (fun _ => True) k_ from fun k_ hk => trivial) _ (Nat.le_refl _)) (Below.refl _ _) (Nat.le_refl _) (by simp) ?_; (case hd_5 => rfl); (case hg_5 => rfl); (case hr_5 => first | (go_simp; done) | (go_simp; rfl)); (case hp_5 => exact (Reps.c2 (show Kd.FK k48 _ _ (⟨1, y117⟩ : S48) [.int .i64 1, .slice Ao13 y117.length co13] from (k48_mkF _ _ (⟨1, y117⟩ : S48) (Kd.R_reads' (Kd.R_mono (ok' := (fun _ => True)) (HO119.out) (fun k_ hk => trivial))).2.1 (Kd.R_F (Kd.R_mono (ok' := (fun _ => True)) (HO119.out) (fun k_ hk => trivial))))) (Reps.none _ _))); intro v121 w14 ho15 hb hg_ hnew_; clear hg_ hnew_; (first | rw [← Ny120.out] at ho15 | (simp only [Int.reduceToNat] at ho15; rw [← Ny120.out] at ho15)); have n0_ := Aside0.mk (Kd.N_lower ho15 (below_size (by repeat (first | (with_reducible first | exact HB.out | apply below_alloc | apply pw_below_drewN | apply below_drew1) | exact HB.out)))); have n1_ := Aside0.mk (below_step (by repeat (first | (with_reducible first | exact HB.out | apply below_alloc | apply pw_below_drewN | apply below_drew1) | exact HB.out)) hb); clear HB; clear HO119; have HO122 := n0_; have HB := n1_; clear n0_ n1_; clear hb ho15; obtain ⟨Ao16, co16, eo16⟩ := Kd.N_slice HO122.out; subst eo16) | ((with_reducible refine gate_callee (f := 13) rfl ?_); refine goesL_ (some 7) rfl rfl Try.func13 (by kernel_rfl) rfl #[.slice Ao16 y120.length co16] rfl (by (try simp only [List.map_toArray, List.map_cons, List.map_nil]); first | done | rfl | (simp only [List.length_drop, List.length_take]; rfl)) ?_; (with_reducible refine (relay_Encode.calls k _ _ y120 t123 t124 _ ?side1_6 ?side2_6 A1.out).mono ?_); (case side1_6 => repeat (first | exact (Kd.N_reads' HO122.out).2.2 | (with_reducible refine Kd.C_alloc ?_ _) | (with_reducible refine Kd.C_drewN ?_ _) | (with_reducible refine Kd.C_drew ?_))); (case side2_6 => exact (Kd.N_reads' HO122.out).2.1); rintro e w17 ⟨v125, rfl, ho0, hb⟩; refine ⟨_, rfl, ?_⟩; have n0_ := Aside0.mk (Kd.N_elder' (by (with_reducible repeat (first | apply Kd.N_alloc | apply Kd.N_drewN | apply Kd.N_drew)); exact HO122.out) (Kd.R_base ho0) hb); have n1_ := Aside0.mk (Kd.R_lower ho0 (below_size (by repeat (first | (with_reducible first | exact HB.out | apply below_alloc | apply pw_below_drewN | apply below_drew1) | exact HB.out)))); have n2_ := Aside0.mk (below_step (by repeat (first | (with_reducible first | exact HB.out | apply below_alloc | apply pw_below_drewN | apply below_drew1) | exact HB.out)) hb); clear HO122; clear HB; have HO122 := n0_; have HO126 := n1_; have HB := n2_; clear n0_ n1_ n2_; (try clear hb); (try clear hb2); (try clear hk); (try clear hi); (try clear ho0)))
  go_ret
  exact ⟨by first | rfl | (simp [errW_none, errW_some] <;> rfl) | (simp [*, errW_none, errW_some] <;> rfl), by repeat (first | (with_reducible first | exact HB.out | apply below_alloc | apply pw_below_drewN | apply below_drew1) | exact HB.out)⟩

end Go.Proofs.Ytnkajghemggaaaa.Pr
end
