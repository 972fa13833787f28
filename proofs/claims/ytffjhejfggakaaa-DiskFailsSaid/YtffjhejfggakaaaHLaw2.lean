/-
  A small thing works first: awake returns true. No condition.
-/
import Derived.Test.YtffjhejfggakaaaHLaw1
namespace Go.Proofs.Ytffjhejfggakaaa
open Go.RowKit Go.Proofs.YtffjhejfggakaaaW.PrintWords Go.Proofs.YtffjhejfggakaaaW.PrintLast Go.Proofs.YtffjhejfggakaaaW.PrintMore
attribute [local go_sem] max2_int min2_int max_two min_two max_three min_three max_four min_four
set_option linter.unusedVariables false
set_option linter.unusedSimpArgs false

/-- A row of bytes out of a block that is known whole. -/
theorem C_blk {W : World} {g : Nat} {xs : List Int} {t : TypeId} {cs : Array Value} (hb : W.heap[g]? = some (.cells cs t (0, 0))) (hc : cs.toList = nums .u8 xs) (hm : xs.length ≤ 9223372036854775807) : (Kd.int .u8).C W (some ⟨g, 0, none⟩) xs.length xs := by
  refine Kd.C_of_reads (d := (0 : Int)) ⟨rfl, hm, fun _ => ⟨_, rfl, fun j hj => ?_⟩⟩
  rw [add_plain, blk_cell hb, ← Array.getElem?_toList, hc, nums, List.getElem?_map, List.getElem?_eq_getElem hj]
  simp [List.getD_eq_getElem?_getD, List.getElem?_eq_getElem hj]
theorem C_new (W : World) (g : Nat) (hg : g = W.heap.size) (xs : List Int) (t : TypeId) (cs : Array Value) (hc : cs.toList = nums .u8 xs) (hm : xs.length ≤ 9223372036854775807) : (Kd.int .u8).C (W.alloc (.cells cs t)) (some ⟨g, 0, none⟩) xs.length xs := by
  subst hg
  exact C_blk (blk_new _ _) hc hm
theorem str_of {W : World} {A : Option Addr} {n c : Nat} {xs : List Int} (h : (Kd.int .u8).C W A n xs) : (convert 29 9 (.slice A n c)).run Try.prog W = .ok (.string (strOfNums xs)) W :=
  Kd.C_string Try.underlying29 Try.underlying5 Try.underlying9 h

def aw1 : DkS := ⟨9, [1], 0, -1⟩
def aw2 : DkS := ⟨9, [1], 1, -1⟩
def aw3 : DkS := ⟨9, [1, 2, 3], 1, -1⟩
def aw4 : DkS := ⟨9, [1, 2], 2, -1⟩
theorem ok0 : (DkS.new 9).ok := DkS.ok_new (by decide) (by decide)
theorem ok1 : aw1.ok := by unfold DkS.ok; decide
theorem ok2 : aw2.ok := by unfold DkS.ok; decide
theorem ok3 : aw3.ok := by unfold DkS.ok; decide

theorem st1 : (DkS.new 9).append [1] = (0, aw1) := by simp [DkS.append, DkS.new, DkS.count, aw1]
theorem st2 : aw1.sync = (0, aw2) := by simp [DkS.sync, DkS.count, aw1, aw2]
theorem st3 : aw2.append [2, 3] = (0, aw3) := by simp [DkS.append, DkS.count, aw2, aw3]
theorem st4 : aw3.crash 1 = aw4 := by simp [DkS.crash, DkS.crashed, aw3, aw4]
theorem str12 : strOfNums [1, 2] = ⟨#[1, 2]⟩ := by decide

set_option maxHeartbeats 400000 in
theorem awake_calls (w : World) : Calls Try.prog 8 #[] w fun e w' => e = .returned (.bool true) ∧ Below w.heap.size w w' := by
  go_enter Try.func8, Try.ntmps8
  go_wp2_with (go_at_call 9; refine (disk_New_ok 9 _ (by decide) (by decide)).mono ?_; rintro e w1 ⟨rfl, rfl⟩; obtain ⟨g, hg⟩ : ∃ g, w.heap.size = g := ⟨_, rfl⟩; have HD := Lib.hid (new_at 48 5 9 w); have HB := Lib.hid (below_alloc (Below.refl w.heap.size w) (.cells #[.int .i64 9, .slice none 0 0, .int .i64 0, .int .i64 (-1)] 48)); rw [hg] at HD ⊢; have HG := Lib.hid hg; clear hg)
  refine (disk_Append g (DkS.new 9) _ 1 [1] _ (HD.out.alloc _) ok0 (C_new _ _ (by simp) _ _ #[.int .u8 1] rfl (by decide)) (by decide) (by decide)).mono ?_
  rw [st1]
  rintro e w1 ⟨rfl, h1, f1⟩
  have B1 := Lib.hid (below_fr (below_alloc HB.out _) f1 (by simp; omega) (fun k hk => by rw [hk, ← HG.out]; exact Nat.le_refl _))
  have H1 := Lib.hid h1
  clear h1 f1
  go_wp2_with (go_at_call 13; refine (disk_Sync g aw1 _ H1.out ok1).mono ?_; rw [st2]; rintro e w2 ⟨rfl, h2, f2⟩; have B2 := Lib.hid (below_fr B1.out f2 B1.out.size (fun k hk => by rw [hk, ← HG.out]; exact Nat.le_refl _)); have H2 := Lib.hid h2; clear h2 f2)
  refine (disk_Append g aw2 _ 2 [2, 3] _ (H2.out.alloc _) ok2 (C_new _ _ (by simp) _ _ #[.int .u8 2, .int .u8 3] rfl (by decide)) (by decide) (by decide)).mono ?_
  rw [st3]
  rintro e w3 ⟨rfl, h3, f3⟩
  have B3 := Lib.hid (below_fr (below_alloc B2.out _) f3 (by have := B2.out.size; simp; omega) (fun k hk => by rw [hk, ← HG.out]; exact Nat.le_refl _))
  have H3 := Lib.hid h3
  clear h3 f3
  go_wp2_with (first
    | (go_at_call 12; refine (disk_Crash g aw3 1 _ H3.out ok3).mono ?_; rw [st4]; rintro e w4 ⟨rfl, h4, f4⟩; have B4 := Lib.hid (below_fr B3.out f4 B3.out.size (fun k hk => by rw [hk, ← HG.out]; exact Nat.le_refl _)); have H4 := Lib.hid h4; clear h4 f4)
    | fail)
  refine (disk_Read g aw4 _ H4.out (by decide)).mono ?_
  rintro e w5 ⟨v, rfl, hv, hb⟩
  obtain ⟨A5, c5, rfl, hc5, hC5⟩ := Kd.R_reads hv
  have hcv := str_of (c := c5) hC5
  rw [show strOfNums aw4.b = ⟨#[1, 2]⟩ from str12] at hcv
  have B5 := Lib.hid (B4.out.trans (hb.mono B4.out.size))
  have H5 := Lib.hid (H4.out.below hb)
  clear hv hb hC5 hc5
  go_wp2_with (go_at_call 18; refine (disk_Lasts g aw4 _ H5.out).mono ?_; rintro e w6 ⟨rfl, rfl⟩)
  go_ret
  exact ⟨rfl, B5.out⟩
end Go.Proofs.Ytffjhejfggakaaa
