/-
  A small thing works first; WalNil: no disk is no log, a new disk is an empty one. No condition.
-/
import Derived.Test.YtfndajgmjkimgaaHWal3
namespace Go.Proofs.Ytfndajgmjkimgaa
open Go.RowKit Go.Proofs.Ytfndajgmjkimgaa.Pr Go.Proofs.Ytfndajgmjkimgaa.FrL Go.Proofs.YtfndajgmjkimgaaW.PrintWords Go.Proofs.YtfndajgmjkimgaaW.PrintLast Go.Proofs.YtfndajgmjkimgaaW.PrintMore
attribute [local go_sem] max2_int min2_int max_two min_two max_three min_three max_four min_four
set_option linter.unusedVariables false
set_option linter.unusedSimpArgs false

/-- A row of bytes out of a block that is known whole. -/
theorem C_blk {W : World} {g : Nat} {xs : List Int} {t : TypeId} {cs : Array Value} (hb : W.heap[g]? = some (.cells cs t (0, 0))) (hc : cs.toList = nums .u8 xs) (hm : xs.length ≤ 9223372036854775807) : (Kd.int .u8).C W (some ⟨g, 0, none⟩) xs.length xs := by
  refine Kd.C_of_reads (d := (0 : Int)) ⟨rfl, hm, fun _ => ⟨_, rfl, fun j hj => ?_⟩⟩
  rw [add_plain, blk_cell hb, ← Array.getElem?_toList, hc, nums, List.getElem?_map, List.getElem?_eq_getElem hj]
  simp [List.getD_eq_getElem?_getD, List.getElem?_eq_getElem hj]
theorem C_new (W : World) (g : Nat) (hg : g = W.heap.size) (xs : List Int) (t : TypeId) (cs : Array Value) (hc : cs.toList = nums .u8 xs) (hm : xs.length ≤ 9223372036854775807) : (Kd.int .u8).C (W.alloc (.cells cs t)) (some ⟨g, 0, none⟩) xs.length xs := by
  subst hg
  exact C_blk (blk_new _ _) hc hm
theorem str_of {W : World} {A : Option Addr} {n c : Nat} {xs : List Int} (h : (Kd.int .u8).C W A n xs) : (convert 33 9 (.slice A n c)).run Try.prog W = .ok (.string (strOfNums xs)) W :=
  Kd.C_string Try.underlying33 Try.underlying5 Try.underlying9 h

theorem open_new (room : Int) : (DkS.new room).open = (0, DkS.new room) := by
  have e : frScan ([] : List Int) = ([], 0) := by decide
  unfold DkS.open DkS.used
  rw [show (DkS.new room).b = [] from rfl, e]
  rfl
theorem recs_new (room : Int) : (DkS.new room).recs = [] := by
  have e : frScan ([] : List Int) = ([], 0) := by decide
  unfold DkS.recs
  rw [show (DkS.new room).b = [] from rfl, e]
def wa1 : DkS := ⟨100, [0, 1, 1, 90], 0, -1⟩
def wa2 : DkS := ⟨100, [0, 1, 1, 90], 4, -1⟩
def wa3 : DkS := ⟨100, [0, 1, 1, 90, 0, 1, 2, 90], 4, -1⟩
def wa4 : DkS := ⟨100, [0, 1, 1, 90, 0, 1], 6, -1⟩
def wa5 : DkS := ⟨100, [0, 1, 1, 90], 4, -1⟩
theorem wok0 : (DkS.new 100).ok := DkS.ok_new (by decide) (by decide)
theorem wok1 : wa1.ok := by unfold DkS.ok; decide
theorem wok2 : wa2.ok := by unfold DkS.ok; decide
theorem wok3 : wa3.ok := by unfold DkS.ok; decide
theorem wok4 : wa4.ok := by unfold DkS.ok; decide
theorem wok5 : wa5.ok := by unfold DkS.ok; decide
theorem wst1 : (DkS.new 100).put [1] = (0, wa1) := by
  unfold DkS.put
  rw [if_pos (by unfold rOk; decide)]
  simp [DkS.append, DkS.new, DkS.count, wa1, putOf]
theorem wst2 : wa1.sync = (0, wa2) := by simp [DkS.sync, DkS.count, wa1, wa2]
theorem wst3 : wa2.put [2] = (0, wa3) := by
  unfold DkS.put
  rw [if_pos (by unfold rOk; decide)]
  simp [DkS.append, DkS.count, wa2, wa3, putOf]
theorem wst4 : wa3.crash 2 = wa4 := by simp [DkS.crash, DkS.crashed, wa3, wa4]
theorem wst5 : wa4.open = (0, wa5) := by
  have e : frScan wa4.b = ([[1]], 4) := by decide +kernel
  unfold DkS.open DkS.used
  rw [e]
  simp [wa4, wa5, DkS.swap, DkS.count]
theorem wrec5 : wa5.recs.length = 1 := by unfold DkS.recs; decide +kernel

set_option maxHeartbeats 1000000 in
theorem wawake_calls (w : World) : Calls Try.prog 8 #[] w fun e w' => e = .returned (.bool true) ∧ Below w.heap.size w w' := by
  go_enter Try.func8, Try.ntmps8
  go_wp2_with (go_at_call 9; refine (disk_New_ok 100 _ (by decide) (by decide)).mono ?_; rintro e w1 ⟨rfl, rfl⟩)
  obtain ⟨g, hg⟩ : ∃ g, w.heap.size = g := ⟨_, rfl⟩
  have hD := new_at 64 5 100 w
  have hB := below_alloc (Below.refl w.heap.size w) (.cells #[.int .i64 100, .slice none 0 0, .int .i64 0, .int .i64 (-1)] 64)
  obtain ⟨W1, hW1⟩ : ∃ W1, w.alloc (.cells #[.int .i64 100, .slice none 0 0, .int .i64 0, .int .i64 (-1)] 64) = W1 := ⟨_, rfl⟩
  rw [hW1] at hD hB
  rw [hg] at hD
  rw [hW1, hg]
  have GE : Hid (w.heap.size ≤ g) := by show _ ≤ _; omega
  have D1 := Lib.hid hD
  have B1 := Lib.hid hB
  clear hg hW1 hD hB
  refine (wal_Open g _ _ D1.out wok0).mono ?_
  rw [open_new]
  rintro e w2 ⟨p, rfl, h2, f2, h4, _⟩
  obtain ⟨l, hl, rfl, lk⟩ := h4 rfl
  have D2 := Lib.hid h2
  have L2 := Lib.hid lk
  have B2 := Lib.hid (below_fr B1.out f2 B1.out.size (fun i hi => by rw [hi]; exact GE.out))
  have NE : Hid (l ≠ g) := by obtain ⟨v, hv, _⟩ := h2; exact blk_ne lk hv (by decide)
  clear h2 f2 h4 hl lk
  go_wp2_with fail
  refine (wal_Put l g (DkS.new 100) _ 1 [1] _ (blk_alloc L2.out _) (D2.out.alloc _) wok0 (C_new _ _ (by simp) _ _ #[.int .u8 1] rfl (by decide)) (by decide)).mono ?_
  rw [wst1]
  rintro e w3 ⟨rfl, h3, f3⟩
  have D3 := Lib.hid h3
  have L3 := Lib.hid (f3.blk (blk_alloc L2.out _) NE.out)
  have B3 := Lib.hid (below_fr (below_alloc B2.out _) f3 (by have := B2.out.size; simp; omega) (fun i hi => by rw [hi]; exact GE.out))
  have y1 : w3.cell? ⟨l, 0, none⟩ = some (.pointer (some ⟨g, 0, none⟩)) := (blk_cell L3.out 0).trans rfl
  clear h3 f3
  go_wp2_with (go_at_call 12; refine (disk_Sync g wa1 _ D3.out wok1).mono ?_; rw [wst2]; rintro e w4 ⟨rfl, h4, f4⟩; have D4 := Lib.hid h4; have L4 := Lib.hid (f4.blk L3.out NE.out); have B4 := Lib.hid (below_fr B3.out f4 B3.out.size (fun i hi => by rw [hi]; exact GE.out)); clear h4 f4)
  refine (wal_Put l g wa2 _ 1 [2] _ (blk_alloc L4.out _) (D4.out.alloc _) wok2 (C_new _ _ (by simp) _ _ #[.int .u8 2] rfl (by decide)) (by decide)).mono ?_
  rw [wst3]
  rintro e w5 ⟨rfl, h5, f5⟩
  have D5 := Lib.hid h5
  have B5 := Lib.hid (below_fr (below_alloc B4.out _) f5 (by have := B4.out.size; simp; omega) (fun i hi => by rw [hi]; exact GE.out))
  clear h5 f5
  go_wp2_with (go_at_call 13; refine (disk_Crash g wa3 2 _ D5.out wok3).mono ?_; rw [wst4]; rintro e w6 ⟨rfl, h6, f6⟩; have D6 := Lib.hid h6; have B6 := Lib.hid (below_fr B5.out f6 B5.out.size (fun i hi => by rw [hi]; exact GE.out)); clear h6 f6)
  refine (wal_Open g _ _ D6.out wok4).mono ?_
  rw [wst5]
  rintro e w7 ⟨p, rfl, h7, f7, h8, _⟩
  obtain ⟨l7, hl7, rfl, lk7⟩ := h8 rfl
  have D7 := Lib.hid h7
  have L7 := Lib.hid lk7
  have B7 := Lib.hid (below_fr B6.out f7 B6.out.size (fun i hi => by rw [hi]; exact GE.out))
  clear h7 f7 h8 hl7 lk7
  go_wp2_with (go_at_call 16; refine (wal_Len l7 g wa5 _ L7.out D7.out wok5).mono ?_; rw [wrec5]; rintro e w8 ⟨rfl, hb⟩; have D8 := Lib.hid (D7.out.below hb); have B8 := Lib.hid (B7.out.trans (hb.mono B7.out.size)); clear hb)
  refine (disk_Read g wa5 _ D8.out (by decide)).mono ?_
  rintro e w9 ⟨v, rfl, hv, hb⟩
  obtain ⟨A9, c9, rfl⟩ := Kd.R_slice hv
  have B9 := Lib.hid (B8.out.trans (hb.mono B8.out.size))
  rw [show wa5.b.length = 4 from rfl]
  clear hv hb
  go_wp2_with fail
  go_ret
  exact ⟨rfl, B9.out⟩

set_option maxHeartbeats 1000000 in
theorem WalNil_calls (room : Int) (w : World) : Calls Try.prog 4 #[.int .i64 room] w fun e w' => e = .returned (.bool true) ∧ Below w.heap.size w w' := by
  go_enter Try.func4, Try.ntmps4
  go_wp2_with (first
    | (go_at_call 8; refine (wawake_calls _).mono ?_; rintro e w1 ⟨rfl, b1⟩; have B1 := Lib.hid b1; clear b1)
    | (go_at_call 10; refine (wal_Open_nil _).mono ?_; rintro e wz ⟨rfl, rfl⟩)
    | fail)
  by_cases hroom : 1 ≤ room ∧ room ≤ 1048576
  · obtain ⟨h1, h2⟩ := hroom
    refine (disk_New_ok room _ h1 h2).mono ?_
    rintro e w3 ⟨rfl, rfl⟩
    have hge : w.heap.size ≤ wz.heap.size := B1.out.size
    have hD := new_at 64 5 room wz
    have hB := below_alloc B1.out (.cells #[.int .i64 room, .slice none 0 0, .int .i64 0, .int .i64 (-1)] 64)
    obtain ⟨g, hg⟩ : ∃ g, wz.heap.size = g := ⟨_, rfl⟩
    obtain ⟨W1, hW1⟩ : ∃ W1, wz.alloc (.cells #[.int .i64 room, .slice none 0 0, .int .i64 0, .int .i64 (-1)] 64) = W1 := ⟨_, rfl⟩
    rw [hW1] at hD hB
    rw [hg] at hD
    rw [hW1, hg]
    have GE : Hid (w.heap.size ≤ g) := by show _ ≤ _; omega
    have D1 := Lib.hid hD
    have BB := Lib.hid hB
    have OK0 := Lib.hid (DkS.ok_new h1 h2)
    clear hg hW1 hD hB hge
    go_wp2_with fail
    refine (wal_Open g _ _ D1.out OK0.out).mono ?_
    rw [open_new]
    rintro e w2 ⟨p, rfl, h2', f2, h4, _⟩
    obtain ⟨l, hl, rfl, lk⟩ := h4 rfl
    have D2 := Lib.hid h2'
    have L2 := Lib.hid lk
    have B2 := Lib.hid (below_fr BB.out f2 BB.out.size (fun i hi => by rw [hi]; exact GE.out))
    clear h2' f2 h4 hl lk
    go_wp2_with (go_at_call 16; refine (wal_Len l g _ _ L2.out D2.out OK0.out).mono ?_; rw [recs_new]; rintro e w8 ⟨rfl, hb⟩; have B8 := Lib.hid (B2.out.trans (hb.mono B2.out.size)); clear hb)
    go_ret
    exact ⟨rfl, B8.out⟩
  · have h1 : room < 1 ∨ 1048576 < room := by omega
    refine (disk_New_no room _ h1).mono ?_
    clear h1 hroom
    rintro e w3 ⟨rfl, rfl⟩
    go_wp2_with fail
    go_ret
    exact ⟨rfl, B1.out⟩

def lessorlaw10_WalNil.f (a0 : Int) : Option Bool := some true
theorem lessorlaw10_WalNil.calls (a0 : Int) (r : Bool) (w : World) (h : lessorlaw10_WalNil.f a0 = some r) :
    Calls Try.prog 4 #[.int .i64 a0] w fun e w' => e = .returned (.bool r) ∧ Below w.heap.size w w' := by
  obtain rfl : true = r := Option.some.inj h
  exact WalNil_calls a0 w
end Go.Proofs.Ytfndajgmjkimgaa
