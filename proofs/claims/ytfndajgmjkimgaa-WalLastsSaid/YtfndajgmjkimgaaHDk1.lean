/-
  A disk's methods, one by one: New, Fail, Lasts, Read and the three changes' bodies. Conditions: the disk is one that may be.
-/
import Derived.Test.YtfndajgmjkimgaaHOwn
import Derived.StillTailTactics
import Derived.WalkLawsBesides
namespace Go.Proofs.Ytfndajgmjkimgaa
open Go.RowKit Go.Proofs.YtfndajgmjkimgaaW.PrintWords Go.Proofs.YtfndajgmjkimgaaW.PrintLast Go.Proofs.YtfndajgmjkimgaaW.PrintMore
attribute [local go_sem] max2_int min2_int max_two min_two max_three min_three max_four min_four
set_option linter.unusedVariables false
set_option linter.unusedSimpArgs false

/-- The program's disk, and the document's. -/
abbrev DK (w : World) (g : Nat) (d : DkS) : Prop := DkAt 64 5 w g d
abbrev RK (w : World) (g : Nat) (d : DkS) : Prop := DkAt 61 5 w g d

theorem DkAt.set_in {T U : TypeId} {w : World} {g : Nat} {d : DkS} (h : DkAt T U w g d) (hU : U ≠ T) (x : Int) : DkAt T U (w.setCell ⟨g, 3, none⟩ (.int .i64 x)) g { d with inn := x } := by
  obtain ⟨v, hv, hr⟩ := h
  refine ⟨v, (blk_set hv 3 _).trans rfl, Kd.R_set hr hv (fun q hq => ?_) 3 _⟩
  rcases List.mem_cons.1 hq with rfl | hq
  · exact hU
  · cases hq
theorem DkAt.set_last {T U : TypeId} {w : World} {g : Nat} {d : DkS} (h : DkAt T U w g d) (hU : U ≠ T) (x : Int) : DkAt T U (w.setCell ⟨g, 2, none⟩ (.int .i64 x)) g { d with last := x } := by
  obtain ⟨v, hv, hr⟩ := h
  refine ⟨v, (blk_set hv 2 _).trans rfl, Kd.R_set hr hv (fun q hq => ?_) 2 _⟩
  rcases List.mem_cons.1 hq with rfl | hq
  · exact hU
  · cases hq
theorem DkAt.set_b {T U : TypeId} {w : World} {g : Nat} {d : DkS} (h : DkAt T U w g d) (hU : U ≠ T) {v2 : Value} {b2 : List Int} (h2 : (Kd.int .u8).R U w 0 (fun _ => True) v2 b2) : DkAt T U (w.setCell ⟨g, 1, none⟩ v2) g { d with b := b2 } := by
  obtain ⟨v, hv, hr⟩ := h
  refine ⟨v2, (blk_set hv 1 _).trans rfl, Kd.R_set h2 hv (fun q hq => ?_) 1 _⟩
  rcases List.mem_cons.1 hq with rfl | hq
  · exact hU
  · cases hq
theorem fr_set (w : World) (g i : Nat) (u : Value) : Fr w (w.setCell ⟨g, i, none⟩ u) (fun k => k = g) := (Fr.refl w (fun k => k = g)).setCell (p := ⟨g, i, none⟩) (.inl rfl) u

theorem C_one {W : World} {h : Nat} {A : Option Addr} {c : Nat} {xs : List Int} {t : TypeId} (hb : W.heap[h]? = some (.cells #[.slice A xs.length c] t (0, 0))) (hx : (Kd.int .u8).C W A xs.length xs) (hc : xs.length ≤ c) :
    (Kd.slice 5 (Kd.int .u8)).C W (some ⟨h, 0, none⟩) [xs].length [xs] := by
  refine ⟨rfl, by simp, fun _ => ⟨_, rfl, fun j p hj => ?_⟩⟩
  have hj1 : j < 1 := (List.getElem?_eq_some_iff.1 hj).1
  obtain rfl : j = 0 := by omega
  obtain rfl : xs = p := Option.some.inj hj
  refine ⟨[.slice A xs.length c], rfl, ⟨A, c, rfl, hc, hx⟩, fun i u hu => ?_⟩
  have hi1 : i < 1 := (List.getElem?_eq_some_iff.1 hu).1
  obtain rfl : i = 0 := by omega
  obtain rfl := Option.some.inj hu
  exact (blk_cell hb 0).trans rfl
theorem C_two {W : World} {h : Nat} {A B : Option Addr} {c cb : Nat} {xs ys : List Int} {t : TypeId} (hb : W.heap[h]? = some (.cells #[.slice A xs.length c, .slice B ys.length cb] t (0, 0))) (hx : (Kd.int .u8).C W A xs.length xs) (hc : xs.length ≤ c)
    (hy : (Kd.int .u8).C W B ys.length ys) (hcb : ys.length ≤ cb) : (Kd.slice 5 (Kd.int .u8)).C W (some ⟨h, 0, none⟩) [xs, ys].length [xs, ys] := by
  refine ⟨rfl, by simp, fun _ => ⟨_, rfl, fun j p hj => ?_⟩⟩
  have hj1 : j < 2 := (List.getElem?_eq_some_iff.1 hj).1
  obtain rfl | rfl : j = 0 ∨ j = 1 := by omega
  · obtain rfl : xs = p := Option.some.inj hj
    refine ⟨[.slice A xs.length c], rfl, ⟨A, c, rfl, hc, hx⟩, fun i u hu => ?_⟩
    have hi1 : i < 1 := (List.getElem?_eq_some_iff.1 hu).1
    obtain rfl : i = 0 := by omega
    obtain rfl := Option.some.inj hu
    exact (blk_cell hb 0).trans rfl
  · obtain rfl : ys = p := Option.some.inj hj
    refine ⟨[.slice B ys.length cb], rfl, ⟨B, cb, rfl, hcb, hy⟩, fun i u hu => ?_⟩
    have hi1 : i < 1 := (List.getElem?_eq_some_iff.1 hu).1
    obtain rfl : i = 0 := by omega
    obtain rfl := Option.some.inj hu
    exact (blk_cell hb 1).trans rfl

theorem disk_New_ok (room : Int) (w : World) (h1 : 1 ≤ room) (h2 : room ≤ 1048576) :
    Calls Try.prog 9 #[.int .i64 room] w fun e w' => e = .returned (.tuple #[.pointer (some ⟨w.heap.size, 0, none⟩), .int .i64 0]) ∧ w' = w.alloc (.cells #[.int .i64 room, .slice none 0 0, .int .i64 0, .int .i64 (-1)] 64) := by
  go_enter Try.func9, Try.ntmps9
  go_wp2
  go_ret2
  exact ⟨rfl, rfl⟩
theorem disk_New_no (room : Int) (w : World) (h : room < 1 ∨ 1048576 < room) :
    Calls Try.prog 9 #[.int .i64 room] w fun e w' => e = .returned (.tuple #[.pointer none, .int .i64 1]) ∧ w' = w := by
  by_cases h1 : room < 1
  · clear h
    go_enter Try.func9, Try.ntmps9
    go_wp2
    go_ret2
    exact ⟨rfl, rfl⟩
  · have h2 : 1048576 < room := by omega
    clear h
    go_enter Try.func9, Try.ntmps9
    go_wp2
    go_ret2
    exact ⟨rfl, rfl⟩
theorem ref_New_ok (room : Int) (w : World) (h1 : 1 ≤ room) (h2 : room ≤ 1048576) :
    Calls Try.prog 18 #[.int .i64 room] w fun e w' => e = .returned (.tuple #[.pointer (some ⟨w.heap.size, 0, none⟩), .int .i64 0]) ∧ w' = w.alloc (.cells #[.int .i64 room, .slice none 0 0, .int .i64 0, .int .i64 (-1)] 61) := by
  go_enter Try.func18, Try.ntmps18
  go_wp2
  go_ret2
  exact ⟨rfl, rfl⟩
theorem ref_New_no (room : Int) (w : World) (h : room < 1 ∨ 1048576 < room) :
    Calls Try.prog 18 #[.int .i64 room] w fun e w' => e = .returned (.tuple #[.pointer none, .int .i64 1]) ∧ w' = w := by
  by_cases h1 : room < 1
  · clear h
    go_enter Try.func18, Try.ntmps18
    go_wp2
    go_ret2
    exact ⟨rfl, rfl⟩
  · have h2 : 1048576 < room := by omega
    clear h
    go_enter Try.func18, Try.ntmps18
    go_wp2
    go_ret2
    exact ⟨rfl, rfl⟩
theorem new_at (T U : TypeId) (room : Int) (w : World) : DkAt T U (w.alloc (.cells #[.int .i64 room, .slice none 0 0, .int .i64 0, .int .i64 (-1)] T)) w.heap.size (DkS.new room) := ⟨_, blk_new w _, Kd.R_nil _ _ _ _ _⟩

theorem disk_Fail (g : Nat) (d : DkS) (n : Int) (w : World) (h : DK w g d) :
    Calls Try.prog 37 #[.pointer (some ⟨g, 0, none⟩), .int .i64 n] w fun e w' => e = .returned (.tuple #[]) ∧ DK w' g (d.fail n) ∧ Fr w w' (fun k => k = g) := by
  have h' := h
  obtain ⟨v, hv, hr⟩ := h'
  have z3 := blk_frozen hv 3
  have c3 := (blk_cell hv 3).trans rfl
  have H := Lib.hid h
  clear h hv hr
  by_cases hn : n < -1
  all_goals
    have e : d.fail n = { d with inn := if n < -1 then -1 else n } := rfl
    first | rw [if_pos hn] at e | rw [if_neg hn] at e
    have E := Lib.hid e
    clear e
    go_enter Try.func37, Try.ntmps37
    go_wp2
    go_end0
    rw [E.out]
    exact ⟨rfl, H.out.set_in (by decide) _, fr_set w g 3 _⟩
theorem ref_Fail (g : Nat) (d : DkS) (n : Int) (w : World) (h : RK w g d) :
    Calls Try.prog 38 #[.pointer (some ⟨g, 0, none⟩), .int .i64 n] w fun e w' => e = .returned (.tuple #[]) ∧ RK w' g (d.fail n) ∧ Fr w w' (fun k => k = g) := by
  have h' := h
  obtain ⟨v, hv, hr⟩ := h'
  have z3 := blk_frozen hv 3
  have c3 := (blk_cell hv 3).trans rfl
  have H := Lib.hid h
  clear h hv hr
  by_cases hn : n < -1
  all_goals
    have e : d.fail n = { d with inn := if n < -1 then -1 else n } := rfl
    first | rw [if_pos hn] at e | rw [if_neg hn] at e
    have E := Lib.hid e
    clear e
    go_enter Try.func38, Try.ntmps38
    go_wp2
    go_end0
    rw [E.out]
    exact ⟨rfl, H.out.set_in (by decide) _, fr_set w g 3 _⟩
theorem disk_Lasts (g : Nat) (d : DkS) (w : World) (h : DK w g d) :
    Calls Try.prog 24 #[.pointer (some ⟨g, 0, none⟩)] w fun e w' => e = .returned (.int .i64 d.last) ∧ w' = w := by
  obtain ⟨v, hv, hr⟩ := h
  have c2 := (blk_cell hv 2).trans rfl
  clear hv hr
  go_enter Try.func24, Try.ntmps24
  go_wp2
  go_ret
  exact ⟨rfl, rfl⟩
set_option maxHeartbeats 1000000 in
theorem disk_Read (g : Nat) (d : DkS) (w : World) (h : DK w g d) (hl : d.b.length ≤ 140737488355328) :
    Calls Try.prog 22 #[.pointer (some ⟨g, 0, none⟩)] w fun e w' => ∃ v, e = .returned v ∧ (Kd.int .u8).R 5 w' w.heap.size (fun _ => True) v d.b ∧ Below w.heap.size w w' := by
  obtain ⟨v, hv, hr⟩ := h
  obtain ⟨A, c, rfl, hc, hC⟩ := Kd.R_reads hr
  have c1 := (blk_cell hv 1).trans rfl
  have HC := Lib.hid hC
  have HCC := Lib.hid hc
  clear hv hr hC hc
  go_enter Try.func22, Try.ntmps22
  go_wp2_with (go_at_call 31; refine (own_calls _ _ [d.b] _ (C_one (blk_new _ _) (Kd.C_alloc HC.out _) HCC.out) (by simp) (by simpa using hl) (by simp)).mono ?_; rintro e w' ⟨v, rfl, hv, hb⟩)
  go_ret
  refine ⟨_, rfl, ?_, (below_alloc (Below.refl _ _) _).trans (hb.mono (by simp))⟩
  have := Kd.R_lower hv (base' := w.heap.size) (by simp)
  simpa using this
end Go.Proofs.Ytfndajgmjkimgaa
