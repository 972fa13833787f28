/-
  A net's methods, one by one: New, Len, Cut, one, place.
-/
import Derived.Test.YtokcplapbjhnoaaHClone
import Derived.Test.YtokcplapbjhnoaaNt
import Derived.Lib.Hide
import Derived.StillTailTactics
import Derived.WalkLawsBesides
namespace Go.Proofs.Ytokcplapbjhnoaa
open Go.RowKit Go.Proofs.YtokcplapbjhnoaaW.PrintWords Go.Proofs.YtokcplapbjhnoaaW.PrintLast Go.Proofs.YtokcplapbjhnoaaW.PrintMore
attribute [local go_sem] max2_int min2_int max_two min_two max_three min_three max_four min_four
set_option linter.unusedVariables false
set_option linter.unusedSimpArgs false

/-- The program's net, and the document's. -/
abbrev NN (w : World) (g : Nat) (O : Nat → Prop) (n : NtS) : Prop := NtAt 49 5 28 w g O n
abbrev RN (w : World) (g : Nat) (O : Nat → Prop) (n : NtS) : Prop := NtAt 57 5 28 w g O n

theorem net_New_ok (room : Int) (w : World) (h1 : 1 ≤ room) (h2 : room ≤ 1000) :
    Calls Try.prog 8 #[.int .i64 room] w fun e w' => e = .returned (.tuple #[.pointer (some ⟨w.heap.size, 0, none⟩), .int .i64 0]) ∧ w' = w.alloc (.cells #[.int .i64 room, .bool false, .slice none 0 0, .slice none 0 0] 49) := by
  go_enter Try.func8, Try.ntmps8
  go_wp2
  go_ret2
  exact ⟨rfl, rfl⟩
theorem net_New_no (room : Int) (w : World) (h : room < 1 ∨ 1000 < room) :
    Calls Try.prog 8 #[.int .i64 room] w fun e w' => e = .returned (.tuple #[.pointer none, .int .i64 1]) ∧ w' = w := by
  by_cases h1 : room < 1
  · clear h
    go_enter Try.func8, Try.ntmps8
    go_wp2
    go_ret2
    exact ⟨rfl, rfl⟩
  · have h2 : 1000 < room := by omega
    clear h
    go_enter Try.func8, Try.ntmps8
    go_wp2
    go_ret2
    exact ⟨rfl, rfl⟩
theorem ref_New_ok (room : Int) (w : World) (h1 : 1 ≤ room) (h2 : room ≤ 1000) :
    Calls Try.prog 14 #[.int .i64 room] w fun e w' => e = .returned (.tuple #[.pointer (some ⟨w.heap.size, 0, none⟩), .int .i64 0]) ∧ w' = w.alloc (.cells #[.int .i64 room, .bool false, .slice none 0 0, .slice none 0 0] 57) := by
  go_enter Try.func14, Try.ntmps14
  go_wp2
  go_ret2
  exact ⟨rfl, rfl⟩
theorem ref_New_no (room : Int) (w : World) (h : room < 1 ∨ 1000 < room) :
    Calls Try.prog 14 #[.int .i64 room] w fun e w' => e = .returned (.tuple #[.pointer none, .int .i64 1]) ∧ w' = w := by
  by_cases h1 : room < 1
  · clear h
    go_enter Try.func14, Try.ntmps14
    go_wp2
    go_ret2
    exact ⟨rfl, rfl⟩
  · have h2 : 1000 < room := by omega
    clear h
    go_enter Try.func14, Try.ntmps14
    go_wp2
    go_ret2
    exact ⟨rfl, rfl⟩
theorem one_calls (i : Int) (w : World) :
    Calls Try.prog 18 #[.int .i64 i] w fun e w' => e = .returned (.bool (decide (NtS.one i))) ∧ w' = w := by
  by_cases h0 : i < 0
  · have e : decide (NtS.one i) = false := decide_eq_false (by unfold NtS.one; omega)
    rw [e]
    clear e
    have p1 : (0 ≤ i) = False := eq_false (by omega)
    go_enter Try.func18, Try.ntmps18
    go_wp2
    go_ret
    exact ⟨rfl, rfl⟩
  · have p1 : (0 ≤ i) = True := eq_true (by omega)
    by_cases h1 : i < 2
    · have e : decide (NtS.one i) = true := decide_eq_true (by unfold NtS.one; omega)
      rw [e]
      clear e
      go_enter Try.func18, Try.ntmps18
      go_wp2
      go_ret
      exact ⟨rfl, rfl⟩
    · have e : decide (NtS.one i) = false := decide_eq_false (by unfold NtS.one; omega)
      rw [e]
      clear e
      go_enter Try.func18, Try.ntmps18
      go_wp2
      go_ret
      exact ⟨rfl, rfl⟩
theorem net_Len (g : Nat) (O : Nat → Prop) (n : NtS) (i : Int) (w : World) (h : NN w g O n) :
    Calls Try.prog 13 #[.pointer (some ⟨g, 0, none⟩), .int .i64 i] w fun e w' => e = .returned (.int .i64 (n.len i)) ∧ w' = w := by
  by_cases hi : NtS.one i
  · have e : n.len i = (n.way i).length := if_pos hi
    rw [e]
    obtain ⟨v, hv, hr, _⟩ := h.ways hi
    obtain ⟨A, c, rfl⟩ := Kd.R_slice hr
    have q : decide (NtS.one i) = true := decide_eq_true hi
    clear e hr h
    rcases hi with rfl | rfl
    all_goals
      first | have c1 : w.cell? ⟨g, 2, none⟩ = some (.slice A (n.way 0).length c) := hv | have c1 : w.cell? ⟨g, 3, none⟩ = some (.slice A (n.way 1).length c) := hv
      clear hv
      go_enter Try.func13, Try.ntmps13
      go_wp2_with (go_at_call 18; refine (one_calls _ _).mono ?_; rintro e w' ⟨rfl, rfl⟩)
      go_ret
      exact ⟨rfl, rfl⟩
  · have e : n.len i = 0 := if_neg hi
    have q : decide (NtS.one i) = false := decide_eq_false hi
    rw [e]
    clear h e hi
    go_enter Try.func13, Try.ntmps13
    go_wp2_with (go_at_call 18; refine (one_calls _ _).mono ?_; rintro e w' ⟨rfl, rfl⟩)
    go_ret
    exact ⟨rfl, rfl⟩
theorem net_Cut (g : Nat) (O : Nat → Prop) (n : NtS) (is : Bool) (w : World) (h : NN w g O n) :
    Calls Try.prog 10 #[.pointer (some ⟨g, 0, none⟩), .bool is] w fun e w' => e = .returned (.tuple #[]) ∧ NN w' g O (n.setCut is) ∧ Ext w w' O O := by
  have c1 := h.cells.2
  have z1 : w.frozen? ⟨g, 1, none⟩ = false := by obtain ⟨v0, v1, hb, _⟩ := h; exact blk_frozen hb 1
  have H := Lib.hid h
  clear h
  go_enter Try.func10, Try.ntmps10
  go_wp2
  go_end0
  exact ⟨rfl, H.out.cutted (by decide) (by decide) is⟩
theorem ref_Cut (g : Nat) (O : Nat → Prop) (n : NtS) (is : Bool) (w : World) (h : RN w g O n) :
    Calls Try.prog 29 #[.pointer (some ⟨g, 0, none⟩), .bool is] w fun e w' => e = .returned (.tuple #[]) ∧ RN w' g O (n.setCut is) ∧ Ext w w' O O := by
  have c1 := h.cells.2
  have z1 : w.frozen? ⟨g, 1, none⟩ = false := by obtain ⟨v0, v1, hb, _⟩ := h; exact blk_frozen hb 1
  have H := Lib.hid h
  clear h
  go_enter Try.func29, Try.ntmps29
  go_wp2
  go_end0
  exact ⟨rfl, H.out.cutted (by decide) (by decide) is⟩
theorem ref_Len (g : Nat) (O : Nat → Prop) (n : NtS) (i : Int) (w : World) (h : RN w g O n) :
    Calls Try.prog 16 #[.pointer (some ⟨g, 0, none⟩), .int .i64 i] w fun e w' => e = .returned (.int .i64 (n.len i)) ∧ w' = w := by
  by_cases hi : NtS.one i
  · have e : n.len i = (n.way i).length := if_pos hi
    rw [e]
    obtain ⟨v, hv, hr, _⟩ := h.ways hi
    obtain ⟨A, c, rfl⟩ := Kd.R_slice hr
    clear e hr h
    rcases hi with rfl | rfl
    all_goals
      first | have c1 : w.cell? ⟨g, 2, none⟩ = some (.slice A (n.way 0).length c) := hv | have c1 : w.cell? ⟨g, 3, none⟩ = some (.slice A (n.way 1).length c) := hv
      clear hv
      go_enter Try.func16, Try.ntmps16
      go_wp2
      go_ret
      exact ⟨rfl, rfl⟩
  · have e : n.len i = 0 := if_neg hi
    rw [e]
    unfold NtS.one at hi
    clear h e
    by_cases h0 : i < 0
    · clear hi
      go_enter Try.func16, Try.ntmps16
      go_wp2
      go_ret
      exact ⟨rfl, rfl⟩
    · have h1 : 1 < i := by omega
      clear hi
      go_enter Try.func16, Try.ntmps16
      go_wp2
      go_ret
      exact ⟨rfl, rfl⟩
theorem place_calls (g : Nat) (O : Nat → Prop) (n : NtS) (i j : Int) (w : World) (h : RN w g O n) :
    Calls Try.prog 30 #[.pointer (some ⟨g, 0, none⟩), .int .i64 i, .int .i64 j] w fun e w' => e = .returned (.int .i64 (n.place i j)) ∧ w' = w := by
  by_cases hi : NtS.one i
  · obtain ⟨v, hv, hr, _⟩ := h.ways hi
    obtain ⟨A, c, rfl⟩ := Kd.R_slice hr
    have e : n.place i j = if j < 0 ∨ (n.way i).length ≤ j then 4 else 0 := if_neg (fun h => h hi)
    clear hr h
    by_cases h0 : j < 0
    · rw [if_pos (.inl h0)] at e
      rw [e]
      clear e
      rcases hi with rfl | rfl
      all_goals
        first | have c1 : w.cell? ⟨g, 2, none⟩ = some (.slice A (n.way 0).length c) := hv | have c1 : w.cell? ⟨g, 3, none⟩ = some (.slice A (n.way 1).length c) := hv
        clear hv
        go_enter Try.func30, Try.ntmps30
        go_wp2
        go_ret
        exact ⟨rfl, rfl⟩
    · by_cases h1 : (n.way i).length ≤ j
      · rw [if_pos (.inr h1)] at e
        rw [e]
        clear e
        rcases hi with rfl | rfl
        all_goals
          first | have c1 : w.cell? ⟨g, 2, none⟩ = some (.slice A (n.way 0).length c) := hv | have c1 : w.cell? ⟨g, 3, none⟩ = some (.slice A (n.way 1).length c) := hv
          clear hv
          go_enter Try.func30, Try.ntmps30
          go_wp2
          go_ret
          exact ⟨rfl, rfl⟩
      · rw [if_neg (by omega)] at e
        rw [e]
        clear e
        rcases hi with rfl | rfl
        all_goals
          first | have c1 : w.cell? ⟨g, 2, none⟩ = some (.slice A (n.way 0).length c) := hv | have c1 : w.cell? ⟨g, 3, none⟩ = some (.slice A (n.way 1).length c) := hv
          clear hv
          go_enter Try.func30, Try.ntmps30
          go_wp2
          go_ret
          exact ⟨rfl, rfl⟩
  · have e : n.place i j = 1 := if_pos hi
    rw [e]
    unfold NtS.one at hi
    clear h e
    by_cases h0 : i < 0
    · clear hi
      go_enter Try.func30, Try.ntmps30
      go_wp2
      go_ret
      exact ⟨rfl, rfl⟩
    · have h1 : 1 < i := by omega
      clear hi
      go_enter Try.func30, Try.ntmps30
      go_wp2
      go_ret
      exact ⟨rfl, rfl⟩
end Go.Proofs.Ytokcplapbjhnoaa
