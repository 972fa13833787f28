-- written by a program of this session (wip/tools/gen.py) over the kit's print
import Derived.Test.YtfndajgmjkimgaaPr0
namespace Go.Proofs.Ytfndajgmjkimgaa.Pr
open Go.RowKit Go.Proofs.YtfndajgmjkimgaaW.PrintWords Go.Proofs.YtfndajgmjkimgaaW.PrintLast Go.Proofs.YtfndajgmjkimgaaW.PrintMore
attribute [local go_sem] max2_int min2_int max_two min_two max_three min_three max_four min_four   -- for this text's walks alone
set_option linter.unusedVariables false
set_option linter.unusedSimpArgs false

/-! ### lessorlaw10_long: function 17 -/
def lessorlaw10_long.l0 : Nat → List (S55) → Int → Option (Bool)
  | 0, _, _ => none
  | k + 1, x0, x3 => if x3 < (x0.length : Int) then (if 0 ≤ x3 then (if (((rd_T55 x0 x3).f2).length : Int) > 1100 then (some true) else (if (((rd_T55 x0 x3).f3).length : Int) > 20 then (some true) else (lessorlaw10_long.l0 k x0 (wrap64 (x3 + 1))))) else (none)) else (some (decide ((x0.length : Int) > 80)))
def lessorlaw10_long.f (k : Nat) (l0 : List (S55)) : Option (Bool) := lessorlaw10_long.l0 k l0 0
theorem lessorlaw10_long.mono_l : ∀ k, (∀ y0 y1, LeO (lessorlaw10_long.l0 k y0 y1) (lessorlaw10_long.l0 (k + 1) y0 y1))
  | 0 => fun _ _ r h => by simp [lessorlaw10_long.l0] at h
  | k + 1 => by
    have ih0 := lessorlaw10_long.mono_l k
    · intro y0 y1
      unfold lessorlaw10_long.l0
      repeat' first
      | (with_reducible exact ih0 _ _)
      | (with_reducible exact LeO.refl _)
      | (with_reducible exact LeO.none _)
      | (with_reducible refine LeO.ite ?_ ?_)
      | (with_reducible refine LeO.bind ?_ (fun _ => ?_))
      | exact ih0 _ _
      | exact LeO.none _
      | refine LeO.ite ?_ ?_
      | refine LeO.bind ?_ (fun _ => ?_)
theorem lessorlaw10_long.mono : ∀ a0 k, LeO (lessorlaw10_long.f k a0) (lessorlaw10_long.f (k + 1) a0) := by
  intro a0 k
  have ih0 := lessorlaw10_long.mono_l k
  unfold lessorlaw10_long.f
  repeat' first
      | (with_reducible exact ih0 _ _)
      | (with_reducible exact LeO.refl _)
      | (with_reducible exact LeO.none _)
      | (with_reducible refine LeO.ite ?_ ?_)
      | (with_reducible refine LeO.bind ?_ (fun _ => ?_))
      | exact ih0 _ _
      | exact LeO.none _
      | refine LeO.ite ?_ ?_
      | refine LeO.bind ?_ (fun _ => ?_)
set_option maxHeartbeats 8000000 in
set_option maxRecDepth 100000 in
theorem lessorlaw10_long.calls (k : Nat) (A0 : Option Addr) (c0 : Nat) (l0 : List (S55)) (r : Bool) (w : World) (hr0 : Kd.C k55 w A0 l0.length l0) (hc0 : l0.length ≤ c0) (h : lessorlaw10_long.f k l0 = some r) :
    Calls Try.prog 17 #[.slice A0 l0.length c0] w fun e w' => e = .returned (.bool r) ∧ Drawn0 w w' := by
  have HR0 := Aside0.mk hr0
  have HC0 := Aside0.mk hc0
  clear hr0 hc0
  have H : (lessorlaw10_long.l0 k l0 0) = some r := h
  clear h
  have H' := Aside0.mk H
  clear H
  go_enter Try.func17, Try.ntmps17
  go_wp2
  go_loopg [3] k (fun kq v3 w' => ∃ (x3_1 : Int), v3 = .int .i64 x3_1 ∧ Aside0 (lessorlaw10_long.l0 kq l0 x3_1 = some r) ∧ Aside0 (kq ≤ k) ∧ Drawn0 w w')
  case atStart => exact ⟨(0), (by first | rfl | (simp; done) | (simp [*]; done)), H', ⟨Nat.le_refl _⟩, by repeat (first | exact Drawn0.refl _ | apply Drawn0.step)⟩
  case round =>
    clear H'
    try clear c1
    obtain ⟨x3_1, rfl, HA, HK1, ⟨m1, rfl⟩⟩ := hrel
    cases gk with
    | zero => exact absurd HA.out (by simp [lessorlaw10_long.l0])
    | succ k1 =>
      have H := HA.out
      clear HA
      simp only [lessorlaw10_long.l0] at H
      by_cases c2 : x3_1 < (l0.length : Int)
      · rw [if_pos c2] at H
        have c2b0 : decide (x3_1 < (l0.length : Int)) = true := decide_eq_true c2
        clear c2
        by_cases c3 : 0 ≤ x3_1
        · rw [if_pos c3] at H
          have c3b0 : decide (0 ≤ x3_1) = true := decide_eq_true c3
          clear c3
          by_cases c4 : (((rd_T55 l0 x3_1).f2).length : Int) > 1100
          · rw [if_pos c4] at H
            have c4b0 : decide (1100 < (((rd_T55 l0 x3_1).f2).length : Int)) = true := decide_eq_true c4
            have c4b1 : decide (1100 < ((rd_T55 l0 x3_1).f2).length) = true := decide_eq_true (by omega)
            clear c4
            obtain rfl := Option.some.inj H
            have p134 : 0 ≤ (x3_1 : Int) := of_decide_eq_true (by first | (with_reducible assumption) | assumption)
            have q134 : x3_1 < (l0.length : Int) := of_decide_eq_true (by first | (with_reducible assumption) | assumption)
            obtain ⟨ad134, A134_2, c134_2, A134_3, c134_3, e134, hx134_0, hx134_1, hx134_2, hx134_3, hl134_2, hi134_2, hl134_3, hi134_3⟩ := at_T55 HR0.out x3_1 p134 q134
            cases e134
            have HR134_2 := Aside0.mk hi134_2
            have HC134_2 := Aside0.mk hl134_2
            clear hi134_2 hl134_2
            have HR134_3 := Aside0.mk hi134_3
            have HC134_3 := Aside0.mk hl134_3
            clear hi134_3 hl134_3
            replace p134 := eq_true p134
            replace q134 := eq_true q134
            go_wp2
            go_ret
            exact ⟨by first | rfl | (simp; done) | (simp [*]; done), by repeat (first | exact Drawn0.refl _ | apply Drawn0.step)⟩
          · rw [if_neg c4] at H
            have c4b0 : decide (1100 < (((rd_T55 l0 x3_1).f2).length : Int)) = false := decide_eq_false c4
            have c4b1 : decide (1100 < ((rd_T55 l0 x3_1).f2).length) = false := decide_eq_false (by omega)
            clear c4
            by_cases c5 : (((rd_T55 l0 x3_1).f3).length : Int) > 20
            · rw [if_pos c5] at H
              have c5b0 : decide (20 < (((rd_T55 l0 x3_1).f3).length : Int)) = true := decide_eq_true c5
              have c5b1 : decide (20 < ((rd_T55 l0 x3_1).f3).length) = true := decide_eq_true (by omega)
              clear c5
              obtain rfl := Option.some.inj H
              have p134 : 0 ≤ (x3_1 : Int) := of_decide_eq_true (by first | (with_reducible assumption) | assumption)
              have q134 : x3_1 < (l0.length : Int) := of_decide_eq_true (by first | (with_reducible assumption) | assumption)
              obtain ⟨ad134, A134_2, c134_2, A134_3, c134_3, e134, hx134_0, hx134_1, hx134_2, hx134_3, hl134_2, hi134_2, hl134_3, hi134_3⟩ := at_T55 HR0.out x3_1 p134 q134
              cases e134
              have HR134_2 := Aside0.mk hi134_2
              have HC134_2 := Aside0.mk hl134_2
              clear hi134_2 hl134_2
              have HR134_3 := Aside0.mk hi134_3
              have HC134_3 := Aside0.mk hl134_3
              clear hi134_3 hl134_3
              replace p134 := eq_true p134
              replace q134 := eq_true q134
              have p135 : 0 ≤ (x3_1 : Int) := of_decide_eq_true (by first | (with_reducible assumption) | assumption)
              have q135 : x3_1 < (l0.length : Int) := of_decide_eq_true (by first | (with_reducible assumption) | assumption)
              obtain ⟨ad135, A135_2, c135_2, A135_3, c135_3, e135, hx135_0, hx135_1, hx135_2, hx135_3, hl135_2, hi135_2, hl135_3, hi135_3⟩ := at_T55 HR0.out x3_1 p135 q135
              obtain rfl : ad134 = ad135 := (by injection e135)
              have HR135_2 := Aside0.mk hi135_2
              have HC135_2 := Aside0.mk hl135_2
              clear hi135_2 hl135_2
              have HR135_3 := Aside0.mk hi135_3
              have HC135_3 := Aside0.mk hl135_3
              clear hi135_3 hl135_3
              replace p135 := eq_true p135
              replace q135 := eq_true q135
              have ea_ := Option.some.inj (hx134_2.symm.trans hx135_2)
              injection ea_ with ea_ en_ ec_
              subst ea_
              subst ec_
              clear en_
              have ea_ := Option.some.inj (hx134_3.symm.trans hx135_3)
              injection ea_ with ea_ en_ ec_
              subst ea_
              subst ec_
              clear en_
              go_wp2
              go_ret
              exact ⟨by first | rfl | (simp; done) | (simp [*]; done), by repeat (first | exact Drawn0.refl _ | apply Drawn0.step)⟩
            · rw [if_neg c5] at H
              have c5b0 : decide (20 < (((rd_T55 l0 x3_1).f3).length : Int)) = false := decide_eq_false c5
              have c5b1 : decide (20 < ((rd_T55 l0 x3_1).f3).length) = false := decide_eq_false (by omega)
              clear c5
              have H' := Aside0.mk H
              clear H
              have p134 : 0 ≤ (x3_1 : Int) := of_decide_eq_true (by first | (with_reducible assumption) | assumption)
              have q134 : x3_1 < (l0.length : Int) := of_decide_eq_true (by first | (with_reducible assumption) | assumption)
              obtain ⟨ad134, A134_2, c134_2, A134_3, c134_3, e134, hx134_0, hx134_1, hx134_2, hx134_3, hl134_2, hi134_2, hl134_3, hi134_3⟩ := at_T55 HR0.out x3_1 p134 q134
              cases e134
              have HR134_2 := Aside0.mk hi134_2
              have HC134_2 := Aside0.mk hl134_2
              clear hi134_2 hl134_2
              have HR134_3 := Aside0.mk hi134_3
              have HC134_3 := Aside0.mk hl134_3
              clear hi134_3 hl134_3
              replace p134 := eq_true p134
              replace q134 := eq_true q134
              have p135 : 0 ≤ (x3_1 : Int) := of_decide_eq_true (by first | (with_reducible assumption) | assumption)
              have q135 : x3_1 < (l0.length : Int) := of_decide_eq_true (by first | (with_reducible assumption) | assumption)
              obtain ⟨ad135, A135_2, c135_2, A135_3, c135_3, e135, hx135_0, hx135_1, hx135_2, hx135_3, hl135_2, hi135_2, hl135_3, hi135_3⟩ := at_T55 HR0.out x3_1 p135 q135
              obtain rfl : ad134 = ad135 := (by injection e135)
              have HR135_2 := Aside0.mk hi135_2
              have HC135_2 := Aside0.mk hl135_2
              clear hi135_2 hl135_2
              have HR135_3 := Aside0.mk hi135_3
              have HC135_3 := Aside0.mk hl135_3
              clear hi135_3 hl135_3
              replace p135 := eq_true p135
              replace q135 := eq_true q135
              have ea_ := Option.some.inj (hx134_2.symm.trans hx135_2)
              injection ea_ with ea_ en_ ec_
              subst ea_
              subst ec_
              clear en_
              have ea_ := Option.some.inj (hx134_3.symm.trans hx135_3)
              injection ea_ with ea_ en_ ec_
              subst ea_
              subst ec_
              clear en_
              go_wp2
              go_roundg k1
              case measure => have := HK1.out; omega
              case rel => exact ⟨(wrap64 (x3_1 + 1)), (by first | rfl | (simp; done) | (simp [*]; done)), H', ⟨by have := HK1.out; omega⟩, by repeat (first | exact Drawn0.refl _ | apply Drawn0.step)⟩
        · rw [if_neg c3] at H
          exact absurd H (by simp)
      · rw [if_neg c2] at H
        have c2b0 : decide (x3_1 < (l0.length : Int)) = false := decide_eq_false c2
        clear c2
        obtain rfl := Option.some.inj H
        go_wp2
        go_ret
        exact ⟨by first | rfl | (simp; done) | (simp [*]; done), by repeat (first | exact Drawn0.refl _ | apply Drawn0.step)⟩

end Go.Proofs.Ytfndajgmjkimgaa.Pr
