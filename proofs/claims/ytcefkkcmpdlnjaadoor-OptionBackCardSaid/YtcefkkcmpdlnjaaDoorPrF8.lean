-- written by a program of this session (wip/tools/gen.py) over the kit's print
import Derived.Test.YtcefkkcmpdlnjaaDoorPr0
namespace Go.Proofs.YtcefkkcmpdlnjaaDoor.Pr
open Go.RowKit Go.Proofs.YtcefkkcmpdlnjaaDoorW.PrintWords Go.Proofs.YtcefkkcmpdlnjaaDoorW.PrintLast Go.Proofs.YtcefkkcmpdlnjaaDoorW.PrintMore
attribute [local go_sem] max2_int min2_int max_two min_two max_three min_three max_four min_four   -- for this text's walks alone
set_option linter.unusedVariables false
set_option linter.unusedSimpArgs false

/-! ### lessorref02_Same: function 8 -/
def lessorref02_Same.l0 : Nat → List (S35) → List (S35) → Int → Option (Bool)
  | 0, _, _, _ => none
  | k + 1, x0, x1, x5 => if x5 < (x0.length : Int) then (if 0 ≤ x5 then (if x5 < (x1.length : Int) then (if ((rd_T35 x0 x5).f0) = ((rd_T35 x1 x5).f0) then (if (strOfNums ((rd_T35 x0 x5).f1)).toList = (strOfNums ((rd_T35 x1 x5).f1)).toList then (lessorref02_Same.l0 k x0 x1 (wrap64 (x5 + 1))) else (some false)) else (some false)) else (none)) else (none)) else (some true)
def lessorref02_Same.f (k : Nat) (l0 : List (S35)) (l1 : List (S35)) : Option (Bool) := if (l0.length : Int) = (l1.length : Int) then (lessorref02_Same.l0 k l0 l1 0) else (some false)
theorem lessorref02_Same.mono_l : ∀ k, (∀ y0 y1 y2, LeO (lessorref02_Same.l0 k y0 y1 y2) (lessorref02_Same.l0 (k + 1) y0 y1 y2))
  | 0 => fun _ _ _ r h => by simp [lessorref02_Same.l0] at h
  | k + 1 => by
    have ih0 := lessorref02_Same.mono_l k
    · intro y0 y1 y2
      unfold lessorref02_Same.l0
      repeat' first
      | (with_reducible exact ih0 _ _ _)
      | (with_reducible exact LeO.refl _)
      | (with_reducible exact LeO.none _)
      | (with_reducible refine LeO.ite ?_ ?_)
      | (with_reducible refine LeO.bind ?_ (fun _ => ?_))
      | exact ih0 _ _ _
      | exact LeO.none _
      | refine LeO.ite ?_ ?_
      | refine LeO.bind ?_ (fun _ => ?_)
theorem lessorref02_Same.mono : ∀ a0 a1 k, LeO (lessorref02_Same.f k a0 a1) (lessorref02_Same.f (k + 1) a0 a1) := by
  intro a0 a1 k
  have ih0 := lessorref02_Same.mono_l k
  unfold lessorref02_Same.f
  repeat' first
      | (with_reducible exact ih0 _ _ _)
      | (with_reducible exact LeO.refl _)
      | (with_reducible exact LeO.none _)
      | (with_reducible refine LeO.ite ?_ ?_)
      | (with_reducible refine LeO.bind ?_ (fun _ => ?_))
      | exact ih0 _ _ _
      | exact LeO.none _
      | refine LeO.ite ?_ ?_
      | refine LeO.bind ?_ (fun _ => ?_)
set_option maxHeartbeats 8000000 in
set_option maxRecDepth 100000 in
theorem lessorref02_Same.calls (k : Nat) (A0 : Option Addr) (c0 : Nat) (l0 : List (S35)) (A1 : Option Addr) (c1 : Nat) (l1 : List (S35)) (r : Bool) (w : World) (hr0 : Kd.C k35 w A0 l0.length l0) (hc0 : l0.length ≤ c0) (hr1 : Kd.C k35 w A1 l1.length l1) (hc1 : l1.length ≤ c1) (h : lessorref02_Same.f k l0 l1 = some r) :
    Calls Tryd.prog 8 #[.slice A0 l0.length c0, .slice A1 l1.length c1] w fun e w' => e = .returned (.bool r) ∧ Drawn0 w w' := by
  have HR0 := Aside0.mk hr0
  have HC0 := Aside0.mk hc0
  clear hr0 hc0
  have HR1 := Aside0.mk hr1
  have HC1 := Aside0.mk hc1
  clear hr1 hc1
  have H : (if (l0.length : Int) = (l1.length : Int) then (lessorref02_Same.l0 k l0 l1 0) else (some false)) = some r := h
  clear h
  by_cases c3 : (l0.length : Int) = (l1.length : Int)
  · rw [if_pos c3] at H
    have c3b0 : ((l0.length : Int) == (l1.length : Int)) = true := beq_iff_eq.mpr c3
    have c3b1 : ((l0.length : Int) != (l1.length : Int)) = false := bne_eq_false_iff_eq.mpr c3
    have c3b2 : (l0.length == l1.length) = true := by first | simpa using c3 | (simp at c3 ⊢; omega)
    clear c3
    have H' := Aside0.mk H
    clear H
    go_enter Tryd.func8, Tryd.ntmps8
    go_wp2
    repeat (go_quiet (fail); try go_wp2)
    go_loopg [5] k (fun kq v5 w' => ∃ (x5_1 : Int), v5 = .int .i64 x5_1 ∧ Aside0 (lessorref02_Same.l0 kq l0 l1 x5_1 = some r) ∧ Aside0 (kq ≤ k) ∧ Drawn0 w w')
    case atStart => exact ⟨(0), (by first | rfl | (simp; done) | (simp [*]; done)), H', ⟨Nat.le_refl _⟩, by repeat (first | exact Drawn0.refl _ | apply Drawn0.step)⟩
    case round =>
      clear H'
      try clear c1
      try clear p2
      try clear c3
      try clear c3b0
      try clear c3b1
      try clear c3b2
      obtain ⟨x5_1, rfl, HA, HK1, ⟨m1, rfl⟩⟩ := hrel
      cases gk with
      | zero => exact absurd HA.out (by simp [lessorref02_Same.l0])
      | succ k1 =>
        have H := HA.out
        clear HA
        simp only [lessorref02_Same.l0] at H
        by_cases c4 : x5_1 < (l0.length : Int)
        · rw [if_pos c4] at H
          have c4b0 : decide (x5_1 < (l0.length : Int)) = true := decide_eq_true c4
          clear c4
          by_cases c5 : 0 ≤ x5_1
          · rw [if_pos c5] at H
            have c5b0 : decide (0 ≤ x5_1) = true := decide_eq_true c5
            clear c5
            by_cases c6 : x5_1 < (l1.length : Int)
            · rw [if_pos c6] at H
              have c6b0 : decide (x5_1 < (l1.length : Int)) = true := decide_eq_true c6
              clear c6
              by_cases c7 : ((rd_T35 l0 x5_1).f0) = ((rd_T35 l1 x5_1).f0)
              · rw [if_pos c7] at H
                have c7b0 : (((rd_T35 l0 x5_1).f0) == ((rd_T35 l1 x5_1).f0)) = true := beq_iff_eq.mpr c7
                have c7b1 : (((rd_T35 l0 x5_1).f0) != ((rd_T35 l1 x5_1).f0)) = false := bne_eq_false_iff_eq.mpr c7
                clear c7
                by_cases c8 : (strOfNums ((rd_T35 l0 x5_1).f1)).toList = (strOfNums ((rd_T35 l1 x5_1).f1)).toList
                · rw [if_pos c8] at H
                  have c8b0 : ((strOfNums ((rd_T35 l0 x5_1).f1)).toList == (strOfNums ((rd_T35 l1 x5_1).f1)).toList) = true := beq_iff_eq.mpr c8
                  have c8b1 : ((strOfNums ((rd_T35 l0 x5_1).f1)).toList != (strOfNums ((rd_T35 l1 x5_1).f1)).toList) = false := bne_eq_false_iff_eq.mpr c8
                  clear c8
                  have H' := Aside0.mk H
                  clear H
                  have p149 : 0 ≤ (x5_1 : Int) := of_decide_eq_true (by first | (with_reducible assumption) | assumption)
                  have q149 : x5_1 < (l0.length : Int) := of_decide_eq_true (by first | (with_reducible assumption) | assumption)
                  obtain ⟨ad149, A149_1, c149_1, e149, hx149_0, hx149_1, hl149_1, hi149_1⟩ := at_T35 HR0.out x5_1 p149 q149
                  cases e149
                  have HR149_1 := Aside0.mk hi149_1
                  have HC149_1 := Aside0.mk hl149_1
                  clear hi149_1 hl149_1
                  replace p149 := eq_true p149
                  replace q149 := eq_true q149
                  have p150 : 0 ≤ (x5_1 : Int) := of_decide_eq_true (by first | (with_reducible assumption) | assumption)
                  have q150 : x5_1 < (l1.length : Int) := of_decide_eq_true (by first | (with_reducible assumption) | assumption)
                  obtain ⟨ad150, A150_1, c150_1, e150, hx150_0, hx150_1, hl150_1, hi150_1⟩ := at_T35 HR1.out x5_1 p150 q150
                  cases e150
                  have HR150_1 := Aside0.mk hi150_1
                  have HC150_1 := Aside0.mk hl150_1
                  clear hi150_1 hl150_1
                  replace p150 := eq_true p150
                  replace q150 := eq_true q150
                  have p151 : 0 ≤ (x5_1 : Int) := of_decide_eq_true (by first | (with_reducible assumption) | assumption)
                  have q151 : x5_1 < (l0.length : Int) := of_decide_eq_true (by first | (with_reducible assumption) | assumption)
                  obtain ⟨ad151, A151_1, c151_1, e151, hx151_0, hx151_1, hl151_1, hi151_1⟩ := at_T35 HR0.out x5_1 p151 q151
                  obtain rfl : ad149 = ad151 := (by injection e151)
                  have HR151_1 := Aside0.mk hi151_1
                  have HC151_1 := Aside0.mk hl151_1
                  clear hi151_1 hl151_1
                  replace p151 := eq_true p151
                  replace q151 := eq_true q151
                  have ea_ := Option.some.inj (hx149_1.symm.trans hx151_1)
                  injection ea_ with ea_ en_ ec_
                  subst ea_
                  subst ec_
                  clear en_
                  have hcv9 := Kd.C_string (P := Tryd.prog) (A := A149_1) (c := c149_1) Tryd.underlying22 Tryd.underlying5 Tryd.underlying9  HR151_1.out; have hcv9q := fun nq_ : Nat => Kd.C_string (P := Tryd.prog) (A := A149_1) (c := c149_1) Tryd.underlying22 Tryd.underlying5 Tryd.underlying9  (Kd.C_drewN HR151_1.out nq_); (try simp only [List.length_take, List.length_drop] at hcv9); (try simp only [List.length_take, List.length_drop] at hcv9q); skip
                  have p152 : 0 ≤ (x5_1 : Int) := of_decide_eq_true (by first | (with_reducible assumption) | assumption)
                  have q152 : x5_1 < (l1.length : Int) := of_decide_eq_true (by first | (with_reducible assumption) | assumption)
                  obtain ⟨ad152, A152_1, c152_1, e152, hx152_0, hx152_1, hl152_1, hi152_1⟩ := at_T35 HR1.out x5_1 p152 q152
                  obtain rfl : ad150 = ad152 := (by injection e152)
                  have HR152_1 := Aside0.mk hi152_1
                  have HC152_1 := Aside0.mk hl152_1
                  clear hi152_1 hl152_1
                  replace p152 := eq_true p152
                  replace q152 := eq_true q152
                  have ea_ := Option.some.inj (hx150_1.symm.trans hx152_1)
                  injection ea_ with ea_ en_ ec_
                  subst ea_
                  subst ec_
                  clear en_
                  have hcv10 := Kd.C_string (P := Tryd.prog) (A := A150_1) (c := c150_1) Tryd.underlying22 Tryd.underlying5 Tryd.underlying9  HR152_1.out; have hcv10q := fun nq_ : Nat => Kd.C_string (P := Tryd.prog) (A := A150_1) (c := c150_1) Tryd.underlying22 Tryd.underlying5 Tryd.underlying9  (Kd.C_drewN HR152_1.out nq_); (try simp only [List.length_take, List.length_drop] at hcv10); (try simp only [List.length_take, List.length_drop] at hcv10q); skip
                  go_wp2
                  repeat (go_quiet (fail); try go_wp2)
                  go_roundg k1
                  case measure => have := HK1.out; omega
                  case rel => exact ⟨(wrap64 (x5_1 + 1)), (by first | rfl | (simp; done) | (simp [*]; done)), H', ⟨by have := HK1.out; omega⟩, by repeat (first | exact Drawn0.refl _ | apply Drawn0.step)⟩
                · rw [if_neg c8] at H
                  have c8b0 : ((strOfNums ((rd_T35 l0 x5_1).f1)).toList == (strOfNums ((rd_T35 l1 x5_1).f1)).toList) = false := beq_eq_false_iff_ne.mpr c8
                  have c8b1 : ((strOfNums ((rd_T35 l0 x5_1).f1)).toList != (strOfNums ((rd_T35 l1 x5_1).f1)).toList) = true := bne_iff_ne.mpr c8
                  obtain rfl := Option.some.inj H
                  have p149 : 0 ≤ (x5_1 : Int) := of_decide_eq_true (by first | (with_reducible assumption) | assumption)
                  have q149 : x5_1 < (l0.length : Int) := of_decide_eq_true (by first | (with_reducible assumption) | assumption)
                  obtain ⟨ad149, A149_1, c149_1, e149, hx149_0, hx149_1, hl149_1, hi149_1⟩ := at_T35 HR0.out x5_1 p149 q149
                  cases e149
                  have HR149_1 := Aside0.mk hi149_1
                  have HC149_1 := Aside0.mk hl149_1
                  clear hi149_1 hl149_1
                  replace p149 := eq_true p149
                  replace q149 := eq_true q149
                  have p150 : 0 ≤ (x5_1 : Int) := of_decide_eq_true (by first | (with_reducible assumption) | assumption)
                  have q150 : x5_1 < (l1.length : Int) := of_decide_eq_true (by first | (with_reducible assumption) | assumption)
                  obtain ⟨ad150, A150_1, c150_1, e150, hx150_0, hx150_1, hl150_1, hi150_1⟩ := at_T35 HR1.out x5_1 p150 q150
                  cases e150
                  have HR150_1 := Aside0.mk hi150_1
                  have HC150_1 := Aside0.mk hl150_1
                  clear hi150_1 hl150_1
                  replace p150 := eq_true p150
                  replace q150 := eq_true q150
                  have p151 : 0 ≤ (x5_1 : Int) := of_decide_eq_true (by first | (with_reducible assumption) | assumption)
                  have q151 : x5_1 < (l0.length : Int) := of_decide_eq_true (by first | (with_reducible assumption) | assumption)
                  obtain ⟨ad151, A151_1, c151_1, e151, hx151_0, hx151_1, hl151_1, hi151_1⟩ := at_T35 HR0.out x5_1 p151 q151
                  obtain rfl : ad149 = ad151 := (by injection e151)
                  have HR151_1 := Aside0.mk hi151_1
                  have HC151_1 := Aside0.mk hl151_1
                  clear hi151_1 hl151_1
                  replace p151 := eq_true p151
                  replace q151 := eq_true q151
                  have ea_ := Option.some.inj (hx149_1.symm.trans hx151_1)
                  injection ea_ with ea_ en_ ec_
                  subst ea_
                  subst ec_
                  clear en_
                  have hcv11 := Kd.C_string (P := Tryd.prog) (A := A149_1) (c := c149_1) Tryd.underlying22 Tryd.underlying5 Tryd.underlying9  HR151_1.out; have hcv11q := fun nq_ : Nat => Kd.C_string (P := Tryd.prog) (A := A149_1) (c := c149_1) Tryd.underlying22 Tryd.underlying5 Tryd.underlying9  (Kd.C_drewN HR151_1.out nq_); (try simp only [List.length_take, List.length_drop] at hcv11); (try simp only [List.length_take, List.length_drop] at hcv11q); skip
                  have p152 : 0 ≤ (x5_1 : Int) := of_decide_eq_true (by first | (with_reducible assumption) | assumption)
                  have q152 : x5_1 < (l1.length : Int) := of_decide_eq_true (by first | (with_reducible assumption) | assumption)
                  obtain ⟨ad152, A152_1, c152_1, e152, hx152_0, hx152_1, hl152_1, hi152_1⟩ := at_T35 HR1.out x5_1 p152 q152
                  obtain rfl : ad150 = ad152 := (by injection e152)
                  have HR152_1 := Aside0.mk hi152_1
                  have HC152_1 := Aside0.mk hl152_1
                  clear hi152_1 hl152_1
                  replace p152 := eq_true p152
                  replace q152 := eq_true q152
                  have ea_ := Option.some.inj (hx150_1.symm.trans hx152_1)
                  injection ea_ with ea_ en_ ec_
                  subst ea_
                  subst ec_
                  clear en_
                  have hcv12 := Kd.C_string (P := Tryd.prog) (A := A150_1) (c := c150_1) Tryd.underlying22 Tryd.underlying5 Tryd.underlying9  HR152_1.out; have hcv12q := fun nq_ : Nat => Kd.C_string (P := Tryd.prog) (A := A150_1) (c := c150_1) Tryd.underlying22 Tryd.underlying5 Tryd.underlying9  (Kd.C_drewN HR152_1.out nq_); (try simp only [List.length_take, List.length_drop] at hcv12); (try simp only [List.length_take, List.length_drop] at hcv12q); skip
                  go_wp2
                  repeat (go_quiet (fail); try go_wp2)
                  go_ret
                  exact ⟨by first | rfl | (simp; done) | (simp [*]; done), by repeat (first | exact Drawn0.refl _ | apply Drawn0.step)⟩
              · rw [if_neg c7] at H
                have c7b0 : (((rd_T35 l0 x5_1).f0) == ((rd_T35 l1 x5_1).f0)) = false := beq_eq_false_iff_ne.mpr c7
                have c7b1 : (((rd_T35 l0 x5_1).f0) != ((rd_T35 l1 x5_1).f0)) = true := bne_iff_ne.mpr c7
                obtain rfl := Option.some.inj H
                have p149 : 0 ≤ (x5_1 : Int) := of_decide_eq_true (by first | (with_reducible assumption) | assumption)
                have q149 : x5_1 < (l0.length : Int) := of_decide_eq_true (by first | (with_reducible assumption) | assumption)
                obtain ⟨ad149, A149_1, c149_1, e149, hx149_0, hx149_1, hl149_1, hi149_1⟩ := at_T35 HR0.out x5_1 p149 q149
                cases e149
                have HR149_1 := Aside0.mk hi149_1
                have HC149_1 := Aside0.mk hl149_1
                clear hi149_1 hl149_1
                replace p149 := eq_true p149
                replace q149 := eq_true q149
                have p150 : 0 ≤ (x5_1 : Int) := of_decide_eq_true (by first | (with_reducible assumption) | assumption)
                have q150 : x5_1 < (l1.length : Int) := of_decide_eq_true (by first | (with_reducible assumption) | assumption)
                obtain ⟨ad150, A150_1, c150_1, e150, hx150_0, hx150_1, hl150_1, hi150_1⟩ := at_T35 HR1.out x5_1 p150 q150
                cases e150
                have HR150_1 := Aside0.mk hi150_1
                have HC150_1 := Aside0.mk hl150_1
                clear hi150_1 hl150_1
                replace p150 := eq_true p150
                replace q150 := eq_true q150
                go_wp2
                repeat (go_quiet (fail); try go_wp2)
                go_ret
                exact ⟨by first | rfl | (simp; done) | (simp [*]; done), by repeat (first | exact Drawn0.refl _ | apply Drawn0.step)⟩
            · rw [if_neg c6] at H
              exact absurd H (by simp)
          · rw [if_neg c5] at H
            exact absurd H (by simp)
        · rw [if_neg c4] at H
          have c4b0 : decide (x5_1 < (l0.length : Int)) = false := decide_eq_false c4
          clear c4
          obtain rfl := Option.some.inj H
          go_wp2
          repeat (go_quiet (fail); try go_wp2)
          go_ret
          exact ⟨by first | rfl | (simp; done) | (simp [*]; done), by repeat (first | exact Drawn0.refl _ | apply Drawn0.step)⟩
  · rw [if_neg c3] at H
    have c3b0 : ((l0.length : Int) == (l1.length : Int)) = false := beq_eq_false_iff_ne.mpr c3
    have c3b1 : ((l0.length : Int) != (l1.length : Int)) = true := bne_iff_ne.mpr c3
    have c3b2 : (l0.length == l1.length) = false := by first | simpa using c3 | (simp at c3 ⊢; omega)
    obtain rfl := Option.some.inj H
    go_enter Tryd.func8, Tryd.ntmps8
    go_wp2
    repeat (go_quiet (fail); try go_wp2)
    go_ret
    exact ⟨by first | rfl | (simp; done) | (simp [*]; done), by repeat (first | exact Drawn0.refl _ | apply Drawn0.step)⟩

end Go.Proofs.YtcefkkcmpdlnjaaDoor.Pr
