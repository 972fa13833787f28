-- written by a program of this session (wip/tools/gen.py) over the kit's print
import Derived.Test.YteniakelhalojaaPn0
import Derived.Test.YteniakelhalojaaPnF9
import Derived.Test.YteniakelhalojaaPnF16
import Derived.Test.YteniakelhalojaaHLean
namespace Go.Proofs.Yteniakelhalojaa.Pn
open Go.RowKit Go.Proofs.YteniakelhalojaaW.PrintWords Go.Proofs.YteniakelhalojaaW.PrintLast Go.Proofs.YteniakelhalojaaW.PrintMore
attribute [local go_sem] max2_int min2_int max_two min_two max_three min_three max_four min_four   -- for this text's walks alone
set_option linter.unusedVariables false
set_option linter.unusedSimpArgs false

/-! ### lessorlaw25_RouteLean: function 6 -/
mutual
def lessorlaw25_RouteLean.j0 : Nat → List (S32) → Int → Bool → Bool → Option (Bool)
  | 0, _, _, _, _ => none
  | k + 1, x0, x1, x5, x16 => if x16 = true then (some x5) else ((route_Lean.f x0).bind fun t207 => ((route_Best.f x0 x1).bind fun t210 => ((route_Best.f t207 x1).bind fun t211 => (if ((decide (t210 < 0)) != (decide (t211 < 0))) = true then (lessorlaw25_RouteLean.j1 k t207 true) else (if t210 ≥ (x0.length : Int) then (lessorlaw25_RouteLean.j1 k t207 true) else (if t211 ≥ (t207.length : Int) then (lessorlaw25_RouteLean.j1 k t207 true) else (if t210 ≥ 0 then (if 0 ≤ t210 then (if t210 < (x0.length : Int) then (if 0 ≤ t211 then (if t211 < (t207.length : Int) then (lessorlaw25_RouteLean.j1 k t207 (((rd_T32 x0 t210).f2) != ((rd_T32 t207 t211).f2))) else (none)) else (none)) else (none)) else (none)) else (lessorlaw25_RouteLean.j1 k t207 false))))))))
def lessorlaw25_RouteLean.j1 : Nat → List (S32) → Bool → Option (Bool)
  | 0, _, _ => none
  | k + 1, x6, x59 => if x59 = true then (some false) else ((route_Lean.f x6).bind fun t214 => ((lessorref25_Same.f k t214 x6).bind fun t217 => (some t217)))
end
def lessorlaw25_RouteLean.f (k : Nat) (l0 : List (S32)) (a1 : Int) : Option (Bool) := (lessorlaw25_awake.f).bind fun t206 => (if t206 = true then (lessorlaw25_RouteLean.j0 k l0 a1 t206 (decide ((l0.length : Int) > 60))) else (lessorlaw25_RouteLean.j0 k l0 a1 t206 true))
theorem lessorlaw25_RouteLean.mono_l : ∀ k, (∀ y0 y1 y2 y3, LeO (lessorlaw25_RouteLean.j0 k y0 y1 y2 y3) (lessorlaw25_RouteLean.j0 (k + 1) y0 y1 y2 y3)) ∧ (∀ y0 y1, LeO (lessorlaw25_RouteLean.j1 k y0 y1) (lessorlaw25_RouteLean.j1 (k + 1) y0 y1))
  | 0 => ⟨fun _ _ _ _ r h => by simp [lessorlaw25_RouteLean.j0] at h, fun _ _ r h => by simp [lessorlaw25_RouteLean.j1] at h⟩
  | k + 1 => by
    obtain ⟨ih0, ih1⟩ := lessorlaw25_RouteLean.mono_l k
    refine ⟨?_, ?_⟩
    · intro y0 y1 y2 y3
      unfold lessorlaw25_RouteLean.j0
      repeat' first
      | (with_reducible exact ih0 _ _ _ _)
      | (with_reducible exact ih1 _ _)
      | (with_reducible exact lessorref25_Same.mono _ _ _)
      | (with_reducible exact LeO.refl _)
      | (with_reducible exact LeO.none _)
      | (with_reducible refine LeO.ite ?_ ?_)
      | (with_reducible refine LeO.bind ?_ (fun _ => ?_))
      | exact ih0 _ _ _ _
      | exact ih1 _ _
      | exact lessorref25_Same.mono _ _ _
      | exact LeO.none _
      | refine LeO.ite ?_ ?_
      | refine LeO.bind ?_ (fun _ => ?_)
    · intro y0 y1
      unfold lessorlaw25_RouteLean.j1
      repeat' first
      | (with_reducible exact ih0 _ _ _ _)
      | (with_reducible exact ih1 _ _)
      | (with_reducible exact lessorref25_Same.mono _ _ _)
      | (with_reducible exact LeO.refl _)
      | (with_reducible exact LeO.none _)
      | (with_reducible refine LeO.ite ?_ ?_)
      | (with_reducible refine LeO.bind ?_ (fun _ => ?_))
      | exact ih0 _ _ _ _
      | exact ih1 _ _
      | exact lessorref25_Same.mono _ _ _
      | exact LeO.none _
      | refine LeO.ite ?_ ?_
      | refine LeO.bind ?_ (fun _ => ?_)
theorem lessorlaw25_RouteLean.mono : ∀ a0 a1 k, LeO (lessorlaw25_RouteLean.f k a0 a1) (lessorlaw25_RouteLean.f (k + 1) a0 a1) := by
  intro a0 a1 k
  obtain ⟨ih0, ih1⟩ := lessorlaw25_RouteLean.mono_l k
  unfold lessorlaw25_RouteLean.f
  repeat' first
      | (with_reducible exact ih0 _ _ _ _)
      | (with_reducible exact ih1 _ _)
      | (with_reducible exact lessorref25_Same.mono _ _ _)
      | (with_reducible exact LeO.refl _)
      | (with_reducible exact LeO.none _)
      | (with_reducible refine LeO.ite ?_ ?_)
      | (with_reducible refine LeO.bind ?_ (fun _ => ?_))
      | exact ih0 _ _ _ _
      | exact ih1 _ _
      | exact lessorref25_Same.mono _ _ _
      | exact LeO.none _
      | refine LeO.ite ?_ ?_
      | refine LeO.bind ?_ (fun _ => ?_)
set_option maxHeartbeats 8000000 in
set_option maxRecDepth 100000 in
theorem lessorlaw25_RouteLean.calls (k : Nat) (A0 : Option Addr) (c0 : Nat) (l0 : List (S32)) (a1 : Int) (r : Bool) (w : World) (hr0 : Kd.C k32 w A0 l0.length l0) (hc0 : l0.length ≤ c0) (h : lessorlaw25_RouteLean.f k l0 a1 = some r) :
    Calls Try.prog 6 #[.slice A0 l0.length c0, .int .u32 a1] w fun e w' => e = .returned (.bool r) ∧ Below w.heap.size w w' := by
  have HR0 := Aside0.mk hr0
  have HC0 := Aside0.mk hc0
  clear hr0 hc0
  have HB := Aside0.mk (Below.refl w.heap.size w)
  have H : ((lessorlaw25_awake.f).bind fun t206 => (if t206 = true then (lessorlaw25_RouteLean.j0 k l0 a1 t206 (decide ((l0.length : Int) > 60))) else (lessorlaw25_RouteLean.j0 k l0 a1 t206 true))) = some r := h
  clear h
  replace H := Option.bind_eq_some_iff.mp H
  obtain ⟨t206, A30, H⟩ := H
  replace H : (if t206 = true then (lessorlaw25_RouteLean.j0 k l0 a1 t206 (decide ((l0.length : Int) > 60))) else (lessorlaw25_RouteLean.j0 k l0 a1 t206 true)) = some r := H
  have A3 := Aside0.mk A30
  clear A30
  have HC4 := Aside0.mk H
  clear H
  go_enter Try.func6, Try.ntmps6
  go_upto_region 2 with (first | (go_at_call 9; (with_reducible refine (lessorlaw25_awake.calls  t206 _ A3.out).mono ?_); rintro e w5 ⟨rfl, hb⟩; have n0_ := Aside0.mk (below_step (by repeat (first | (with_reducible first | exact HB.out | apply below_alloc | apply pw_below_drewN | apply below_drew1) | exact HB.out)) hb); clear HB; have HB := n0_; clear n0_; (try clear hb); (try clear hb2); (try clear hk); (try clear hi)))
  repeat (go_quiet (first | (go_at_call 9; (with_reducible refine (lessorlaw25_awake.calls  t206 _ A3.out).mono ?_); rintro e w5 ⟨rfl, hb⟩; have n0_ := Aside0.mk (below_step (by repeat (first | (with_reducible first | exact HB.out | apply below_alloc | apply pw_below_drewN | apply below_drew1) | exact HB.out)) hb); clear HB; have HB := n0_; clear n0_; (try clear hb); (try clear hb2); (try clear hk); (try clear hi))); go_upto_region 2 with (first | (go_at_call 9; (with_reducible refine (lessorlaw25_awake.calls  t206 _ A3.out).mono ?_); rintro e w5 ⟨rfl, hb⟩; have n0_ := Aside0.mk (below_step (by repeat (first | (with_reducible first | exact HB.out | apply below_alloc | apply pw_below_drewN | apply below_drew1) | exact HB.out)) hb); clear HB; have HB := n0_; clear n0_; (try clear hb); (try clear hb2); (try clear hk); (try clear hi))))
  (try simp only [Act.put, List.setIfInBounds_toArray, List.set_cons_zero, List.set_cons_succ])
  go_cut [16] (fun v16 wc => ∃ (kq : Nat) (x16_3 : Bool), v16 = .bool x16_3 ∧ Aside0 (lessorlaw25_RouteLean.j0 kq l0 a1 t206 x16_3 = some r) ∧ Aside0 (kq ≤ k) ∧ Aside0 (Below w.heap.size w wc))
  case first =>
    have H := HC4.out
    clear HC4
    by_cases c6 : t206 = true
    · subst c6
      have H1 : (lessorlaw25_RouteLean.j0 k l0 a1 true (decide ((l0.length : Int) > 60))) = some r := by rw [if_pos rfl] at H; exact H
      clear H
      have H := H1
      clear H1
      have H' := Aside0.mk H
      clear H
      go_wp2
      repeat (go_quiet (fail); try go_wp2)
      go_meet
      case rel => exact ⟨_, (decide ((l0.length : Int) > 60)), (by first | rfl | (simp; done) | (simp [*]; done)), H', ⟨by first | omega | exact Nat.le_refl _⟩, ⟨by repeat (first | (with_reducible first | exact HB.out | apply below_alloc | apply pw_below_drewN | apply below_drew1) | exact HB.out)⟩⟩
    · replace c6 := Bool.eq_false_iff.mpr c6
      subst c6
      have H1 : (lessorlaw25_RouteLean.j0 k l0 a1 false true) = some r := by rw [if_neg (show ¬ (false = true) by decide)] at H; exact H
      clear H
      have H := H1
      clear H1
      have H' := Aside0.mk H
      clear H
      go_wp2
      repeat (go_quiet (fail); try go_wp2)
      go_meet
      case rel => exact ⟨_, (true), (by first | rfl | (simp; done) | (simp [*]; done)), H', ⟨by first | omega | exact Nat.le_refl _⟩, ⟨by repeat (first | (with_reducible first | exact HB.out | apply below_alloc | apply pw_below_drewN | apply below_drew1) | exact HB.out)⟩⟩
  case rest =>
    clear HC4
    try clear p2
    try clear c6
    obtain ⟨kq, x16_3, rfl, HA, HJ3, HB⟩ := hcut
    cases kq with
    | zero => exact absurd HA.out (by simp [lessorlaw25_RouteLean.j0])
    | succ kj3 =>
      have H := HA.out
      clear HA
      simp only [lessorlaw25_RouteLean.j0] at H
      by_cases c7 : x16_3 = true
      · subst c7
        have H1 : (some t206) = some r := by rw [if_pos rfl] at H; exact H
        clear H
        have H := H1
        clear H1
        obtain rfl := Option.some.inj H
        go_wp2
        repeat (go_quiet (fail); try go_wp2)
        go_ret
        exact ⟨by first | rfl | (simp [errW_none, errW_some] <;> rfl) | (simp [*, errW_none, errW_some] <;> rfl), by repeat (first | (with_reducible first | exact HB.out | apply below_alloc | apply pw_below_drewN | apply below_drew1) | exact HB.out)⟩
      · replace c7 := Bool.eq_false_iff.mpr c7
        subst c7
        have H1 : ((route_Lean.f l0).bind fun t207 => ((route_Best.f l0 a1).bind fun t210 => ((route_Best.f t207 a1).bind fun t211 => (if ((decide (t210 < 0)) != (decide (t211 < 0))) = true then (lessorlaw25_RouteLean.j1 kj3 t207 true) else (if t210 ≥ (l0.length : Int) then (lessorlaw25_RouteLean.j1 kj3 t207 true) else (if t211 ≥ (t207.length : Int) then (lessorlaw25_RouteLean.j1 kj3 t207 true) else (if t210 ≥ 0 then (if 0 ≤ t210 then (if t210 < (l0.length : Int) then (if 0 ≤ t211 then (if t211 < (t207.length : Int) then (lessorlaw25_RouteLean.j1 kj3 t207 (((rd_T32 l0 t210).f2) != ((rd_T32 t207 t211).f2))) else (none)) else (none)) else (none)) else (none)) else (lessorlaw25_RouteLean.j1 kj3 t207 false)))))))) = some r := by rw [if_neg (show ¬ (false = true) by decide)] at H; exact H
        clear H
        have H := H1
        clear H1
        replace H := Option.bind_eq_some_iff.mp H
        obtain ⟨t207, A80, H⟩ := H
        replace H : ((route_Best.f l0 a1).bind fun t210 => ((route_Best.f t207 a1).bind fun t211 => (if ((decide (t210 < 0)) != (decide (t211 < 0))) = true then (lessorlaw25_RouteLean.j1 kj3 t207 true) else (if t210 ≥ (l0.length : Int) then (lessorlaw25_RouteLean.j1 kj3 t207 true) else (if t211 ≥ (t207.length : Int) then (lessorlaw25_RouteLean.j1 kj3 t207 true) else (if t210 ≥ 0 then (if 0 ≤ t210 then (if t210 < (l0.length : Int) then (if 0 ≤ t211 then (if t211 < (t207.length : Int) then (lessorlaw25_RouteLean.j1 kj3 t207 (((rd_T32 l0 t210).f2) != ((rd_T32 t207 t211).f2))) else (none)) else (none)) else (none)) else (none)) else (lessorlaw25_RouteLean.j1 kj3 t207 false))))))) = some r := H
        have A8 := Aside0.mk A80
        clear A80
        replace H := Option.bind_eq_some_iff.mp H
        obtain ⟨t210, A90, H⟩ := H
        replace H : ((route_Best.f t207 a1).bind fun t211 => (if ((decide (t210 < 0)) != (decide (t211 < 0))) = true then (lessorlaw25_RouteLean.j1 kj3 t207 true) else (if t210 ≥ (l0.length : Int) then (lessorlaw25_RouteLean.j1 kj3 t207 true) else (if t211 ≥ (t207.length : Int) then (lessorlaw25_RouteLean.j1 kj3 t207 true) else (if t210 ≥ 0 then (if 0 ≤ t210 then (if t210 < (l0.length : Int) then (if 0 ≤ t211 then (if t211 < (t207.length : Int) then (lessorlaw25_RouteLean.j1 kj3 t207 (((rd_T32 l0 t210).f2) != ((rd_T32 t207 t211).f2))) else (none)) else (none)) else (none)) else (none)) else (lessorlaw25_RouteLean.j1 kj3 t207 false)))))) = some r := H
        have A9 := Aside0.mk A90
        clear A90
        replace H := Option.bind_eq_some_iff.mp H
        obtain ⟨t211, A100, H⟩ := H
        replace H : (if ((decide (t210 < 0)) != (decide (t211 < 0))) = true then (lessorlaw25_RouteLean.j1 kj3 t207 true) else (if t210 ≥ (l0.length : Int) then (lessorlaw25_RouteLean.j1 kj3 t207 true) else (if t211 ≥ (t207.length : Int) then (lessorlaw25_RouteLean.j1 kj3 t207 true) else (if t210 ≥ 0 then (if 0 ≤ t210 then (if t210 < (l0.length : Int) then (if 0 ≤ t211 then (if t211 < (t207.length : Int) then (lessorlaw25_RouteLean.j1 kj3 t207 (((rd_T32 l0 t210).f2) != ((rd_T32 t207 t211).f2))) else (none)) else (none)) else (none)) else (none)) else (lessorlaw25_RouteLean.j1 kj3 t207 false))))) = some r := H
        have A10 := Aside0.mk A100
        clear A100
        have HC11 := Aside0.mk H
        clear H
        go_upto_region 7 with (first | (go_at_call 17; (with_reducible refine (route_Lean.calls _ _ l0 t207 _ ?side1_1 ?side2_1 A8.out).mono ?_); (case side1_1 => repeat (first | exact (Kd.C_below HR0.out HB.out) | exact (Kd.C_below (Aside0.out (by assumption)) HB.out) | (with_reducible refine Kd.C_alloc ?_ _) | (with_reducible refine Kd.C_drewN ?_ _) | (with_reducible refine Kd.C_drew ?_))); (case side2_1 => exact HC0.out); rintro e w12 ⟨v208, rfl, ho0, hb⟩; have n0_ := Aside0.mk (Kd.R_lower ho0 (below_size (by repeat (first | (with_reducible first | exact HB.out | apply below_alloc | apply pw_below_drewN | apply below_drew1) | exact HB.out)))); have n1_ := Aside0.mk (below_step (by repeat (first | (with_reducible first | exact HB.out | apply below_alloc | apply pw_below_drewN | apply below_drew1) | exact HB.out)) hb); clear HB; have HO209 := n0_; have HB := n1_; clear n0_ n1_; (try clear hb); (try clear hb2); (try clear hk); (try clear hi); (try clear ho0)) | (go_at_call 15; (with_reducible refine (route_Best.calls _ _ l0 a1 t210 _ ?side1_2 ?side2_2 A9.out).mono ?_); (case side1_2 => repeat (first | exact (Kd.C_below HR0.out HB.out) | exact (Kd.C_below (Aside0.out (by assumption)) HB.out) | (with_reducible refine Kd.C_alloc ?_ _) | (with_reducible refine Kd.C_drewN ?_ _) | (with_reducible refine Kd.C_drew ?_))); (case side2_2 => exact HC0.out); rintro e w13 ⟨rfl, hb⟩; have n0_ := Aside0.mk (Kd.R_below (by (with_reducible repeat (first | apply Kd.R_alloc | apply Kd.R_drewN | apply Kd.R_drew)); exact HO209.out) hb); have n1_ := Aside0.mk (below_step (by repeat (first | (with_reducible first | exact HB.out | apply below_alloc | apply pw_below_drewN | apply below_drew1) | exact HB.out)) hb); clear HO209; clear HB; have HO209 := n0_; have HB := n1_; clear n0_ n1_; (try clear hb); (try clear hb2); (try clear hk); (try clear hi); obtain ⟨Ao14, co14, eo14⟩ := Kd.R_slice HO209.out; subst eo14) | (go_at_call 15; (with_reducible refine (route_Best.calls _ _ t207 a1 t211 _ ?side1_3 ?side2_3 A10.out).mono ?_); (case side1_3 => repeat (first | exact (Kd.R_reads' HO209.out).2.2 | (with_reducible refine Kd.C_alloc ?_ _) | (with_reducible refine Kd.C_drewN ?_ _) | (with_reducible refine Kd.C_drew ?_))); (case side2_3 => exact (Kd.R_reads' HO209.out).2.1); rintro e w15 ⟨rfl, hb⟩; have n0_ := Aside0.mk (Kd.R_below (by (with_reducible repeat (first | apply Kd.R_alloc | apply Kd.R_drewN | apply Kd.R_drew)); exact HO209.out) hb); have n1_ := Aside0.mk (below_step (by repeat (first | (with_reducible first | exact HB.out | apply below_alloc | apply pw_below_drewN | apply below_drew1) | exact HB.out)) hb); clear HO209; clear HB; have HO209 := n0_; have HB := n1_; clear n0_ n1_; (try clear hb); (try clear hb2); (try clear hk); (try clear hi)))
        repeat (go_quiet (first | (go_at_call 17; (with_reducible refine (route_Lean.calls _ _ l0 t207 _ ?side1_4 ?side2_4 A8.out).mono ?_); (case side1_4 => repeat (first | exact (Kd.C_below HR0.out HB.out) | exact (Kd.C_below (Aside0.out (by assumption)) HB.out) | (with_reducible refine Kd.C_alloc ?_ _) | (with_reducible refine Kd.C_drewN ?_ _) | (with_reducible refine Kd.C_drew ?_))); (case side2_4 => exact HC0.out); rintro e w12 ⟨v208, rfl, ho0, hb⟩; have n0_ := Aside0.mk (Kd.R_lower ho0 (below_size (by repeat (first | (with_reducible first | exact HB.out | apply below_alloc | apply pw_below_drewN | apply below_drew1) | exact HB.out)))); have n1_ := Aside0.mk (below_step (by repeat (first | (with_reducible first | exact HB.out | apply below_alloc | apply pw_below_drewN | apply below_drew1) | exact HB.out)) hb); clear HB; have HO209 := n0_; have HB := n1_; clear n0_ n1_; (try clear hb); (try clear hb2); (try clear hk); (try clear hi); (try clear ho0)) | (go_at_call 15; (with_reducible refine (route_Best.calls _ _ l0 a1 t210 _ ?side1_5 ?side2_5 A9.out).mono ?_); (case side1_5 => repeat (first | exact (Kd.C_below HR0.out HB.out) | exact (Kd.C_below (Aside0.out (by assumption)) HB.out) | (with_reducible refine Kd.C_alloc ?_ _) | (with_reducible refine Kd.C_drewN ?_ _) | (with_reducible refine Kd.C_drew ?_))); (case side2_5 => exact HC0.out); rintro e w13 ⟨rfl, hb⟩; have n0_ := Aside0.mk (Kd.R_below (by (with_reducible repeat (first | apply Kd.R_alloc | apply Kd.R_drewN | apply Kd.R_drew)); exact HO209.out) hb); have n1_ := Aside0.mk (below_step (by repeat (first | (with_reducible first | exact HB.out | apply below_alloc | apply pw_below_drewN | apply below_drew1) | exact HB.out)) hb); clear HO209; clear HB; have HO209 := n0_; have HB := n1_; clear n0_ n1_; (try clear hb); (try clear hb2); (try clear hk); (try clear hi); obtain ⟨Ao14, co14, eo14⟩ := Kd.R_slice HO209.out; subst eo14) | (go_at_call 15; (with_reducible refine (route_Best.calls _ _ t207 a1 t211 _ ?side1_6 ?side2_6 A10.out).mono ?_); (case side1_6 => repeat (first | exact (Kd.R_reads' HO209.out).2.2 | (with_reducible refine Kd.C_alloc ?_ _) | (with_reducible refine Kd.C_drewN ?_ _) | (with_reducible refine Kd.C_drew ?_))); (case side2_6 => exact (Kd.R_reads' HO209.out).2.1); rintro e w15 ⟨rfl, hb⟩; have n0_ := Aside0.mk (Kd.R_below (by (with_reducible repeat (first | apply Kd.R_alloc | apply Kd.R_drewN | apply Kd.R_drew)); exact HO209.out) hb); have n1_ := Aside0.mk (below_step (by repeat (first | (with_reducible first | exact HB.out | apply below_alloc | apply pw_below_drewN | apply below_drew1) | exact HB.out)) hb); clear HO209; clear HB; have HO209 := n0_; have HB := n1_; clear n0_ n1_; (try clear hb); (try clear hb2); (try clear hk); (try clear hi))); go_upto_region 7 with (first | (go_at_call 17; (with_reducible refine (route_Lean.calls _ _ l0 t207 _ ?side1_7 ?side2_7 A8.out).mono ?_); (case side1_7 => repeat (first | exact (Kd.C_below HR0.out HB.out) | exact (Kd.C_below (Aside0.out (by assumption)) HB.out) | (with_reducible refine Kd.C_alloc ?_ _) | (with_reducible refine Kd.C_drewN ?_ _) | (with_reducible refine Kd.C_drew ?_))); (case side2_7 => exact HC0.out); rintro e w12 ⟨v208, rfl, ho0, hb⟩; have n0_ := Aside0.mk (Kd.R_lower ho0 (below_size (by repeat (first | (with_reducible first | exact HB.out | apply below_alloc | apply pw_below_drewN | apply below_drew1) | exact HB.out)))); have n1_ := Aside0.mk (below_step (by repeat (first | (with_reducible first | exact HB.out | apply below_alloc | apply pw_below_drewN | apply below_drew1) | exact HB.out)) hb); clear HB; have HO209 := n0_; have HB := n1_; clear n0_ n1_; (try clear hb); (try clear hb2); (try clear hk); (try clear hi); (try clear ho0)) | (go_at_call 15; (with_reducible refine (route_Best.calls _ _ l0 a1 t210 _ ?side1_8 ?side2_8 A9.out).mono ?_); (case side1_8 => repeat (first | exact (Kd.C_below HR0.out HB.out) | exact (Kd.C_below (Aside0.out (by assumption)) HB.out) | (with_reducible refine Kd.C_alloc ?_ _) | (with_reducible refine Kd.C_drewN ?_ _) | (with_reducible refine Kd.C_drew ?_))); (case side2_8 => exact HC0.out); rintro e w13 ⟨rfl, hb⟩; have n0_ := Aside0.mk (Kd.R_below (by (with_reducible repeat (first | apply Kd.R_alloc | apply Kd.R_drewN | apply Kd.R_drew)); exact HO209.out) hb); have n1_ := Aside0.mk (below_step (by repeat (first | (with_reducible first | exact HB.out | apply below_alloc | apply pw_below_drewN | apply below_drew1) | exact HB.out)) hb); clear HO209; clear HB; have HO209 := n0_; have HB := n1_; clear n0_ n1_; (try clear hb); (try clear hb2); (try clear hk); (try clear hi); obtain ⟨Ao14, co14, eo14⟩ := Kd.R_slice HO209.out; subst eo14) | (go_at_call 15; (with_reducible refine (route_Best.calls _ _ t207 a1 t211 _ ?side1_9 ?side2_9 A10.out).mono ?_); (case side1_9 => repeat (first | exact (Kd.R_reads' HO209.out).2.2 | (with_reducible refine Kd.C_alloc ?_ _) | (with_reducible refine Kd.C_drewN ?_ _) | (with_reducible refine Kd.C_drew ?_))); (case side2_9 => exact (Kd.R_reads' HO209.out).2.1); rintro e w15 ⟨rfl, hb⟩; have n0_ := Aside0.mk (Kd.R_below (by (with_reducible repeat (first | apply Kd.R_alloc | apply Kd.R_drewN | apply Kd.R_drew)); exact HO209.out) hb); have n1_ := Aside0.mk (below_step (by repeat (first | (with_reducible first | exact HB.out | apply below_alloc | apply pw_below_drewN | apply below_drew1) | exact HB.out)) hb); clear HO209; clear HB; have HO209 := n0_; have HB := n1_; clear n0_ n1_; (try clear hb); (try clear hb2); (try clear hk); (try clear hi))))
        (try simp only [Act.put, List.setIfInBounds_toArray, List.set_cons_zero, List.set_cons_succ])
        go_cut [59] (fun v59 wc => ∃ (kq : Nat) (x59_10 : Bool), v59 = .bool x59_10 ∧ Aside0 (lessorlaw25_RouteLean.j1 kq t207 x59_10 = some r) ∧ Aside0 (kq ≤ kj3) ∧ Aside0 (Kd.R k32 32 wc w.heap.size (fun _ => True) (.slice Ao14 t207.length co14) t207) ∧ Aside0 (Below w.heap.size w wc))
        case first =>
          have H := HC11.out
          clear HC11
          by_cases c16 : ((decide (t210 < 0)) != (decide (t211 < 0))) = true
          · rw [if_pos c16] at H
            have c16b0 : ((decide (t210 < 0)) != (decide (t211 < 0))) = true := c16
            (try (have c16b1 : decide ((decide (t210 < 0)) = (decide (t211 < 0))) = false := by simpa using c16))
            (try (have c16b2 : ((decide (t210 < 0)) == (decide (t211 < 0))) = false := by simpa using c16))
            (try (have c16b3 : ¬ ((decide (t210 < 0)) = (decide (t211 < 0))) := by simpa using c16))
            clear c16
            (first | rw [c16b0] | (simp only [i64_w, i32_w]; rw [c16b0]) | skip)
            have H' := Aside0.mk H
            clear H
            go_wp2
            repeat (go_quiet (fail); try go_wp2)
            go_meet
            case rel => exact ⟨_, (true), (by first | rfl | (simp; done) | (simp [*]; done)), H', ⟨by have := HJ3.out; first | omega | exact Nat.le_refl _⟩, ⟨by (with_reducible repeat (first | apply Kd.R_alloc | apply Kd.R_drewN | apply Kd.R_drew)); exact HO209.out⟩, ⟨by repeat (first | (with_reducible first | exact HB.out | apply below_alloc | apply pw_below_drewN | apply below_drew1) | exact HB.out)⟩⟩
          · rw [if_neg c16] at H
            have c16b0 : ((decide (t210 < 0)) != (decide (t211 < 0))) = false := by simpa using c16
            (try (have c16b1 : decide ((decide (t210 < 0)) = (decide (t211 < 0))) = true := by simpa using c16))
            (try (have c16b2 : ((decide (t210 < 0)) == (decide (t211 < 0))) = true := by simpa using c16))
            clear c16
            (first | rw [c16b0] | (simp only [i64_w, i32_w]; rw [c16b0]) | skip)
            by_cases c17 : t210 ≥ (l0.length : Int)
            · rw [if_pos c17] at H
              have c17b0 : decide ((l0.length : Int) ≤ t210) = true := decide_eq_true c17
              clear c17
              have H' := Aside0.mk H
              clear H
              go_wp2
              repeat (go_quiet (fail); try go_wp2)
              go_meet
              case rel => exact ⟨_, (true), (by first | rfl | (simp; done) | (simp [*]; done)), H', ⟨by have := HJ3.out; first | omega | exact Nat.le_refl _⟩, ⟨by (with_reducible repeat (first | apply Kd.R_alloc | apply Kd.R_drewN | apply Kd.R_drew)); exact HO209.out⟩, ⟨by repeat (first | (with_reducible first | exact HB.out | apply below_alloc | apply pw_below_drewN | apply below_drew1) | exact HB.out)⟩⟩
            · rw [if_neg c17] at H
              have c17b0 : decide ((l0.length : Int) ≤ t210) = false := decide_eq_false c17
              clear c17
              by_cases c18 : t211 ≥ (t207.length : Int)
              · rw [if_pos c18] at H
                have c18b0 : decide ((t207.length : Int) ≤ t211) = true := decide_eq_true c18
                clear c18
                have H' := Aside0.mk H
                clear H
                go_wp2
                repeat (go_quiet (fail); try go_wp2)
                go_meet
                case rel => exact ⟨_, (true), (by first | rfl | (simp; done) | (simp [*]; done)), H', ⟨by have := HJ3.out; first | omega | exact Nat.le_refl _⟩, ⟨by (with_reducible repeat (first | apply Kd.R_alloc | apply Kd.R_drewN | apply Kd.R_drew)); exact HO209.out⟩, ⟨by repeat (first | (with_reducible first | exact HB.out | apply below_alloc | apply pw_below_drewN | apply below_drew1) | exact HB.out)⟩⟩
              · rw [if_neg c18] at H
                have c18b0 : decide ((t207.length : Int) ≤ t211) = false := decide_eq_false c18
                clear c18
                by_cases c19 : t210 ≥ 0
                · rw [if_pos c19] at H
                  have c19b0 : decide (0 ≤ t210) = true := decide_eq_true c19
                  clear c19
                  by_cases c20 : 0 ≤ t210
                  · rw [if_pos c20] at H
                    have c20b0 : decide (0 ≤ t210) = true := decide_eq_true c20
                    clear c20
                    by_cases c21 : t210 < (l0.length : Int)
                    · rw [if_pos c21] at H
                      have c21b0 : decide (t210 < (l0.length : Int)) = true := decide_eq_true c21
                      clear c21
                      by_cases c22 : 0 ≤ t211
                      · rw [if_pos c22] at H
                        have c22b0 : decide (0 ≤ t211) = true := decide_eq_true c22
                        clear c22
                        by_cases c23 : t211 < (t207.length : Int)
                        · rw [if_pos c23] at H
                          have c23b0 : decide (t211 < (t207.length : Int)) = true := decide_eq_true c23
                          clear c23
                          have H' := Aside0.mk H
                          clear H
                          have p212 : 0 ≤ (t210 : Int) := of_decide_eq_true (by first | (with_reducible assumption) | assumption)
                          have q212 : t210 < (l0.length : Int) := of_decide_eq_true (by first | (with_reducible assumption) | assumption)
                          obtain ⟨ad212, e212, hx212_0, hx212_1, hx212_2⟩ := at_T32 HR0.out t210 p212 q212
                          cases e212
                          replace hx212_0 := (HB.out.cell (World.block_lt_of_cell? w _ hx212_0)).trans hx212_0
                          replace hx212_1 := (HB.out.cell (World.block_lt_of_cell? w _ hx212_1)).trans hx212_1
                          replace hx212_2 := (HB.out.cell (World.block_lt_of_cell? w _ hx212_2)).trans hx212_2
                          replace p212 := eq_true p212
                          replace q212 := eq_true q212
                          have p213 : 0 ≤ (t211 : Int) := of_decide_eq_true (by first | (with_reducible assumption) | assumption)
                          have q213 : t211 < (t207.length : Int) := of_decide_eq_true (by first | (with_reducible assumption) | assumption)
                          obtain ⟨ad213, e213, hx213_0, hx213_1, hx213_2⟩ := at_T32 (Kd.R_reads' HO209.out).2.2 t211 p213 q213
                          cases e213
                          replace p213 := eq_true p213
                          replace q213 := eq_true q213
                          go_wp2
                          repeat (go_quiet (fail); try go_wp2)
                          go_meet
                          case rel => exact ⟨_, ((((rd_T32 l0 t210).f2) != ((rd_T32 t207 t211).f2))), (by first | rfl | (simp; done) | (simp [*]; done)), H', ⟨by have := HJ3.out; first | omega | exact Nat.le_refl _⟩, ⟨by (with_reducible repeat (first | apply Kd.R_alloc | apply Kd.R_drewN | apply Kd.R_drew)); exact HO209.out⟩, ⟨by repeat (first | (with_reducible first | exact HB.out | apply below_alloc | apply pw_below_drewN | apply below_drew1) | exact HB.out)⟩⟩
                        · rw [if_neg c23] at H
                          exact absurd H (by simp)
                      · rw [if_neg c22] at H
                        exact absurd H (by simp)
                    · rw [if_neg c21] at H
                      exact absurd H (by simp)
                  · rw [if_neg c20] at H
                    exact absurd H (by simp)
                · rw [if_neg c19] at H
                  have c19b0 : decide (0 ≤ t210) = false := decide_eq_false c19
                  clear c19
                  have H' := Aside0.mk H
                  clear H
                  go_wp2
                  repeat (go_quiet (fail); try go_wp2)
                  go_meet
                  case rel => exact ⟨_, (false), (by first | rfl | (simp; done) | (simp [*]; done)), H', ⟨by have := HJ3.out; first | omega | exact Nat.le_refl _⟩, ⟨by (with_reducible repeat (first | apply Kd.R_alloc | apply Kd.R_drewN | apply Kd.R_drew)); exact HO209.out⟩, ⟨by repeat (first | (with_reducible first | exact HB.out | apply below_alloc | apply pw_below_drewN | apply below_drew1) | exact HB.out)⟩⟩
        case rest =>
          clear HC11
          try clear c1
          try clear c2
          try clear p2
          try clear q2
          try clear hx2
          try clear c6
          try clear c7
          try clear c16
          try clear c16b0
          try clear c16b1
          try clear c16b2
          try clear c17
          try clear c17b0
          try clear c18
          try clear c18b0
          try clear c19
          try clear c19b0
          try clear c20
          try clear c20b0
          try clear c21
          try clear c21b0
          try clear p21
          try clear q21
          try clear hx21
          try clear c22
          try clear c22b0
          try clear c23
          try clear c23b0
          try clear hx212_0
          try clear hx212_1
          try clear hx212_2
          try clear hx213_0
          try clear hx213_1
          try clear hx213_2
          try clear p2
          try clear p212
          try clear p213
          try clear q212
          try clear q213
          obtain ⟨kq, x59_10, rfl, HA, HJ10, HO_6, HB⟩ := hcut
          cases kq with
          | zero => exact absurd HA.out (by simp [lessorlaw25_RouteLean.j1])
          | succ kj10 =>
            have H := HA.out
            clear HA
            simp only [lessorlaw25_RouteLean.j1] at H
            by_cases c24 : x59_10 = true
            · subst c24
              have H1 : (some false) = some r := by rw [if_pos rfl] at H; exact H
              clear H
              have H := H1
              clear H1
              obtain rfl := Option.some.inj H
              go_wp2
              repeat (go_quiet (fail); try go_wp2)
              go_ret
              exact ⟨by first | rfl | (simp [errW_none, errW_some] <;> rfl) | (simp [*, errW_none, errW_some] <;> rfl), by repeat (first | (with_reducible first | exact HB.out | apply below_alloc | apply pw_below_drewN | apply below_drew1) | exact HB.out)⟩
            · replace c24 := Bool.eq_false_iff.mpr c24
              subst c24
              have H1 : ((route_Lean.f t207).bind fun t214 => ((lessorref25_Same.f kj10 t214 t207).bind fun t217 => (some t217))) = some r := by rw [if_neg (show ¬ (false = true) by decide)] at H; exact H
              clear H
              have H := H1
              clear H1
              replace H := Option.bind_eq_some_iff.mp H
              obtain ⟨t214, A250, H⟩ := H
              replace H : ((lessorref25_Same.f kj10 t214 t207).bind fun t217 => (some t217)) = some r := H
              have A25 := Aside0.mk A250
              clear A250
              replace H := Option.bind_eq_some_iff.mp H
              obtain ⟨t217, A260, H⟩ := H
              replace H : (some t217) = some r := H
              have A26 := Aside0.mk A260
              clear A260
              obtain rfl := Option.some.inj H
              go_wp2_with (first | (go_at_call 17; (with_reducible refine (route_Lean.calls _ _ t207 t214 _ ?side1_10 ?side2_10 A25.out).mono ?_); (case side1_10 => repeat (first | exact (Kd.R_reads' HO_6.out).2.2 | (with_reducible refine Kd.C_alloc ?_ _) | (with_reducible refine Kd.C_drewN ?_ _) | (with_reducible refine Kd.C_drew ?_))); (case side2_10 => exact (Kd.R_reads' HO_6.out).2.1); rintro e w27 ⟨v215, rfl, ho0, hb⟩; have n0_ := Aside0.mk (Kd.R_elder' (by (with_reducible repeat (first | apply Kd.R_alloc | apply Kd.R_drewN | apply Kd.R_drew)); exact HO_6.out) (Kd.R_base ho0) hb); have n1_ := Aside0.mk (Kd.R_lower (Kd.R_new' ho0 (Kd.R_lt (by (with_reducible repeat (first | apply Kd.R_alloc | apply Kd.R_drewN | apply Kd.R_drew)); exact HO_6.out))) (below_size (by repeat (first | (with_reducible first | exact HB.out | apply below_alloc | apply pw_below_drewN | apply below_drew1) | exact HB.out)))); have n2_ := Aside0.mk (below_step (by repeat (first | (with_reducible first | exact HB.out | apply below_alloc | apply pw_below_drewN | apply below_drew1) | exact HB.out)) hb); clear HO_6; clear HB; have HO_6 := n0_; have HO216 := n1_; have HB := n2_; clear n0_ n1_ n2_; (try clear hb); (try clear hb2); (try clear hk); (try clear hi); (try clear ho0); obtain ⟨Ao28, co28, eo28⟩ := Kd.R_slice HO216.out; subst eo28) | (go_at_call 16; (with_reducible refine (lessorref25_Same.calls kj10 _ _ t214 _ _ t207 t217 _ ?side1_11 ?side2_11 ?side3_11 ?side4_11 A26.out).mono ?_); (case side1_11 => repeat (first | exact (Kd.R_reads' HO216.out).2.2 | (with_reducible refine Kd.C_alloc ?_ _) | (with_reducible refine Kd.C_drewN ?_ _) | (with_reducible refine Kd.C_drew ?_))); (case side2_11 => exact (Kd.R_reads' HO216.out).2.1); (case side3_11 => repeat (first | exact (Kd.R_reads' HO_6.out).2.2 | (with_reducible refine Kd.C_alloc ?_ _) | (with_reducible refine Kd.C_drewN ?_ _) | (with_reducible refine Kd.C_drew ?_))); (case side4_11 => exact (Kd.R_reads' HO_6.out).2.1); rintro e w' ⟨rfl, ⟨nd, rfl⟩⟩; (try first | exact ⟨rfl, _, World.drewN_drewN _ _ _⟩ | exact ⟨rfl, _, Eq.trans (World.drewN_drewN _ _ _) (congrArg (World.drewN _) (Nat.add_assoc _ _ _))⟩)))
              repeat (go_quiet (first | (go_at_call 17; (with_reducible refine (route_Lean.calls _ _ t207 t214 _ ?side1_12 ?side2_12 A25.out).mono ?_); (case side1_12 => repeat (first | exact (Kd.R_reads' HO_6.out).2.2 | (with_reducible refine Kd.C_alloc ?_ _) | (with_reducible refine Kd.C_drewN ?_ _) | (with_reducible refine Kd.C_drew ?_))); (case side2_12 => exact (Kd.R_reads' HO_6.out).2.1); rintro e w27 ⟨v215, rfl, ho0, hb⟩; have n0_ := Aside0.mk (Kd.R_elder' (by (with_reducible repeat (first | apply Kd.R_alloc | apply Kd.R_drewN | apply Kd.R_drew)); exact HO_6.out) (Kd.R_base ho0) hb); have n1_ := Aside0.mk (Kd.R_lower (Kd.R_new' ho0 (Kd.R_lt (by (with_reducible repeat (first | apply Kd.R_alloc | apply Kd.R_drewN | apply Kd.R_drew)); exact HO_6.out))) (below_size (by repeat (first | (with_reducible first | exact HB.out | apply below_alloc | apply pw_below_drewN | apply below_drew1) | exact HB.out)))); have n2_ := Aside0.mk (below_step (by repeat (first | (with_reducible first | exact HB.out | apply below_alloc | apply pw_below_drewN | apply below_drew1) | exact HB.out)) hb); clear HO_6; clear HB; have HO_6 := n0_; have HO216 := n1_; have HB := n2_; clear n0_ n1_ n2_; (try clear hb); (try clear hb2); (try clear hk); (try clear hi); (try clear ho0); obtain ⟨Ao28, co28, eo28⟩ := Kd.R_slice HO216.out; subst eo28) | (go_at_call 16; (with_reducible refine (lessorref25_Same.calls kj10 _ _ t214 _ _ t207 t217 _ ?side1_13 ?side2_13 ?side3_13 ?side4_13 A26.out).mono ?_); (case side1_13 => repeat (first | exact (Kd.R_reads' HO216.out).2.2 | (with_reducible refine Kd.C_alloc ?_ _) | (with_reducible refine Kd.C_drewN ?_ _) | (with_reducible refine Kd.C_drew ?_))); (case side2_13 => exact (Kd.R_reads' HO216.out).2.1); (case side3_13 => repeat (first | exact (Kd.R_reads' HO_6.out).2.2 | (with_reducible refine Kd.C_alloc ?_ _) | (with_reducible refine Kd.C_drewN ?_ _) | (with_reducible refine Kd.C_drew ?_))); (case side4_13 => exact (Kd.R_reads' HO_6.out).2.1); rintro e w' ⟨rfl, ⟨nd, rfl⟩⟩; (try first | exact ⟨rfl, _, World.drewN_drewN _ _ _⟩ | exact ⟨rfl, _, Eq.trans (World.drewN_drewN _ _ _) (congrArg (World.drewN _) (Nat.add_assoc _ _ _))⟩))); try go_wp2_with (first | (go_at_call 17; (with_reducible refine (route_Lean.calls _ _ t207 t214 _ ?side1_14 ?side2_14 A25.out).mono ?_); (case side1_14 => repeat (first | exact (Kd.R_reads' HO_6.out).2.2 | (with_reducible refine Kd.C_alloc ?_ _) | (with_reducible refine Kd.C_drewN ?_ _) | (with_reducible refine Kd.C_drew ?_))); (case side2_14 => exact (Kd.R_reads' HO_6.out).2.1); rintro e w27 ⟨v215, rfl, ho0, hb⟩; have n0_ := Aside0.mk (Kd.R_elder' (by (with_reducible repeat (first | apply Kd.R_alloc | apply Kd.R_drewN | apply Kd.R_drew)); exact HO_6.out) (Kd.R_base ho0) hb); have n1_ := Aside0.mk (Kd.R_lower (Kd.R_new' ho0 (Kd.R_lt (by (with_reducible repeat (first | apply Kd.R_alloc | apply Kd.R_drewN | apply Kd.R_drew)); exact HO_6.out))) (below_size (by repeat (first | (with_reducible first | exact HB.out | apply below_alloc | apply pw_below_drewN | apply below_drew1) | exact HB.out)))); have n2_ := Aside0.mk (below_step (by repeat (first | (with_reducible first | exact HB.out | apply below_alloc | apply pw_below_drewN | apply below_drew1) | exact HB.out)) hb); clear HO_6; clear HB; have HO_6 := n0_; have HO216 := n1_; have HB := n2_; clear n0_ n1_ n2_; (try clear hb); (try clear hb2); (try clear hk); (try clear hi); (try clear ho0); obtain ⟨Ao28, co28, eo28⟩ := Kd.R_slice HO216.out; subst eo28) | (go_at_call 16; (with_reducible refine (lessorref25_Same.calls kj10 _ _ t214 _ _ t207 t217 _ ?side1_15 ?side2_15 ?side3_15 ?side4_15 A26.out).mono ?_); (case side1_15 => repeat (first | exact (Kd.R_reads' HO216.out).2.2 | (with_reducible refine Kd.C_alloc ?_ _) | (with_reducible refine Kd.C_drewN ?_ _) | (with_reducible refine Kd.C_drew ?_))); (case side2_15 => exact (Kd.R_reads' HO216.out).2.1); (case side3_15 => repeat (first | exact (Kd.R_reads' HO_6.out).2.2 | (with_reducible refine Kd.C_alloc ?_ _) | (with_reducible refine Kd.C_drewN ?_ _) | (with_reducible refine Kd.C_drew ?_))); (case side4_15 => exact (Kd.R_reads' HO_6.out).2.1); rintro e w' ⟨rfl, ⟨nd, rfl⟩⟩; (try first | exact ⟨rfl, _, World.drewN_drewN _ _ _⟩ | exact ⟨rfl, _, Eq.trans (World.drewN_drewN _ _ _) (congrArg (World.drewN _) (Nat.add_assoc _ _ _))⟩))))
              go_ret
              exact ⟨by first | rfl | (simp [errW_none, errW_some] <;> rfl) | (simp [*, errW_none, errW_some] <;> rfl), by repeat (first | (with_reducible first | exact HB.out | apply below_alloc | apply pw_below_drewN | apply below_drew1) | exact HB.out)⟩

end Go.Proofs.Yteniakelhalojaa.Pn
