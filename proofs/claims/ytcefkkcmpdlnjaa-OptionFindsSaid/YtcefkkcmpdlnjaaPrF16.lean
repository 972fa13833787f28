-- written by a program of this session (wip/tools/gen.py) over the kit's print
import Derived.Test.YtcefkkcmpdlnjaaPr0
namespace Go.Proofs.Ytcefkkcmpdlnjaa.Pr
open Go.RowKit Go.Proofs.YtcefkkcmpdlnjaaW.PrintWords Go.Proofs.YtcefkkcmpdlnjaaW.PrintLast Go.Proofs.YtcefkkcmpdlnjaaW.PrintMore
attribute [local go_sem] max2_int min2_int max_two min_two max_three min_three max_four min_four   -- for this text's walks alone
set_option linter.unusedVariables false
set_option linter.unusedSimpArgs false

/-! ### lessorref02_Find: function 16 -/
def lessorref02_Find.l0 : Nat → List (S40) → Int → Int → Option (List Int × Bool)
  | 0, _, _, _ => none
  | k + 1, x0, x1, x6 => if x6 < (x0.length : Int) then (if 0 ≤ x6 then (if ((rd_T40 x0 x6).f0) = x1 then (some ((rd_T40 x0 x6).f1, true)) else (lessorref02_Find.l0 k x0 x1 (wrap64 (x6 + 1)))) else (none)) else (some (([] : List Int), false))
def lessorref02_Find.f (k : Nat) (l0 : List (S40)) (a1 : Int) : Option (List Int × Bool) := lessorref02_Find.l0 k l0 a1 0
theorem lessorref02_Find.mono_l : ∀ k, (∀ y0 y1 y2, LeO (lessorref02_Find.l0 k y0 y1 y2) (lessorref02_Find.l0 (k + 1) y0 y1 y2))
  | 0 => fun _ _ _ r h => by simp [lessorref02_Find.l0] at h
  | k + 1 => by
    have ih0 := lessorref02_Find.mono_l k
    · intro y0 y1 y2
      unfold lessorref02_Find.l0
      repeat' first
      | (with_reducible exact ih0 _ _ _)
      | (with_reducible exact LeO.refl _)
      | (with_reducible exact LeO.none _)
      | (with_reducible refine LeO.ite ?_ ?_)
      | (with_reducible refine LeO.bind ?_ (fun _ => ?_))
      | exact ih0 _ _ _
      | exact LeO.none _
      | refine LeO.ite ?_ ?_
      | refine LeO.bind ?_ (fun _ => ?_)
theorem lessorref02_Find.mono : ∀ a0 a1 k, LeO (lessorref02_Find.f k a0 a1) (lessorref02_Find.f (k + 1) a0 a1) := by
  intro a0 a1 k
  have ih0 := lessorref02_Find.mono_l k
  unfold lessorref02_Find.f
  repeat' first
      | (with_reducible exact ih0 _ _ _)
      | (with_reducible exact LeO.refl _)
      | (with_reducible exact LeO.none _)
      | (with_reducible refine LeO.ite ?_ ?_)
      | (with_reducible refine LeO.bind ?_ (fun _ => ?_))
      | exact ih0 _ _ _
      | exact LeO.none _
      | refine LeO.ite ?_ ?_
      | refine LeO.bind ?_ (fun _ => ?_)
set_option maxHeartbeats 8000000 in
set_option maxRecDepth 100000 in
theorem lessorref02_Find.calls (k : Nat) (P0_ : Nat → Prop) (A0 : Option Addr) (c0 : Nat) (l0 : List (S40)) (a1 : Int) (r1 : List Int) (r2 : Bool) (w : World) (hs0 : Kd.V k40 40 w w.heap.size (fun k_ => P0_ k_) (.slice A0 l0.length c0) l0) (h : lessorref02_Find.f k l0 a1 = some (r1, r2)) :
    Calls Try.prog 16 #[.slice A0 l0.length c0, .int .i64 a1] w fun e w' => ∃ v0_ : Value, e = .returned (.tuple #[v0_, .bool r2]) ∧ Kd.V (Kd.int .u8) 5 w' w.heap.size (fun k_ => (P0_ k_ ∨ w.heap.size ≤ k_)) v0_ r1 ∧ Below w.heap.size w w' := by
  have HO0 := Aside0.mk (show Kd.V k40 40 w w.heap.size (fun k_ => (P0_ k_ ∨ w.heap.size ≤ k_)) (.slice A0 l0.length c0) l0 from Kd.V_mono hs0 (fun k_ hk => .inl hk))
  have HB := Aside0.mk (Below.refl w.heap.size w)
  have H : (lessorref02_Find.l0 k l0 a1 0) = some (r1, r2) := h
  clear h
  have H' := Aside0.mk H
  clear H
  go_enter Try.func16, Try.ntmps16
  go_wp2
  go_loopg [6] k (fun kq v6 w' => ∃ (x6_1 : Int), v6 = .int .i64 x6_1 ∧ Aside0 (lessorref02_Find.l0 kq l0 a1 x6_1 = some (r1, r2)) ∧ Aside0 (kq ≤ k) ∧ Aside0 (Kd.V k40 40 w' w.heap.size (fun k_ => (P0_ k_ ∨ w.heap.size ≤ k_)) (.slice A0 l0.length c0) l0) ∧ Aside0 (Below w.heap.size w w'))
  case atStart => exact ⟨(0), (by first | rfl | (simp; done) | (simp [*]; done)), H', ⟨Nat.le_refl _⟩, ⟨by (with_reducible repeat (first | apply Kd.V_alloc | apply Kd.V_drewN | apply Kd.V_drew)); exact HO0.out⟩, ⟨by repeat (first | (with_reducible first | exact HB.out | apply below_alloc | apply pw_below_drewN | apply below_drew1) | exact HB.out)⟩⟩
  case round =>
    clear H'
    try clear c1
    try clear p2
    obtain ⟨x6_1, rfl, HA, HK1, HO_0, HB⟩ := hrel
    cases gk with
    | zero => exact absurd HA.out (by simp [lessorref02_Find.l0])
    | succ k1 =>
      have H := HA.out
      clear HA
      simp only [lessorref02_Find.l0] at H
      by_cases c3 : x6_1 < (l0.length : Int)
      · rw [if_pos c3] at H
        have c3b0 : decide (x6_1 < (l0.length : Int)) = true := decide_eq_true c3
        clear c3
        by_cases c4 : 0 ≤ x6_1
        · rw [if_pos c4] at H
          have c4b0 : decide (0 ≤ x6_1) = true := decide_eq_true c4
          clear c4
          by_cases c5 : ((rd_T40 l0 x6_1).f0) = a1
          · rw [if_pos c5] at H
            have c5b0 : (((rd_T40 l0 x6_1).f0) == a1) = true := beq_iff_eq.mpr c5
            have c5b1 : (((rd_T40 l0 x6_1).f0) != a1) = false := bne_eq_false_iff_eq.mpr c5
            clear c5
            simp only [Option.some.injEq, Prod.mk.injEq] at H
            obtain ⟨rfl, rfl⟩ := H
            have p191 : 0 ≤ (x6_1 : Int) := of_decide_eq_true (by first | (with_reducible assumption) | assumption)
            have q191 : x6_1 < (l0.length : Int) := of_decide_eq_true (by first | (with_reducible assumption) | assumption)
            obtain ⟨ad191, A191_1, c191_1, e191, hx191_0, hx191_1, hl191_1, hi191_1⟩ := at_T40 (Kd.V_reads' HO_0.out).2.2 x6_1 p191 q191
            cases e191
            obtain ⟨ce191, hce191, hMe191, hcc191⟩ := Kd.V_get HO_0.out z40 x6_1 p191 (by first | exact q191 | exact of_decide_eq_true (by first | (with_reducible assumption) | assumption) | (have e_ := (Kd.V_reads' HO_0.out).1; omega))
            obtain ⟨ua191_1, uc191_1, rfl, ul191_1, ge191_1⟩ := k40_openF hMe191
            have hv191_1 := hcc191 1 _ rfl
            rw [add_field _ _ 1 (by omega)] at hv191_1
            replace hv191_1 := Option.some.inj (hv191_1.symm.trans hx191_1)
            injection hv191_1 with hva_ hvn_ hvc_
            rw [hva_] at ge191_1
            rw [hvc_] at ul191_1
            have HL191_1 := Aside0.mk (show Kd.V (Kd.int .u8) 5 _ w.heap.size _ _ ((rd_T40 l0 x6_1).f1) from Kd.V_mk ul191_1 ge191_1)
            clear hva_ hvn_ hvc_ ge191_1 ul191_1
            clear hcc191 hce191
            have HR191_1 := Aside0.mk hi191_1
            have HC191_1 := Aside0.mk hl191_1
            clear hi191_1 hl191_1
            replace p191 := eq_true p191
            replace q191 := eq_true q191
            have p192 : 0 ≤ (x6_1 : Int) := of_decide_eq_true (by first | (with_reducible assumption) | assumption)
            have q192 : x6_1 < (l0.length : Int) := of_decide_eq_true (by first | (with_reducible assumption) | assumption)
            obtain ⟨ad192, A192_1, c192_1, e192, hx192_0, hx192_1, hl192_1, hi192_1⟩ := at_T40 (Kd.V_reads' HO_0.out).2.2 x6_1 p192 q192
            obtain rfl : ad191 = ad192 := (by injection e192)
            obtain ⟨ce192, hce192, hMe192, hcc192⟩ := Kd.V_get HO_0.out z40 x6_1 p192 (by first | exact q192 | exact of_decide_eq_true (by first | (with_reducible assumption) | assumption) | (have e_ := (Kd.V_reads' HO_0.out).1; omega))
            obtain ⟨ua192_1, uc192_1, rfl, ul192_1, ge192_1⟩ := k40_openF hMe192
            have hv192_1 := hcc192 1 _ rfl
            rw [add_field _ _ 1 (by omega)] at hv192_1
            replace hv192_1 := Option.some.inj (hv192_1.symm.trans hx192_1)
            injection hv192_1 with hva_ hvn_ hvc_
            rw [hva_] at ge192_1
            rw [hvc_] at ul192_1
            have HL192_1 := Aside0.mk (show Kd.V (Kd.int .u8) 5 _ w.heap.size _ _ ((rd_T40 l0 x6_1).f1) from Kd.V_mk ul192_1 ge192_1)
            clear hva_ hvn_ hvc_ ge192_1 ul192_1
            clear hcc192 hce192
            have HR192_1 := Aside0.mk hi192_1
            have HC192_1 := Aside0.mk hl192_1
            clear hi192_1 hl192_1
            replace p192 := eq_true p192
            replace q192 := eq_true q192
            have ea_ := Option.some.inj (hx191_1.symm.trans hx192_1)
            injection ea_ with ea_ en_ ec_
            subst ea_
            subst ec_
            clear en_
            go_wp2
            go_ret2
            exact ⟨_, by first | rfl | (simp [errW_none, errW_some] <;> rfl) | (simp [*, errW_none, errW_some] <;> rfl), by (with_reducible repeat (first | apply Kd.V_alloc | apply Kd.V_drewN | apply Kd.V_drew)); exact HL192_1.out, by repeat (first | (with_reducible first | exact HB.out | apply below_alloc | apply pw_below_drewN | apply below_drew1) | exact HB.out)⟩
          · rw [if_neg c5] at H
            have c5b0 : (((rd_T40 l0 x6_1).f0) == a1) = false := beq_eq_false_iff_ne.mpr c5
            have c5b1 : (((rd_T40 l0 x6_1).f0) != a1) = true := bne_iff_ne.mpr c5
            have H' := Aside0.mk H
            clear H
            have p191 : 0 ≤ (x6_1 : Int) := of_decide_eq_true (by first | (with_reducible assumption) | assumption)
            have q191 : x6_1 < (l0.length : Int) := of_decide_eq_true (by first | (with_reducible assumption) | assumption)
            obtain ⟨ad191, A191_1, c191_1, e191, hx191_0, hx191_1, hl191_1, hi191_1⟩ := at_T40 (Kd.V_reads' HO_0.out).2.2 x6_1 p191 q191
            cases e191
            obtain ⟨ce191, hce191, hMe191, hcc191⟩ := Kd.V_get HO_0.out z40 x6_1 p191 (by first | exact q191 | exact of_decide_eq_true (by first | (with_reducible assumption) | assumption) | (have e_ := (Kd.V_reads' HO_0.out).1; omega))
            obtain ⟨ua191_1, uc191_1, rfl, ul191_1, ge191_1⟩ := k40_openF hMe191
            have hv191_1 := hcc191 1 _ rfl
            rw [add_field _ _ 1 (by omega)] at hv191_1
            replace hv191_1 := Option.some.inj (hv191_1.symm.trans hx191_1)
            injection hv191_1 with hva_ hvn_ hvc_
            rw [hva_] at ge191_1
            rw [hvc_] at ul191_1
            have HL191_1 := Aside0.mk (show Kd.V (Kd.int .u8) 5 _ w.heap.size _ _ ((rd_T40 l0 x6_1).f1) from Kd.V_mk ul191_1 ge191_1)
            clear hva_ hvn_ hvc_ ge191_1 ul191_1
            clear hcc191 hce191
            have HR191_1 := Aside0.mk hi191_1
            have HC191_1 := Aside0.mk hl191_1
            clear hi191_1 hl191_1
            replace p191 := eq_true p191
            replace q191 := eq_true q191
            go_wp2
            go_roundg k1
            case measure => have := HK1.out; omega
            case rel => exact ⟨(wrap64 (x6_1 + 1)), (by first | rfl | (simp; done) | (simp [*]; done)), H', ⟨by have := HK1.out; omega⟩, ⟨by (with_reducible repeat (first | apply Kd.V_alloc | apply Kd.V_drewN | apply Kd.V_drew)); exact HO_0.out⟩, ⟨by repeat (first | (with_reducible first | exact HB.out | apply below_alloc | apply pw_below_drewN | apply below_drew1) | exact HB.out)⟩⟩
        · rw [if_neg c4] at H
          exact absurd H (by simp)
      · rw [if_neg c3] at H
        have c3b0 : decide (x6_1 < (l0.length : Int)) = false := decide_eq_false c3
        clear c3
        simp only [Option.some.injEq, Prod.mk.injEq] at H
        obtain ⟨rfl, rfl⟩ := H
        go_wp2
        go_ret2
        exact ⟨_, by first | rfl | (simp [errW_none, errW_some] <;> rfl) | (simp [*, errW_none, errW_some] <;> rfl), (by first | exact Kd.V_nil _ _ _ _ _ | exact Kd.V_mono (Kd.R_V (by first | exact Kd.R_nil _ _ _ _ _ | exact Kd.N_nil _ _ _ _ _ | exact Kd.V_nil _ _ _ _ _ | exact Kd.Q_nil _ _ _ _ _ | exact Kd.S_nil _ _ _ _ _)) (fun k_ hk => by first | exact ⟨(.inr (hk.1)), hk.2⟩ | exact (.inr (hk)))), by repeat (first | (with_reducible first | exact HB.out | apply below_alloc | apply pw_below_drewN | apply below_drew1) | exact HB.out)⟩

end Go.Proofs.Ytcefkkcmpdlnjaa.Pr
