-- written by a program of this session (wip/tools/gen.py) over the kit's print
import Derived.Test.YtcefkkcmpdlnjaaPr0
import Derived.Test.YtcefkkcmpdlnjaaPrF7
import Derived.Test.YtcefkkcmpdlnjaaPrF11
import Derived.Test.YtcefkkcmpdlnjaaPrF12
import Derived.Test.YtcefkkcmpdlnjaaPrF13
import Derived.Test.YtcefkkcmpdlnjaaPrF14
namespace Go.Proofs.Ytcefkkcmpdlnjaa.Pr
open Go.RowKit Go.Proofs.YtcefkkcmpdlnjaaW.PrintWords Go.Proofs.YtcefkkcmpdlnjaaW.PrintLast Go.Proofs.YtcefkkcmpdlnjaaW.PrintMore
attribute [local go_sem] max2_int min2_int max_two min_two max_three min_three max_four min_four   -- for this text's walks alone
set_option linter.unusedVariables false
set_option linter.unusedSimpArgs false

/-! ### lessorlaw02_OptionNumbers: function 4 -/
mutual
def lessorlaw02_OptionNumbers.j0 : Nat → List Int → Int → Int → Bool → Bool → Option (Bool)
  | 0, _, _, _, _, _ => none
  | k + 1, x0, x1, x2, x7, x27 => if x27 = true then (some x7) else ((option_Number.f k x0).bind fun bt169 => ((lessorref02_Number.f k x0).bind fun bt171 => ((option_Bytes.f k x1 x2).bind fun bt173 => ((lessorref02_Bytes.f k x1 x2).bind fun bt177 => (if bt169.1 = bt171.1 then (if bt169.2 = bt171.2 then (if (strOfNums bt173.1).toList = (strOfNums bt177.1).toList then (lessorlaw02_OptionNumbers.j1 k x0 x1 bt169.1 bt169.2 bt173.1 bt173.2 (bt173.2 != bt177.2)) else (lessorlaw02_OptionNumbers.j1 k x0 x1 bt169.1 bt169.2 bt173.1 bt173.2 true)) else (lessorlaw02_OptionNumbers.j1 k x0 x1 bt169.1 bt169.2 bt173.1 bt173.2 true)) else (lessorlaw02_OptionNumbers.j1 k x0 x1 bt169.1 bt169.2 bt173.1 bt173.2 true))))))
def lessorlaw02_OptionNumbers.j1 : Nat → List Int → Int → Int → Int → List Int → Int → Bool → Option (Bool)
  | 0, _, _, _, _, _, _, _ => none
  | k + 1, x0, x1, x8, x9, x12, x13, x70 => if x70 = true then (some false) else (if x13 = 0 then ((option_Number.f k x12).bind fun bt181 => (if bt181.2 = 0 then (lessorlaw02_OptionNumbers.j2 k x0 x8 x9 (bt181.1 != x1)) else (lessorlaw02_OptionNumbers.j2 k x0 x8 x9 true))) else (if x9 = 0 then ((option_Bytes.f k x8 (x0.length : Int)).bind fun bt187 => (if bt187.2 = 0 then (some ((strOfNums bt187.1).toList == (strOfNums x0).toList)) else (some false))) else (some true)))
def lessorlaw02_OptionNumbers.j2 : Nat → List Int → Int → Int → Bool → Option (Bool)
  | 0, _, _, _, _ => none
  | k + 1, x0, x8, x9, x84 => if x84 = true then (some false) else (if x9 = 0 then ((option_Bytes.f k x8 (x0.length : Int)).bind fun bt183 => (if bt183.2 = 0 then (some ((strOfNums bt183.1).toList == (strOfNums x0).toList)) else (some false))) else (some true))
end
def lessorlaw02_OptionNumbers.f (k : Nat) (l0 : List Int) (a1 : Int) (a2 : Int) : Option (Bool) := (lessorlaw02_awake.f k).bind fun t168 => (if t168 = true then (lessorlaw02_OptionNumbers.j0 k l0 a1 a2 t168 (decide ((l0.length : Int) > 1000))) else (lessorlaw02_OptionNumbers.j0 k l0 a1 a2 t168 true))
theorem lessorlaw02_OptionNumbers.mono_l : ∀ k, (∀ y0 y1 y2 y3 y4, LeO (lessorlaw02_OptionNumbers.j0 k y0 y1 y2 y3 y4) (lessorlaw02_OptionNumbers.j0 (k + 1) y0 y1 y2 y3 y4)) ∧ (∀ y0 y1 y2 y3 y4 y5 y6, LeO (lessorlaw02_OptionNumbers.j1 k y0 y1 y2 y3 y4 y5 y6) (lessorlaw02_OptionNumbers.j1 (k + 1) y0 y1 y2 y3 y4 y5 y6)) ∧ (∀ y0 y1 y2 y3, LeO (lessorlaw02_OptionNumbers.j2 k y0 y1 y2 y3) (lessorlaw02_OptionNumbers.j2 (k + 1) y0 y1 y2 y3))
  | 0 => ⟨fun _ _ _ _ _ r h => by simp [lessorlaw02_OptionNumbers.j0] at h, fun _ _ _ _ _ _ _ r h => by simp [lessorlaw02_OptionNumbers.j1] at h, fun _ _ _ _ r h => by simp [lessorlaw02_OptionNumbers.j2] at h⟩
  | k + 1 => by
    obtain ⟨ih0, ih1, ih2⟩ := lessorlaw02_OptionNumbers.mono_l k
    refine ⟨?_, ?_, ?_⟩
    · intro y0 y1 y2 y3 y4
      unfold lessorlaw02_OptionNumbers.j0
      repeat' first
      | (with_reducible exact ih0 _ _ _ _ _)
      | (with_reducible exact ih1 _ _ _ _ _ _ _)
      | (with_reducible exact ih2 _ _ _ _)
      | (with_reducible exact lessorlaw02_awake.mono _)
      | (with_reducible exact lessorref02_Bytes.mono _ _ _)
      | (with_reducible exact lessorref02_Number.mono _ _)
      | (with_reducible exact option_Bytes.mono _ _ _)
      | (with_reducible exact option_Number.mono _ _)
      | (with_reducible exact LeO.refl _)
      | (with_reducible exact LeO.none _)
      | (with_reducible refine LeO.ite ?_ ?_)
      | (with_reducible refine LeO.bind ?_ (fun _ => ?_))
      | exact ih0 _ _ _ _ _
      | exact ih1 _ _ _ _ _ _ _
      | exact ih2 _ _ _ _
      | exact lessorlaw02_awake.mono _
      | exact lessorref02_Bytes.mono _ _ _
      | exact lessorref02_Number.mono _ _
      | exact option_Bytes.mono _ _ _
      | exact option_Number.mono _ _
      | exact LeO.none _
      | refine LeO.ite ?_ ?_
      | refine LeO.bind ?_ (fun _ => ?_)
    · intro y0 y1 y2 y3 y4 y5 y6
      unfold lessorlaw02_OptionNumbers.j1
      repeat' first
      | (with_reducible exact ih0 _ _ _ _ _)
      | (with_reducible exact ih1 _ _ _ _ _ _ _)
      | (with_reducible exact ih2 _ _ _ _)
      | (with_reducible exact lessorlaw02_awake.mono _)
      | (with_reducible exact lessorref02_Bytes.mono _ _ _)
      | (with_reducible exact lessorref02_Number.mono _ _)
      | (with_reducible exact option_Bytes.mono _ _ _)
      | (with_reducible exact option_Number.mono _ _)
      | (with_reducible exact LeO.refl _)
      | (with_reducible exact LeO.none _)
      | (with_reducible refine LeO.ite ?_ ?_)
      | (with_reducible refine LeO.bind ?_ (fun _ => ?_))
      | exact ih0 _ _ _ _ _
      | exact ih1 _ _ _ _ _ _ _
      | exact ih2 _ _ _ _
      | exact lessorlaw02_awake.mono _
      | exact lessorref02_Bytes.mono _ _ _
      | exact lessorref02_Number.mono _ _
      | exact option_Bytes.mono _ _ _
      | exact option_Number.mono _ _
      | exact LeO.none _
      | refine LeO.ite ?_ ?_
      | refine LeO.bind ?_ (fun _ => ?_)
    · intro y0 y1 y2 y3
      unfold lessorlaw02_OptionNumbers.j2
      repeat' first
      | (with_reducible exact ih0 _ _ _ _ _)
      | (with_reducible exact ih1 _ _ _ _ _ _ _)
      | (with_reducible exact ih2 _ _ _ _)
      | (with_reducible exact lessorlaw02_awake.mono _)
      | (with_reducible exact lessorref02_Bytes.mono _ _ _)
      | (with_reducible exact lessorref02_Number.mono _ _)
      | (with_reducible exact option_Bytes.mono _ _ _)
      | (with_reducible exact option_Number.mono _ _)
      | (with_reducible exact LeO.refl _)
      | (with_reducible exact LeO.none _)
      | (with_reducible refine LeO.ite ?_ ?_)
      | (with_reducible refine LeO.bind ?_ (fun _ => ?_))
      | exact ih0 _ _ _ _ _
      | exact ih1 _ _ _ _ _ _ _
      | exact ih2 _ _ _ _
      | exact lessorlaw02_awake.mono _
      | exact lessorref02_Bytes.mono _ _ _
      | exact lessorref02_Number.mono _ _
      | exact option_Bytes.mono _ _ _
      | exact option_Number.mono _ _
      | exact LeO.none _
      | refine LeO.ite ?_ ?_
      | refine LeO.bind ?_ (fun _ => ?_)
theorem lessorlaw02_OptionNumbers.mono : ∀ a0 a1 a2 k, LeO (lessorlaw02_OptionNumbers.f k a0 a1 a2) (lessorlaw02_OptionNumbers.f (k + 1) a0 a1 a2) := by
  intro a0 a1 a2 k
  obtain ⟨ih0, ih1, ih2⟩ := lessorlaw02_OptionNumbers.mono_l k
  unfold lessorlaw02_OptionNumbers.f
  repeat' first
      | (with_reducible exact ih0 _ _ _ _ _)
      | (with_reducible exact ih1 _ _ _ _ _ _ _)
      | (with_reducible exact ih2 _ _ _ _)
      | (with_reducible exact lessorlaw02_awake.mono _)
      | (with_reducible exact lessorref02_Bytes.mono _ _ _)
      | (with_reducible exact lessorref02_Number.mono _ _)
      | (with_reducible exact option_Bytes.mono _ _ _)
      | (with_reducible exact option_Number.mono _ _)
      | (with_reducible exact LeO.refl _)
      | (with_reducible exact LeO.none _)
      | (with_reducible refine LeO.ite ?_ ?_)
      | (with_reducible refine LeO.bind ?_ (fun _ => ?_))
      | exact ih0 _ _ _ _ _
      | exact ih1 _ _ _ _ _ _ _
      | exact ih2 _ _ _ _
      | exact lessorlaw02_awake.mono _
      | exact lessorref02_Bytes.mono _ _ _
      | exact lessorref02_Number.mono _ _
      | exact option_Bytes.mono _ _ _
      | exact option_Number.mono _ _
      | exact LeO.none _
      | refine LeO.ite ?_ ?_
      | refine LeO.bind ?_ (fun _ => ?_)
set_option maxHeartbeats 8000000 in
set_option maxRecDepth 100000 in
theorem lessorlaw02_OptionNumbers.calls (k : Nat) (A0 : Option Addr) (c0 : Nat) (l0 : List Int) (a1 : Int) (a2 : Int) (r : Bool) (w : World) (hr0 : Kd.C (Kd.int .u8) w A0 l0.length l0) (hc0 : l0.length ≤ c0) (h : lessorlaw02_OptionNumbers.f k l0 a1 a2 = some r) :
    Calls Try.prog 4 #[.slice A0 l0.length c0, .int .i64 a1, .int .i64 a2] w fun e w' => e = .returned (.bool r) ∧ Below w.heap.size w w' := by
  have HR0 := Aside0.mk hr0
  have HC0 := Aside0.mk hc0
  clear hr0 hc0
  have HB := Aside0.mk (Below.refl w.heap.size w)
  have H : ((lessorlaw02_awake.f k).bind fun t168 => (if t168 = true then (lessorlaw02_OptionNumbers.j0 k l0 a1 a2 t168 (decide ((l0.length : Int) > 1000))) else (lessorlaw02_OptionNumbers.j0 k l0 a1 a2 t168 true))) = some r := h
  clear h
  replace H := Option.bind_eq_some_iff.mp H
  obtain ⟨t168, A40, H⟩ := H
  replace H : (if t168 = true then (lessorlaw02_OptionNumbers.j0 k l0 a1 a2 t168 (decide ((l0.length : Int) > 1000))) else (lessorlaw02_OptionNumbers.j0 k l0 a1 a2 t168 true)) = some r := H
  have A4 := Aside0.mk A40
  clear A40
  have HC5 := Aside0.mk H
  clear H
  go_enter Try.func4, Try.ntmps4
  go_upto_region 2 with (first | ((with_reducible refine gate_callee (f := 7) rfl ?_); refine goesL_ (some 20) rfl rfl Try.func7 (by kernel_rfl) rfl #[] rfl (by (try simp only [List.map_toArray, List.map_cons, List.map_nil]); first | done | rfl | (simp only [List.length_drop, List.length_take]; rfl)) ?_; (with_reducible refine (lessorlaw02_awake.calls k  t168 _ A4.out).mono ?_); rintro e w6 ⟨rfl, hb⟩; refine ⟨_, rfl, ?_⟩; have n0_ := Aside0.mk (below_step (by repeat (first | (with_reducible first | exact HB.out | apply below_alloc | apply pw_below_drewN | apply below_drew1) | exact HB.out)) hb); clear HB; have HB := n0_; clear n0_; (try clear hb); (try clear hb2); (try clear hk); (try clear hi)))
  (try simp only [Act.put, List.setIfInBounds_toArray, List.set_cons_zero, List.set_cons_succ])
  go_cut [27] (fun v27 wc => ∃ (kq : Nat) (x27_4 : Bool), v27 = .bool x27_4 ∧ Aside0 (lessorlaw02_OptionNumbers.j0 kq l0 a1 a2 t168 x27_4 = some r) ∧ Aside0 (kq ≤ k) ∧ Aside0 (Below w.heap.size w wc))
  case first =>
    have H := HC5.out
    clear HC5
    by_cases c7 : t168 = true
    · subst c7
      have H1 : (lessorlaw02_OptionNumbers.j0 k l0 a1 a2 true (decide ((l0.length : Int) > 1000))) = some r := by rw [if_pos rfl] at H; exact H
      clear H
      have H := H1
      clear H1
      have H' := Aside0.mk H
      clear H
      go_wp2
      go_meet
      case rel => exact ⟨_, (decide ((l0.length : Int) > 1000)), (by first | rfl | (simp; done) | (simp [*]; done)), H', ⟨by first | omega | exact Nat.le_refl _⟩, ⟨by repeat (first | (with_reducible first | exact HB.out | apply below_alloc | apply pw_below_drewN | apply below_drew1) | exact HB.out)⟩⟩
    · replace c7 := Bool.eq_false_iff.mpr c7
      subst c7
      have H1 : (lessorlaw02_OptionNumbers.j0 k l0 a1 a2 false true) = some r := by rw [if_neg (show ¬ (false = true) by decide)] at H; exact H
      clear H
      have H := H1
      clear H1
      have H' := Aside0.mk H
      clear H
      go_wp2
      go_meet
      case rel => exact ⟨_, (true), (by first | rfl | (simp; done) | (simp [*]; done)), H', ⟨by first | omega | exact Nat.le_refl _⟩, ⟨by repeat (first | (with_reducible first | exact HB.out | apply below_alloc | apply pw_below_drewN | apply below_drew1) | exact HB.out)⟩⟩
  case rest =>
    clear HC5
    try clear p2
    try clear c4
    try clear c7
    obtain ⟨kq, x27_4, rfl, HA, HJ4, HB⟩ := hcut
    cases kq with
    | zero => exact absurd HA.out (by simp [lessorlaw02_OptionNumbers.j0])
    | succ kj4 =>
      have H := HA.out
      clear HA
      simp only [lessorlaw02_OptionNumbers.j0] at H
      by_cases c8 : x27_4 = true
      · subst c8
        have H1 : (some t168) = some r := by rw [if_pos rfl] at H; exact H
        clear H
        have H := H1
        clear H1
        obtain rfl := Option.some.inj H
        go_wp2
        go_ret
        exact ⟨by first | rfl | (simp [errW_none, errW_some] <;> rfl) | (simp [*, errW_none, errW_some] <;> rfl), by repeat (first | (with_reducible first | exact HB.out | apply below_alloc | apply pw_below_drewN | apply below_drew1) | exact HB.out)⟩
      · replace c8 := Bool.eq_false_iff.mpr c8
        subst c8
        have H1 : ((option_Number.f kj4 l0).bind fun bt169 => ((lessorref02_Number.f kj4 l0).bind fun bt171 => ((option_Bytes.f kj4 a1 a2).bind fun bt173 => ((lessorref02_Bytes.f kj4 a1 a2).bind fun bt177 => (if bt169.1 = bt171.1 then (if bt169.2 = bt171.2 then (if (strOfNums bt173.1).toList = (strOfNums bt177.1).toList then (lessorlaw02_OptionNumbers.j1 kj4 l0 a1 bt169.1 bt169.2 bt173.1 bt173.2 (bt173.2 != bt177.2)) else (lessorlaw02_OptionNumbers.j1 kj4 l0 a1 bt169.1 bt169.2 bt173.1 bt173.2 true)) else (lessorlaw02_OptionNumbers.j1 kj4 l0 a1 bt169.1 bt169.2 bt173.1 bt173.2 true)) else (lessorlaw02_OptionNumbers.j1 kj4 l0 a1 bt169.1 bt169.2 bt173.1 bt173.2 true)))))) = some r := by rw [if_neg (show ¬ (false = true) by decide)] at H; exact H
        clear H
        have H := H1
        clear H1
        replace H := Option.bind_eq_some_iff.mp H
        obtain ⟨⟨t169, t170⟩, A90, H⟩ := H
        replace H : ((lessorref02_Number.f kj4 l0).bind fun bt171 => ((option_Bytes.f kj4 a1 a2).bind fun bt173 => ((lessorref02_Bytes.f kj4 a1 a2).bind fun bt177 => (if t169 = bt171.1 then (if t170 = bt171.2 then (if (strOfNums bt173.1).toList = (strOfNums bt177.1).toList then (lessorlaw02_OptionNumbers.j1 kj4 l0 a1 t169 t170 bt173.1 bt173.2 (bt173.2 != bt177.2)) else (lessorlaw02_OptionNumbers.j1 kj4 l0 a1 t169 t170 bt173.1 bt173.2 true)) else (lessorlaw02_OptionNumbers.j1 kj4 l0 a1 t169 t170 bt173.1 bt173.2 true)) else (lessorlaw02_OptionNumbers.j1 kj4 l0 a1 t169 t170 bt173.1 bt173.2 true))))) = some r := H
        have A9 := Aside0.mk A90
        clear A90
        replace H := Option.bind_eq_some_iff.mp H
        obtain ⟨⟨t171, t172⟩, A100, H⟩ := H
        replace H : ((option_Bytes.f kj4 a1 a2).bind fun bt173 => ((lessorref02_Bytes.f kj4 a1 a2).bind fun bt177 => (if t169 = t171 then (if t170 = t172 then (if (strOfNums bt173.1).toList = (strOfNums bt177.1).toList then (lessorlaw02_OptionNumbers.j1 kj4 l0 a1 t169 t170 bt173.1 bt173.2 (bt173.2 != bt177.2)) else (lessorlaw02_OptionNumbers.j1 kj4 l0 a1 t169 t170 bt173.1 bt173.2 true)) else (lessorlaw02_OptionNumbers.j1 kj4 l0 a1 t169 t170 bt173.1 bt173.2 true)) else (lessorlaw02_OptionNumbers.j1 kj4 l0 a1 t169 t170 bt173.1 bt173.2 true)))) = some r := H
        have A10 := Aside0.mk A100
        clear A100
        replace H := Option.bind_eq_some_iff.mp H
        obtain ⟨⟨t173, t174⟩, A110, H⟩ := H
        replace H : ((lessorref02_Bytes.f kj4 a1 a2).bind fun bt177 => (if t169 = t171 then (if t170 = t172 then (if (strOfNums t173).toList = (strOfNums bt177.1).toList then (lessorlaw02_OptionNumbers.j1 kj4 l0 a1 t169 t170 t173 t174 (t174 != bt177.2)) else (lessorlaw02_OptionNumbers.j1 kj4 l0 a1 t169 t170 t173 t174 true)) else (lessorlaw02_OptionNumbers.j1 kj4 l0 a1 t169 t170 t173 t174 true)) else (lessorlaw02_OptionNumbers.j1 kj4 l0 a1 t169 t170 t173 t174 true))) = some r := H
        have A11 := Aside0.mk A110
        clear A110
        replace H := Option.bind_eq_some_iff.mp H
        obtain ⟨⟨t177, t178⟩, A120, H⟩ := H
        replace H : (if t169 = t171 then (if t170 = t172 then (if (strOfNums t173).toList = (strOfNums t177).toList then (lessorlaw02_OptionNumbers.j1 kj4 l0 a1 t169 t170 t173 t174 (t174 != t178)) else (lessorlaw02_OptionNumbers.j1 kj4 l0 a1 t169 t170 t173 t174 true)) else (lessorlaw02_OptionNumbers.j1 kj4 l0 a1 t169 t170 t173 t174 true)) else (lessorlaw02_OptionNumbers.j1 kj4 l0 a1 t169 t170 t173 t174 true)) = some r := H
        have A12 := Aside0.mk A120
        clear A120
        have HC13 := Aside0.mk H
        clear H
        go_upto_region 8 with (first | ((with_reducible refine gate_callee (f := 11) rfl ?_); refine goesL_ (some 31) rfl rfl Try.func11 (by kernel_rfl) rfl #[.slice A0 l0.length c0] rfl (by (try simp only [List.map_toArray, List.map_cons, List.map_nil]); first | done | rfl | (simp only [List.length_drop, List.length_take]; rfl)) ?_; (with_reducible refine (option_Number.calls kj4 _ _ l0 t169 t170 _ ?side1_1 ?side2_1 A9.out).mono ?_); (case side1_1 => repeat (first | exact (Kd.C_below HR0.out HB.out) | exact (Kd.C_below (Aside0.out (by assumption)) HB.out) | (with_reducible refine Kd.C_alloc ?_ _) | (with_reducible refine Kd.C_drewN ?_ _) | (with_reducible refine Kd.C_drew ?_))); (case side2_1 => exact HC0.out); rintro e w' ⟨rfl, ⟨nd, rfl⟩⟩; refine ⟨_, rfl, ?_⟩) | ((with_reducible refine gate_callee (f := 12) rfl ?_); refine goesL_ (some 36) rfl rfl Try.func12 (by kernel_rfl) rfl #[.slice A0 l0.length c0] rfl (by (try simp only [List.map_toArray, List.map_cons, List.map_nil]); first | done | rfl | (simp only [List.length_drop, List.length_take]; rfl)) ?_; (with_reducible refine (lessorref02_Number.calls kj4 _ _ l0 t171 t172 _ ?side1_2 ?side2_2 A10.out).mono ?_); (case side1_2 => repeat (first | exact (Kd.C_below HR0.out (by repeat (first | (with_reducible first | exact HB.out | apply below_alloc | apply pw_below_drewN | apply below_drew1) | exact HB.out))) | (with_reducible refine Kd.C_alloc ?_ _) | (with_reducible refine Kd.C_drewN ?_ _) | (with_reducible refine Kd.C_drew ?_))); (case side2_2 => exact HC0.out); rintro e w' ⟨rfl, ⟨nd, rfl⟩⟩; refine ⟨_, rfl, ?_⟩) | ((with_reducible refine gate_callee (f := 13) rfl ?_); refine goesL_ (some 42) rfl rfl Try.func13 (by kernel_rfl) rfl #[.int .i64 a1, .int .i64 a2] rfl (by (try simp only [List.map_toArray, List.map_cons, List.map_nil]); first | done | rfl | (simp only [List.length_drop, List.length_take]; rfl)) ?_; (with_reducible refine (option_Bytes.calls kj4 a1 a2 t173 t174 _ A11.out).mono ?_); rintro e w14 ⟨v175, rfl, ho0, hb⟩; refine ⟨_, rfl, ?_⟩; have n0_ := Aside0.mk (Kd.R_lower ho0 (below_size (by repeat (first | (with_reducible first | exact HB.out | apply below_alloc | apply pw_below_drewN | apply below_drew1) | exact HB.out)))); have n1_ := Aside0.mk (below_step (by repeat (first | (with_reducible first | exact HB.out | apply below_alloc | apply pw_below_drewN | apply below_drew1) | exact HB.out)) hb); clear HB; have HO176 := n0_; have HB := n1_; clear n0_ n1_; (try clear hb); (try clear hb2); (try clear hk); (try clear hi); (try clear ho0)) | ((with_reducible refine gate_callee (f := 14) rfl ?_); refine goesL_ (some 48) rfl rfl Try.func14 (by kernel_rfl) rfl #[.int .i64 a1, .int .i64 a2] rfl (by (try simp only [List.map_toArray, List.map_cons, List.map_nil]); first | done | rfl | (simp only [List.length_drop, List.length_take]; rfl)) ?_; (with_reducible refine (lessorref02_Bytes.calls kj4 a1 a2 t177 t178 _ A12.out).mono ?_); rintro e w15 ⟨v179, rfl, ho0, hb⟩; refine ⟨_, rfl, ?_⟩; have n0_ := Aside0.mk (Kd.R_elder' (by (with_reducible repeat (first | apply Kd.R_alloc | apply Kd.R_drewN | apply Kd.R_drew)); exact HO176.out) (Kd.R_base ho0) hb); have n1_ := Aside0.mk (Kd.R_lower (Kd.R_new' ho0 (Kd.R_lt (by (with_reducible repeat (first | apply Kd.R_alloc | apply Kd.R_drewN | apply Kd.R_drew)); exact HO176.out))) (below_size (by repeat (first | (with_reducible first | exact HB.out | apply below_alloc | apply pw_below_drewN | apply below_drew1) | exact HB.out)))); have n2_ := Aside0.mk (below_step (by repeat (first | (with_reducible first | exact HB.out | apply below_alloc | apply pw_below_drewN | apply below_drew1) | exact HB.out)) hb); clear HO176; clear HB; have HO176 := n0_; have HO180 := n1_; have HB := n2_; clear n0_ n1_ n2_; (try clear hb); (try clear hb2); (try clear hk); (try clear hi); (try clear ho0)))
        (try simp only [Act.put, List.setIfInBounds_toArray, List.set_cons_zero, List.set_cons_succ])
        go_cut [70] (fun v70 wc => ∃ (kq : Nat) (x70_12 : Bool), v70 = .bool x70_12 ∧ Aside0 (lessorlaw02_OptionNumbers.j1 kq l0 a1 t169 t170 t173 t174 x70_12 = some r) ∧ Aside0 (kq ≤ kj4) ∧ Aside0 (Kd.R (Kd.int .u8) 5 wc w.heap.size (fun _ => True) v175 t173) ∧ Aside0 (Below w.heap.size w wc))
        case first =>
          have H := HC13.out
          clear HC13
          by_cases c16 : t169 = t171
          · rw [if_pos c16] at H
            have c16b0 : (t169 == t171) = true := beq_iff_eq.mpr c16
            have c16b1 : (t169 != t171) = false := bne_eq_false_iff_eq.mpr c16
            clear c16
            (first | rw [c16b0] | (simp only [i64_w, i32_w]; rw [c16b0]) | skip)
            by_cases c17 : t170 = t172
            · rw [if_pos c17] at H
              have c17b0 : (t170 == t172) = true := beq_iff_eq.mpr c17
              have c17b1 : (t170 != t172) = false := bne_eq_false_iff_eq.mpr c17
              clear c17
              by_cases c18 : (strOfNums t173).toList = (strOfNums t177).toList
              · rw [if_pos c18] at H
                have c18b0 : ((strOfNums t173).toList == (strOfNums t177).toList) = true := beq_iff_eq.mpr c18
                have c18b1 : ((strOfNums t173).toList != (strOfNums t177).toList) = false := bne_eq_false_iff_eq.mpr c18
                clear c18
                have H' := Aside0.mk H
                clear H
                have hcv19 := own_string (P := Try.prog) Try.underlying25 Try.underlying5 Try.underlying9 (Kd.own_of_R HO176.out); have hcv19q := fun nq_ : Nat => own_string (P := Try.prog) Try.underlying25 Try.underlying5 Try.underlying9 (Kd.own_of_R (Kd.R_drewN HO176.out nq_))
                have hcv20 := own_string (P := Try.prog) Try.underlying25 Try.underlying5 Try.underlying9 (Kd.own_of_R HO180.out); have hcv20q := fun nq_ : Nat => own_string (P := Try.prog) Try.underlying25 Try.underlying5 Try.underlying9 (Kd.own_of_R (Kd.R_drewN HO180.out nq_))
                go_wp2
                go_meet
                case rel => exact ⟨_, ((t174 != t178)), (by first | rfl | (simp; done) | (simp [*]; done)), H', ⟨by have := HJ4.out; first | omega | exact Nat.le_refl _⟩, ⟨by (with_reducible repeat (first | apply Kd.R_alloc | apply Kd.R_drewN | apply Kd.R_drew)); exact Kd.R_mono HO176.out (fun _ hk => trivial)⟩, ⟨by repeat (first | (with_reducible first | exact HB.out | apply below_alloc | apply pw_below_drewN | apply below_drew1) | exact HB.out)⟩⟩
              · rw [if_neg c18] at H
                have c18b0 : ((strOfNums t173).toList == (strOfNums t177).toList) = false := beq_eq_false_iff_ne.mpr c18
                have c18b1 : ((strOfNums t173).toList != (strOfNums t177).toList) = true := bne_iff_ne.mpr c18
                have H' := Aside0.mk H
                clear H
                have hcv21 := own_string (P := Try.prog) Try.underlying25 Try.underlying5 Try.underlying9 (Kd.own_of_R HO176.out); have hcv21q := fun nq_ : Nat => own_string (P := Try.prog) Try.underlying25 Try.underlying5 Try.underlying9 (Kd.own_of_R (Kd.R_drewN HO176.out nq_))
                have hcv22 := own_string (P := Try.prog) Try.underlying25 Try.underlying5 Try.underlying9 (Kd.own_of_R HO180.out); have hcv22q := fun nq_ : Nat => own_string (P := Try.prog) Try.underlying25 Try.underlying5 Try.underlying9 (Kd.own_of_R (Kd.R_drewN HO180.out nq_))
                go_wp2
                go_meet
                case rel => exact ⟨_, (true), (by first | rfl | (simp; done) | (simp [*]; done)), H', ⟨by have := HJ4.out; first | omega | exact Nat.le_refl _⟩, ⟨by (with_reducible repeat (first | apply Kd.R_alloc | apply Kd.R_drewN | apply Kd.R_drew)); exact Kd.R_mono HO176.out (fun _ hk => trivial)⟩, ⟨by repeat (first | (with_reducible first | exact HB.out | apply below_alloc | apply pw_below_drewN | apply below_drew1) | exact HB.out)⟩⟩
            · rw [if_neg c17] at H
              have c17b0 : (t170 == t172) = false := beq_eq_false_iff_ne.mpr c17
              have c17b1 : (t170 != t172) = true := bne_iff_ne.mpr c17
              have H' := Aside0.mk H
              clear H
              go_wp2
              go_meet
              case rel => exact ⟨_, (true), (by first | rfl | (simp; done) | (simp [*]; done)), H', ⟨by have := HJ4.out; first | omega | exact Nat.le_refl _⟩, ⟨by (with_reducible repeat (first | apply Kd.R_alloc | apply Kd.R_drewN | apply Kd.R_drew)); exact Kd.R_mono HO176.out (fun _ hk => trivial)⟩, ⟨by repeat (first | (with_reducible first | exact HB.out | apply below_alloc | apply pw_below_drewN | apply below_drew1) | exact HB.out)⟩⟩
          · rw [if_neg c16] at H
            have c16b0 : (t169 == t171) = false := beq_eq_false_iff_ne.mpr c16
            have c16b1 : (t169 != t171) = true := bne_iff_ne.mpr c16
            (first | rw [c16b0] | (simp only [i64_w, i32_w]; rw [c16b0]) | skip)
            have H' := Aside0.mk H
            clear H
            go_wp2
            go_meet
            case rel => exact ⟨_, (true), (by first | rfl | (simp; done) | (simp [*]; done)), H', ⟨by have := HJ4.out; first | omega | exact Nat.le_refl _⟩, ⟨by (with_reducible repeat (first | apply Kd.R_alloc | apply Kd.R_drewN | apply Kd.R_drew)); exact Kd.R_mono HO176.out (fun _ hk => trivial)⟩, ⟨by repeat (first | (with_reducible first | exact HB.out | apply below_alloc | apply pw_below_drewN | apply below_drew1) | exact HB.out)⟩⟩
        case rest =>
          clear HC13
          try clear c1
          try clear hcv1
          try clear p2
          try clear hcv2
          try clear c4
          try clear c7
          try clear c8
          try clear c11
          try clear c12
          try clear c13
          try clear c14
          try clear c16
          try clear c16b0
          try clear c16b1
          try clear c17
          try clear c17b0
          try clear c17b1
          try clear c18
          try clear c18b0
          try clear c18b1
          try clear hcv19
          try clear hcv20
          try clear hcv21
          try clear hcv22
          try clear p2
          obtain ⟨kq, x70_12, rfl, HA, HJ12, HO_12, HB⟩ := hcut
          cases kq with
          | zero => exact absurd HA.out (by simp [lessorlaw02_OptionNumbers.j1])
          | succ kj12 =>
            have H := HA.out
            clear HA
            simp only [lessorlaw02_OptionNumbers.j1] at H
            by_cases c23 : x70_12 = true
            · subst c23
              have H1 : (some false) = some r := by rw [if_pos rfl] at H; exact H
              clear H
              have H := H1
              clear H1
              obtain rfl := Option.some.inj H
              go_wp2
              go_ret
              exact ⟨by first | rfl | (simp [errW_none, errW_some] <;> rfl) | (simp [*, errW_none, errW_some] <;> rfl), by repeat (first | (with_reducible first | exact HB.out | apply below_alloc | apply pw_below_drewN | apply below_drew1) | exact HB.out)⟩
            · replace c23 := Bool.eq_false_iff.mpr c23
              subst c23
              have H1 : (if t174 = 0 then ((option_Number.f kj12 t173).bind fun bt181 => (if bt181.2 = 0 then (lessorlaw02_OptionNumbers.j2 kj12 l0 t169 t170 (bt181.1 != a1)) else (lessorlaw02_OptionNumbers.j2 kj12 l0 t169 t170 true))) else (if t170 = 0 then ((option_Bytes.f kj12 t169 (l0.length : Int)).bind fun bt187 => (if bt187.2 = 0 then (some ((strOfNums bt187.1).toList == (strOfNums l0).toList)) else (some false))) else (some true))) = some r := by rw [if_neg (show ¬ (false = true) by decide)] at H; exact H
              clear H
              have H := H1
              clear H1
              by_cases c24 : t174 = 0
              · rw [if_pos c24] at H
                have c24b0 : (t174 == 0) = true := beq_iff_eq.mpr c24
                have c24b1 : (t174 != 0) = false := bne_eq_false_iff_eq.mpr c24
                clear c24
                replace H := Option.bind_eq_some_iff.mp H
                obtain ⟨⟨t181, t182⟩, A250, H⟩ := H
                replace H : (if t182 = 0 then (lessorlaw02_OptionNumbers.j2 kj12 l0 t169 t170 (t181 != a1)) else (lessorlaw02_OptionNumbers.j2 kj12 l0 t169 t170 true)) = some r := H
                have A25 := Aside0.mk A250
                clear A250
                have HC26 := Aside0.mk H
                clear H
                obtain ⟨Ao27, co27, eo27⟩ := Kd.R_slice HO_12.out
                subst eo27
                go_upto_region 12 with (first | ((with_reducible refine gate_callee (f := 11) rfl ?_); refine goesL_ (some 75) rfl rfl Try.func11 (by kernel_rfl) rfl #[.slice Ao27 t173.length co27] rfl (by (try simp only [List.map_toArray, List.map_cons, List.map_nil]); first | done | rfl | (simp only [List.length_drop, List.length_take]; rfl)) ?_; (with_reducible refine (option_Number.calls kj12 _ _ t173 t181 t182 _ ?side1_3 ?side2_3 A25.out).mono ?_); (case side1_3 => repeat (first | exact (Kd.R_reads' HO_12.out).2.2 | (with_reducible refine Kd.C_alloc ?_ _) | (with_reducible refine Kd.C_drewN ?_ _) | (with_reducible refine Kd.C_drew ?_))); (case side2_3 => exact (Kd.R_reads' HO_12.out).2.1); rintro e w' ⟨rfl, ⟨nd, rfl⟩⟩; refine ⟨_, rfl, ?_⟩))
                (try simp only [Act.put, List.setIfInBounds_toArray, List.set_cons_zero, List.set_cons_succ])
                go_cut [84] (fun v84 wc => ∃ (kq : Nat) (x84_25 : Bool), v84 = .bool x84_25 ∧ Aside0 (lessorlaw02_OptionNumbers.j2 kq l0 t169 t170 x84_25 = some r) ∧ Aside0 (kq ≤ kj12) ∧ Aside0 (Below w.heap.size w wc))
                case first =>
                  have H := HC26.out
                  clear HC26
                  by_cases c28 : t182 = 0
                  · rw [if_pos c28] at H
                    have c28b0 : (t182 == 0) = true := beq_iff_eq.mpr c28
                    have c28b1 : (t182 != 0) = false := bne_eq_false_iff_eq.mpr c28
                    clear c28
                    (first | rw [c28b0] | (simp only [i64_w, i32_w]; rw [c28b0]) | skip)
                    have H' := Aside0.mk H
                    clear H
                    go_wp2
                    go_meet
                    case rel => exact ⟨_, ((t181 != a1)), (by first | rfl | (simp; done) | (simp [*]; done)), H', ⟨by have := HJ4.out; have := HJ12.out; first | omega | exact Nat.le_refl _⟩, ⟨by repeat (first | (with_reducible first | exact HB.out | apply below_alloc | apply pw_below_drewN | apply below_drew1) | exact HB.out)⟩⟩
                  · rw [if_neg c28] at H
                    have c28b0 : (t182 == 0) = false := beq_eq_false_iff_ne.mpr c28
                    have c28b1 : (t182 != 0) = true := bne_iff_ne.mpr c28
                    (first | rw [c28b0] | (simp only [i64_w, i32_w]; rw [c28b0]) | skip)
                    have H' := Aside0.mk H
                    clear H
                    go_wp2
                    go_meet
                    case rel => exact ⟨_, (true), (by first | rfl | (simp; done) | (simp [*]; done)), H', ⟨by have := HJ4.out; have := HJ12.out; first | omega | exact Nat.le_refl _⟩, ⟨by repeat (first | (with_reducible first | exact HB.out | apply below_alloc | apply pw_below_drewN | apply below_drew1) | exact HB.out)⟩⟩
                case rest =>
                  clear HC26
                  try clear c1
                  try clear hcv1
                  try clear c2
                  try clear p2
                  try clear hcv2
                  try clear c4
                  try clear c7
                  try clear c8
                  try clear c11
                  try clear c12
                  try clear c13
                  try clear c14
                  try clear c16
                  try clear c16b0
                  try clear c16b1
                  try clear c17
                  try clear c17b0
                  try clear c17b1
                  try clear c18
                  try clear c18b0
                  try clear c18b1
                  try clear hcv19
                  try clear hcv20
                  try clear hcv21
                  try clear hcv22
                  try clear c23
                  try clear c24
                  try clear c24b0
                  try clear c24b1
                  try clear c28
                  try clear c28b0
                  try clear c28b1
                  try clear p2
                  obtain ⟨kq, x84_25, rfl, HA, HJ25, HB⟩ := hcut
                  cases kq with
                  | zero => exact absurd HA.out (by simp [lessorlaw02_OptionNumbers.j2])
                  | succ kj25 =>
                    have H := HA.out
                    clear HA
                    simp only [lessorlaw02_OptionNumbers.j2] at H
                    by_cases c29 : x84_25 = true
                    · subst c29
                      have H1 : (some false) = some r := by rw [if_pos rfl] at H; exact H
                      clear H
                      have H := H1
                      clear H1
                      obtain rfl := Option.some.inj H
                      go_wp2
                      go_ret
                      exact ⟨by first | rfl | (simp [errW_none, errW_some] <;> rfl) | (simp [*, errW_none, errW_some] <;> rfl), by repeat (first | (with_reducible first | exact HB.out | apply below_alloc | apply pw_below_drewN | apply below_drew1) | exact HB.out)⟩
                    · replace c29 := Bool.eq_false_iff.mpr c29
                      subst c29
                      have H1 : (if t170 = 0 then ((option_Bytes.f kj25 t169 (l0.length : Int)).bind fun bt183 => (if bt183.2 = 0 then (some ((strOfNums bt183.1).toList == (strOfNums l0).toList)) else (some false))) else (some true)) = some r := by rw [if_neg (show ¬ (false = true) by decide)] at H; exact H
                      clear H
                      have H := H1
                      clear H1
                      by_cases c30 : t170 = 0
                      · rw [if_pos c30] at H
                        have c30b0 : (t170 == 0) = true := beq_iff_eq.mpr c30
                        have c30b1 : (t170 != 0) = false := bne_eq_false_iff_eq.mpr c30
                        clear c30
                        replace H := Option.bind_eq_some_iff.mp H
                        obtain ⟨⟨t183, t184⟩, A310, H⟩ := H
                        replace H : (if t184 = 0 then (some ((strOfNums t183).toList == (strOfNums l0).toList)) else (some false)) = some r := H
                        have A31 := Aside0.mk A310
                        clear A310
                        by_cases c32 : t184 = 0
                        · rw [if_pos c32] at H
                          have c32b0 : (t184 == 0) = true := beq_iff_eq.mpr c32
                          have c32b1 : (t184 != 0) = false := bne_eq_false_iff_eq.mpr c32
                          clear c32
                          obtain rfl := Option.some.inj H
                          go_wp2_with (first | ((with_reducible refine gate_callee (f := 13) rfl ?_); refine goesL_ (some 91) rfl rfl Try.func13 (by kernel_rfl) rfl #[.int .i64 t169, .int .i64 (l0.length : Int)] rfl (by (try simp only [List.map_toArray, List.map_cons, List.map_nil]); first | done | rfl | (simp only [List.length_drop, List.length_take]; rfl)) ?_; (with_reducible refine (option_Bytes.calls kj25 t169 (l0.length : Int) t183 t184 _ A31.out).mono ?_); rintro e w33 ⟨v185, rfl, ho0, hb⟩; refine ⟨_, rfl, ?_⟩; have n0_ := Aside0.mk (Kd.R_lower ho0 (below_size (by repeat (first | (with_reducible first | exact HB.out | apply below_alloc | apply pw_below_drewN | apply below_drew1) | exact HB.out)))); have n1_ := Aside0.mk (below_step (by repeat (first | (with_reducible first | exact HB.out | apply below_alloc | apply pw_below_drewN | apply below_drew1) | exact HB.out)) hb); clear HB; have HO186 := n0_; have HB := n1_; clear n0_ n1_; (try clear hb); (try clear hb2); (try clear hk); (try clear hi); (try clear ho0); have hcv34 := own_string (P := Try.prog) Try.underlying25 Try.underlying5 Try.underlying9 (Kd.own_of_R HO186.out); have hcv34q := fun nq_ : Nat => own_string (P := Try.prog) Try.underlying25 Try.underlying5 Try.underlying9 (Kd.own_of_R (Kd.R_drewN HO186.out nq_)); have hcv35 := Kd.C_string (P := Try.prog) (A := A0) (c := c0) Try.underlying25 Try.underlying5 Try.underlying9  (Kd.C_below HR0.out HB.out); have hcv35q := fun nq_ : Nat => Kd.C_string (P := Try.prog) (A := A0) (c := c0) Try.underlying25 Try.underlying5 Try.underlying9  (Kd.C_drewN (Kd.C_below HR0.out HB.out) nq_); (try simp only [List.length_take, List.length_drop] at hcv35); (try simp only [List.length_take, List.length_drop] at hcv35q); skip))
                          go_ret
                          exact ⟨by first | rfl | (simp [errW_none, errW_some] <;> rfl) | (simp [*, errW_none, errW_some] <;> rfl), by repeat (first | (with_reducible first | exact HB.out | apply below_alloc | apply pw_below_drewN | apply below_drew1) | exact HB.out)⟩
                        · rw [if_neg c32] at H
                          have c32b0 : (t184 == 0) = false := beq_eq_false_iff_ne.mpr c32
                          have c32b1 : (t184 != 0) = true := bne_iff_ne.mpr c32
                          obtain rfl := Option.some.inj H
                          go_wp2_with (first | ((with_reducible refine gate_callee (f := 13) rfl ?_); refine goesL_ (some 91) rfl rfl Try.func13 (by kernel_rfl) rfl #[.int .i64 t169, .int .i64 (l0.length : Int)] rfl (by (try simp only [List.map_toArray, List.map_cons, List.map_nil]); first | done | rfl | (simp only [List.length_drop, List.length_take]; rfl)) ?_; (with_reducible refine (option_Bytes.calls kj25 t169 (l0.length : Int) t183 t184 _ A31.out).mono ?_); rintro e w36 ⟨v185, rfl, ho0, hb⟩; refine ⟨_, rfl, ?_⟩; have n0_ := Aside0.mk (Kd.R_lower ho0 (below_size (by repeat (first | (with_reducible first | exact HB.out | apply below_alloc | apply pw_below_drewN | apply below_drew1) | exact HB.out)))); have n1_ := Aside0.mk (below_step (by repeat (first | (with_reducible first | exact HB.out | apply below_alloc | apply pw_below_drewN | apply below_drew1) | exact HB.out)) hb); clear HB; have HO186 := n0_; have HB := n1_; clear n0_ n1_; (try clear hb); (try clear hb2); (try clear hk); (try clear hi); (try clear ho0)))
                          go_ret
                          exact ⟨by first | rfl | (simp [errW_none, errW_some] <;> rfl) | (simp [*, errW_none, errW_some] <;> rfl), by repeat (first | (with_reducible first | exact HB.out | apply below_alloc | apply pw_below_drewN | apply below_drew1) | exact HB.out)⟩
                      · rw [if_neg c30] at H
                        have c30b0 : (t170 == 0) = false := beq_eq_false_iff_ne.mpr c30
                        have c30b1 : (t170 != 0) = true := bne_iff_ne.mpr c30
                        obtain rfl := Option.some.inj H
                        go_wp2
                        go_ret
                        exact ⟨by first | rfl | (simp [errW_none, errW_some] <;> rfl) | (simp [*, errW_none, errW_some] <;> rfl), by repeat (first | (with_reducible first | exact HB.out | apply below_alloc | apply pw_below_drewN | apply below_drew1) | exact HB.out)⟩
              · rw [if_neg c24] at H
                have c24b0 : (t174 == 0) = false := beq_eq_false_iff_ne.mpr c24
                have c24b1 : (t174 != 0) = true := bne_iff_ne.mpr c24
                by_cases c37 : t170 = 0
                · rw [if_pos c37] at H
                  have c37b0 : (t170 == 0) = true := beq_iff_eq.mpr c37
                  have c37b1 : (t170 != 0) = false := bne_eq_false_iff_eq.mpr c37
                  clear c37
                  replace H := Option.bind_eq_some_iff.mp H
                  obtain ⟨⟨t187, t188⟩, A380, H⟩ := H
                  replace H : (if t188 = 0 then (some ((strOfNums t187).toList == (strOfNums l0).toList)) else (some false)) = some r := H
                  have A38 := Aside0.mk A380
                  clear A380
                  by_cases c39 : t188 = 0
                  · rw [if_pos c39] at H
                    have c39b0 : (t188 == 0) = true := beq_iff_eq.mpr c39
                    have c39b1 : (t188 != 0) = false := bne_eq_false_iff_eq.mpr c39
                    clear c39
                    obtain rfl := Option.some.inj H
                    go_wp2_with (first | ((with_reducible refine gate_callee (f := 13) rfl ?_); refine goesL_ (some 91) rfl rfl Try.func13 (by kernel_rfl) rfl #[.int .i64 t169, .int .i64 (l0.length : Int)] rfl (by (try simp only [List.map_toArray, List.map_cons, List.map_nil]); first | done | rfl | (simp only [List.length_drop, List.length_take]; rfl)) ?_; (with_reducible refine (option_Bytes.calls kj12 t169 (l0.length : Int) t187 t188 _ A38.out).mono ?_); rintro e w40 ⟨v189, rfl, ho0, hb⟩; refine ⟨_, rfl, ?_⟩; have n0_ := Aside0.mk (Kd.R_elder' (by (with_reducible repeat (first | apply Kd.R_alloc | apply Kd.R_drewN | apply Kd.R_drew)); exact HO_12.out) (Kd.R_base ho0) hb); have n1_ := Aside0.mk (Kd.R_lower (Kd.R_new' ho0 (Kd.R_lt (by (with_reducible repeat (first | apply Kd.R_alloc | apply Kd.R_drewN | apply Kd.R_drew)); exact HO_12.out))) (below_size (by repeat (first | (with_reducible first | exact HB.out | apply below_alloc | apply pw_below_drewN | apply below_drew1) | exact HB.out)))); have n2_ := Aside0.mk (below_step (by repeat (first | (with_reducible first | exact HB.out | apply below_alloc | apply pw_below_drewN | apply below_drew1) | exact HB.out)) hb); clear HO_12; clear HB; have HO_12 := n0_; have HO190 := n1_; have HB := n2_; clear n0_ n1_ n2_; (try clear hb); (try clear hb2); (try clear hk); (try clear hi); (try clear ho0); have hcv41 := own_string (P := Try.prog) Try.underlying25 Try.underlying5 Try.underlying9 (Kd.own_of_R HO190.out); have hcv41q := fun nq_ : Nat => own_string (P := Try.prog) Try.underlying25 Try.underlying5 Try.underlying9 (Kd.own_of_R (Kd.R_drewN HO190.out nq_)); have hcv42 := Kd.C_string (P := Try.prog) (A := A0) (c := c0) Try.underlying25 Try.underlying5 Try.underlying9  (Kd.C_below HR0.out HB.out); have hcv42q := fun nq_ : Nat => Kd.C_string (P := Try.prog) (A := A0) (c := c0) Try.underlying25 Try.underlying5 Try.underlying9  (Kd.C_drewN (Kd.C_below HR0.out HB.out) nq_); (try simp only [List.length_take, List.length_drop] at hcv42); (try simp only [List.length_take, List.length_drop] at hcv42q); skip))
                    go_ret
                    exact ⟨by first | rfl | (simp [errW_none, errW_some] <;> rfl) | (simp [*, errW_none, errW_some] <;> rfl), by repeat (first | (with_reducible first | exact HB.out | apply below_alloc | apply pw_below_drewN | apply below_drew1) | exact HB.out)⟩
                  · rw [if_neg c39] at H
                    have c39b0 : (t188 == 0) = false := beq_eq_false_iff_ne.mpr c39
                    have c39b1 : (t188 != 0) = true := bne_iff_ne.mpr c39
                    obtain rfl := Option.some.inj H
                    go_wp2_with (first | ((with_reducible refine gate_callee (f := 13) rfl ?_); refine goesL_ (some 91) rfl rfl Try.func13 (by kernel_rfl) rfl #[.int .i64 t169, .int .i64 (l0.length : Int)] rfl (by (try simp only [List.map_toArray, List.map_cons, List.map_nil]); first | done | rfl | (simp only [List.length_drop, List.length_take]; rfl)) ?_; (with_reducible refine (option_Bytes.calls kj12 t169 (l0.length : Int) t187 t188 _ A38.out).mono ?_); rintro e w43 ⟨v189, rfl, ho0, hb⟩; refine ⟨_, rfl, ?_⟩; have n0_ := Aside0.mk (Kd.R_elder' (by (with_reducible repeat (first | apply Kd.R_alloc | apply Kd.R_drewN | apply Kd.R_drew)); exact HO_12.out) (Kd.R_base ho0) hb); have n1_ := Aside0.mk (Kd.R_lower (Kd.R_new' ho0 (Kd.R_lt (by (with_reducible repeat (first | apply Kd.R_alloc | apply Kd.R_drewN | apply Kd.R_drew)); exact HO_12.out))) (below_size (by repeat (first | (with_reducible first | exact HB.out | apply below_alloc | apply pw_below_drewN | apply below_drew1) | exact HB.out)))); have n2_ := Aside0.mk (below_step (by repeat (first | (with_reducible first | exact HB.out | apply below_alloc | apply pw_below_drewN | apply below_drew1) | exact HB.out)) hb); clear HO_12; clear HB; have HO_12 := n0_; have HO190 := n1_; have HB := n2_; clear n0_ n1_ n2_; (try clear hb); (try clear hb2); (try clear hk); (try clear hi); (try clear ho0)))
                    go_ret
                    exact ⟨by first | rfl | (simp [errW_none, errW_some] <;> rfl) | (simp [*, errW_none, errW_some] <;> rfl), by repeat (first | (with_reducible first | exact HB.out | apply below_alloc | apply pw_below_drewN | apply below_drew1) | exact HB.out)⟩
                · rw [if_neg c37] at H
                  have c37b0 : (t170 == 0) = false := beq_eq_false_iff_ne.mpr c37
                  have c37b1 : (t170 != 0) = true := bne_iff_ne.mpr c37
                  obtain rfl := Option.some.inj H
                  go_wp2
                  go_ret
                  exact ⟨by first | rfl | (simp [errW_none, errW_some] <;> rfl) | (simp [*, errW_none, errW_some] <;> rfl), by repeat (first | (with_reducible first | exact HB.out | apply below_alloc | apply pw_below_drewN | apply below_drew1) | exact HB.out)⟩

/-- THE ONE PURE STATEMENT of lessorlaw02_OptionNumbers: yours. -/
def lessorlaw02_OptionNumbers.Pure : Prop := ∀ (l0 : List Int) (a1 : Int) (a2 : Int), l0.length ≤ maxLen → l0.length * 1 ≤ 140737488351232 → (∀ x ∈ l0, (Lit.int .u8 x).wf = true) → (Lit.int .i64 a1).wf = true → (Lit.int .i64 a2).wf = true → ∃ k, lessorlaw02_OptionNumbers.f k l0 a1 a2 = some true
theorem lessorlaw02_OptionNumbers.walk (P : lessorlaw02_OptionNumbers.Pure) (a0 : Option Addr) (len0 cap0 : Nat) (z0 : List Int) (a1 : Int) (a2 : Int) (w : World) (w0 : (a0 = none ∧ len0 = 0 ∧ cap0 = 0 ∧ z0 = []) ∨ ∃ x, a0 = some x ∧ len0 ≤ cap0 ∧ cap0 ≤ maxLen ∧ z0.length = cap0 ∧ (∀ i, i < z0.length → w.cell? (x.add i) = some (.int .u8 (z0.getD i 0))) ∧ ∀ n ∈ z0, (Lit.int .u8 n).wf = true) (y0 : len0 * 1 ≤ 140737488351232) (w1 : (Lit.int .i64 a1).wf = true) (w2 : (Lit.int .i64 a2).wf = true) :
    Calls Try.prog 4 #[.slice a0 len0 cap0, .int .i64 a1, .int .i64 a2] w fun e w' => e = .returned (.bool true) ∧ Below w.heap.size w w' := by
  obtain ⟨l0, rfl, hr0, hm0, hw0, hc0⟩ := ReadsInt.ofRowC w0
  obtain ⟨k, h⟩ := P l0 a1 a2 hm0 y0 hw0 w1 w2
  refine (lessorlaw02_OptionNumbers.calls k _ _ l0 a1 a2 true w (Kd.C_of_reads (d := (0 : Int)) (h1 := fun _ => rfl) hr0) hc0 h).mono ?_
  rintro e w' ⟨rfl, hd⟩
  exact ⟨rfl, hd⟩

end Go.Proofs.Ytcefkkcmpdlnjaa.Pr
