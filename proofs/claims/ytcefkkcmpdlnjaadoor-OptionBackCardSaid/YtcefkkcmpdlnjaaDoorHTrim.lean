/-
  bytes.Trim by the byte 0: nothing is left just where all bytes are 0. Condition: fewer than 2^47 bytes.
-/
import Derived.Lib.Hide
import Derived.Test.YtcefkkcmpdlnjaaDoorHClone
namespace Go.Proofs.YtcefkkcmpdlnjaaDoor
open Go.RowKit Go.Proofs.YtcefkkcmpdlnjaaDoor.Pr Go.Proofs.YtcefkkcmpdlnjaaDoorW.PrintWords Go.Proofs.YtcefkkcmpdlnjaaDoorW.PrintLast Go.Proofs.YtcefkkcmpdlnjaaDoorW.PrintMore
attribute [local go_sem] max2_int min2_int max_two min_two max_three min_three max_four min_four
set_option linter.unusedVariables false
set_option linter.unusedSimpArgs false

def lenOfT : Value → Nat | .slice _ n _ => n | _ => 0
set_option maxHeartbeats 2000000 in
set_option maxRecDepth 100000 in
theorem triml_calls (A : Option Addr) (c : Nat) (l : List Int) (w : World) (hC : (Kd.int .u8).C w A l.length l) (hc : l.length ≤ c) :
    Calls Tryd.prog 18 #[.slice A l.length c, .int .u8 0] w fun e w' => ∃ A' n' c', e = .returned (.slice A' n' c') ∧ (n' = 0 ↔ ∀ x ∈ l, x = 0) ∧ w' = w := by
  have HC := Lib.hid hC
  have hlen : l.length ≤ 9223372036854775807 := hC.2.1
  clear hC
  obtain ⟨i0, hinf, hzz⟩ := Option.map_eq_some_iff.1 cl_info
  simp only [Prod.mk.injEq] at hzz
  have hone := hzz.2.1
  clear hzz
  have HINF : Hid (Tryd.prog.info? 5 = some i0) := hinf
  have HONE : Hid (i0.size = 1) := hone
  clear hinf hone
  go_enter Tryd.func18, Tryd.ntmps18
  go_wp2_with fail
  go_loopw [0] (fun at_ wr => ∃ (l' : List Int) (A' : Option Addr) (c' : Nat), at_ = .slice A' l'.length c' ∧ l'.length ≤ c' ∧ l'.length ≤ l.length ∧ Hid ((Kd.int .u8).C w A' l'.length l') ∧ Hid ((∀ x ∈ l', x = 0) ↔ ∀ x ∈ l, x = 0) ∧ wr = w) (fun at_ _ => lenOfT at_)
  case atStart => exact ⟨l, A, c, rfl, hc, Nat.le_refl _, HC, Iff.rfl, rfl⟩
  case round =>
    obtain ⟨l', A', c', rfl, hc', hl', HC', HI, rfl⟩ := hrel
    cases l' with
    | nil =>
      go_wp2_with fail
      go_ret
      exact ⟨_, _, _, rfl, ⟨fun _ => HI.out.1 (by simp), fun _ => rfl⟩, rfl⟩
    | cons x l2 =>
      obtain ⟨ad, rfl, x0⟩ := Kd.at_int HC'.out 0 (by omega) (by simp only [List.length_cons]; omega)
      have x0' : wr.cell? ad = some (.int .u8 x) := x0
      have C2 := Kd.C_drop (c := c') (m := 1) HC'.out (by simp) hc'
      rw [show (Kd.int .u8).sz = 1 from rfl, Nat.mul_one] at C2
      change (Kd.int .u8).C wr _ l2.length l2 at C2
      obtain ⟨nn, hnn⟩ : ∃ nn, nn = (x :: l2).length := ⟨_, rfl⟩
      have hn2 : nn = l2.length + 1 := hnn
      rw [← hnn] at hc' hl' ⊢
      have r1 := cut_from (P := Tryd.prog) 22 5 .i64 Tryd.underlying22 HINF.out 1 HONE.out (some ad) nn c' 1 (by omega) (by omega)
      rw [show (1 : Int).toNat = 1 from rfl, Nat.mul_one, show nn - 1 = l2.length from by omega] at r1
      obtain ⟨A2, hA2⟩ : ∃ A2, A2 = (if c' = 1 then some ad else (some ad).map (·.add 1)) := ⟨_, rfl⟩
      obtain ⟨c2, hc2⟩ : ∃ c2, c2 = c' - 1 := ⟨_, rfl⟩
      rw [← hA2] at C2
      rw [← hA2, ← hc2] at r1
      have HC2 := Lib.hid C2
      have hl2 : l2.length ≤ c2 := by omega
      have p0 : ((nn : Int) > 0) = True := eq_true (by omega)
      have p1 : (0 < nn) = True := eq_true (by omega)
      have p2 : ((nn : Int) == 0) = false := beq_eq_false_iff_ne.2 (by omega)
      have p3 : (nn = 0) = False := eq_false (by omega)
      have p4 : (nn == 0) = false := beq_eq_false_iff_ne.2 (by omega)
      have HN := Lib.hid hn2
      clear x0 C2 hA2 hc2 hnn hn2 HC'
      by_cases hx : x = 0
      · subst hx
        go_wp2_with fail
        go_roundw
        case rel =>
          have h2 := HN.out
          have hI : Hid ((∀ x ∈ l2, x = 0) ↔ ∀ x ∈ l, x = 0) := ⟨fun h => HI.out.1 (fun y hy => (List.mem_cons.1 hy).elim (fun e => e) (h y)), fun h y hy => HI.out.2 h y (List.mem_cons_of_mem _ hy)⟩
          first
            | exact ⟨l2, A2, c2, rfl, hl2, by omega, HC2, hI, by first | rfl | trivial⟩
            | ((repeat apply Exists.intro); exact ⟨⟨l2, A2, c2, rfl, hl2, by omega, HC2, hI, by first | rfl | trivial⟩, rfl⟩)
        case measure =>
          have h2 := HN.out
          simp [lenOfT]; omega
      · have q1 : (x == 0) = false := beq_eq_false_iff_ne.2 hx
        have HX := Lib.hid hx
        clear hx
        go_wp2_with fail
        go_ret
        exact ⟨_, _, _, rfl, ⟨fun h => by have := HN.out; omega, fun h => absurd (HI.out.2 h x (by simp)) HX.out⟩, rfl⟩
set_option maxHeartbeats 2000000 in
set_option maxRecDepth 100000 in
theorem trimr_calls (A : Option Addr) (c : Nat) (l : List Int) (w : World) (hC : (Kd.int .u8).C w A l.length l) (hc : l.length ≤ c) :
    Calls Tryd.prog 19 #[.slice A l.length c, .int .u8 0] w fun e w' => ∃ l' : List Int, e = .returned (.slice A l'.length c) ∧ (Kd.int .u8).C w A l'.length l' ∧ l'.length ≤ c ∧ ((∀ x ∈ l', x = 0) ↔ ∀ x ∈ l, x = 0) ∧ w' = w := by
  have HC := Lib.hid hC
  have hlen : l.length ≤ 9223372036854775807 := hC.2.1
  clear hC
  obtain ⟨i0, hinf, hzz⟩ := Option.map_eq_some_iff.1 cl_info
  clear hzz
  have HINF : Hid (Tryd.prog.info? 5 = some i0) := hinf
  clear hinf
  go_enter Tryd.func19, Tryd.ntmps19
  go_wp2_with fail
  go_loopw [0] (fun at_ wr => ∃ (l' : List Int), at_ = .slice A l'.length c ∧ l'.length ≤ c ∧ l'.length ≤ l.length ∧ Hid ((Kd.int .u8).C w A l'.length l') ∧ Hid ((∀ x ∈ l', x = 0) ↔ ∀ x ∈ l, x = 0) ∧ wr = w) (fun at_ _ => lenOfT at_)
  case atStart => exact ⟨l, rfl, hc, Nat.le_refl _, HC, Iff.rfl, rfl⟩
  case round =>
    obtain ⟨l', rfl, hc', hl', HC', HI, rfl⟩ := hrel
    by_cases he : l' = []
    · subst he
      go_wp2_with fail
      go_ret
      exact ⟨[], rfl, HC'.out, by simp, HI.out, rfl⟩
    · have hpos : 0 < l'.length := List.length_pos_iff.2 he
      obtain ⟨j, hj⟩ : ∃ j : Nat, l'.length = j + 1 := ⟨l'.length - 1, by omega⟩
      obtain ⟨ad, rfl, x0⟩ := Kd.at_int HC'.out (j : Int) (by omega) (by omega)
      rw [Int.toNat_natCast] at x0
      obtain ⟨x, hx⟩ : ∃ x, rd l' (j : Int) = x := ⟨_, rfl⟩
      rw [hx] at x0
      have hmem : x ∈ l' := by
        rw [← hx]; unfold rd
        rw [Int.toNat_natCast, List.getD_eq_getElem?_getD, List.getElem?_eq_getElem (by omega)]
        exact List.getElem_mem _
      have hdrop : l'.take j ++ [x] = l' := by
        have : l'[j] = x := by rw [← hx]; unfold rd; rw [Int.toNat_natCast, List.getD_eq_getElem?_getD, List.getElem?_eq_getElem (by omega)]; rfl
        rw [← this, ← List.take_succ_eq_append_getElem (by omega), ← hj, List.take_length]
      have C2 := Kd.C_take (m := j) HC'.out (by omega)
      have htl : (l'.take j).length = j := by rw [List.length_take]; omega
      have r2 := cut_to (P := Tryd.prog) 22 5 .i64 Tryd.underlying22 HINF.out (some ad) l'.length c (j : Int) (by omega) (by omega) hc'
      rw [Int.toNat_natCast] at r2
      have e1 : IntKind.i64.wrap ((l'.length : Int) - 1) = (j : Int) := by rw [hj]; rw [IntWalk.i64_in _ (by omega)]; omega
      obtain ⟨nn, hnn⟩ : ∃ nn, nn = l'.length := ⟨_, rfl⟩
      rw [← hnn] at hc' hl' r2 e1 hj ⊢
      have p0 : ((nn : Int) > 0) = True := eq_true (by omega)
      have p1 : (0 < nn) = True := eq_true (by omega)
      have p2 : (0 ≤ (j : Int)) = True := eq_true (by omega)
      have p3 : ((j : Int) < (nn : Int)) = True := eq_true (by omega)
      have p4 : (j < nn) = True := eq_true (by omega)
      have HC2 := Lib.hid C2
      have HN := Lib.hid hj
      have HM := Lib.hid hmem
      have HDR := Lib.hid hdrop
      have HTL := Lib.hid htl
      have HNN := Lib.hid hnn
      have HCX := Lib.hid HC'.out
      clear C2 hnn hj hmem hdrop htl hx HC' hpos he
      by_cases hx : x = 0
      · subst hx
        go_wp2_with fail
        go_roundw
        case rel =>
          have h2 := HN.out
          have h3 := HTL.out
          have hI : Hid ((∀ x ∈ l'.take j, x = 0) ↔ ∀ x ∈ l, x = 0) := ⟨fun h => HI.out.1 (fun y hy => (List.mem_append.1 (HDR.out.symm ▸ hy)).elim (h y) List.mem_singleton.1), fun h y hy => HI.out.2 h y (List.mem_of_mem_take hy)⟩
          first
            | exact ⟨l'.take j, by rw [h3], by omega, by omega, HC2, hI, by first | rfl | trivial⟩
            | ((repeat apply Exists.intro); exact ⟨⟨l'.take j, by rw [h3], by omega, by omega, HC2, hI, by first | rfl | trivial⟩, rfl⟩)
        case measure =>
          have h2 := HN.out
          simp [lenOfT]; omega
      · have q1 : (x == 0) = false := beq_eq_false_iff_ne.2 hx
        clear hx
        go_wp2_with fail
        go_ret
        exact ⟨l', by rw [HNN.out]; rfl, HCX.out, by rw [← HNN.out]; exact hc', HI.out, rfl⟩
set_option maxHeartbeats 2000000 in
set_option maxRecDepth 100000 in
theorem trim_calls (A : Option Addr) (c : Nat) (l : List Int) (w : World) (hC : (Kd.int .u8).C w A l.length l) (hc : l.length ≤ c) :
    Calls Tryd.prog 12 #[.slice A l.length c, .string ⟨#[0]⟩] w fun e w' => ∃ A' n' c', e = .returned (.slice A' n' c') ∧ (n' = 0 ↔ ∀ x ∈ l, x = 0) ∧ Below w.heap.size w w' := by
  have HC := Lib.hid hC
  have hlen : l.length ≤ 9223372036854775807 := hC.2.1
  clear hC
  by_cases he : l = []
  · subst he
    go_enter Tryd.func12, Tryd.ntmps12
    go_wp2_with fail
    go_ret
    exact ⟨_, _, _, rfl, by simp, Below.refl _ _⟩
  · have hpos : 0 < l.length := List.length_pos_iff.2 he
    have HR := Lib.hid (fun W (hb : Below w.heap.size w W) => trimr_calls A c l W (Kd.C_below HC.out hb) hc)
    obtain ⟨nn, hnn⟩ : ∃ nn, nn = l.length := ⟨_, rfl⟩
    rw [← hnn] at hpos HR ⊢
    have p1 : (nn = 0) = False := eq_false (by omega)
    have p2 : ((nn : Int) == 0) = false := beq_eq_false_iff_ne.2 (by omega)
    have p3 : (nn == 0) = false := beq_eq_false_iff_ne.2 (by omega)
    have hidx : ∀ W : World, (Instr.index 9 (.string ⟨#[0]⟩) (.int .i64 0)).run Tryd.prog W = .ok (.int .u8 0) W := fun _ => by rfl
    clear hnn he hpos hc hlen HC
    go_enter Tryd.func12, Tryd.ntmps12
    go_wp2_with fail
    refine start_ (n := 8) (S := fun w' => True) (ds := []) #[false, false, false, false, false, false, false, false] (by kernel_rfl) rfl rfl trivial (fun hHeld => ?_)
    obtain ⟨W2, hW2⟩ : ∃ W2, w.drew = W2 := ⟨_, rfl⟩
    have HW2 : Hid (Below w.heap.size w W2) := by show Below _ _ _; rw [← hW2]; exact below_drew (Below.refl _ _)
    rw [hW2]
    clear hW2
    refine pure_ (i := 0) (N := some 21) (v := ?_) (a' := ?_) #[true, false, false, false, false, false, false, false] rfl rfl (by kernel_rfl) (fun _ _ _ h => h) (Or.inl ⟨by rfl, ?_⟩) ?_ ?_
    rotate_left
    · intro w'
      go_simp
      with_reducible rfl
    rotate_left
    · simp only [Act.put, List.setIfInBounds_toArray, List.set_cons_zero, List.set_cons_succ, i64_w, i32_w]
      rfl
    refine pure_ (i := 1) (N := some 22) (v := ?_) (a' := ?_) #[true, true, false, false, false, false, false, false] rfl rfl (by kernel_rfl) (fun _ _ _ h => h) (Or.inl ⟨by rfl, ?_⟩) ?_ ?_
    rotate_left
    · intro w'
      go_simp
      with_reducible rfl
    rotate_left
    · simp only [Act.put, List.setIfInBounds_toArray, List.set_cons_zero, List.set_cons_succ, i64_w, i32_w]
      rfl
    refine pure_ (i := 2) (N := some 23) (v := .int .u8 0) (a' := ?_) #[true, true, true, false, false, false, false, false] rfl rfl (by kernel_rfl) (fun _ _ _ h => h) (Or.inl ⟨by rfl, ?_⟩) ?_ ?_
    · intro w'
      go_simp
      try (with_reducible rfl)
    rotate_left
    · simp only [Act.put, List.setIfInBounds_toArray, List.set_cons_zero, List.set_cons_succ, i64_w, i32_w]
      rfl
    refine pure_ (i := 4) (N := some 25) (v := ?_) (a' := ?_) #[true, true, true, false, true, false, false, false] rfl rfl (by kernel_rfl) (fun _ _ _ h => h) (Or.inl ⟨by rfl, ?_⟩) ?_ ?_
    rotate_left
    · intro w'
      go_simp
      with_reducible rfl
    rotate_left
    · simp only [Act.put, List.setIfInBounds_toArray, List.set_cons_zero, List.set_cons_succ, i64_w, i32_w]
      rfl
    refine pure_ (i := 5) (N := some 26) (v := .int .u8 0) (a' := ?_) #[true, true, true, false, true, true, false, false] rfl rfl (by kernel_rfl) (fun _ _ _ h => h) (Or.inl ⟨by rfl, ?_⟩) ?_ ?_
    · intro w'
      go_simp
      try (with_reducible rfl)
    rotate_left
    · simp only [Act.put, List.setIfInBounds_toArray, List.set_cons_zero, List.set_cons_succ, i64_w, i32_w]
      rfl
    refine one_ (i := 3) (N := some 24) #[true, true, true, true, true, true, false, false] rfl rfl (by kernel_rfl) (by decide) (fun K hK => ?_)
    refine goes_ Tryd.func19 (by kernel_rfl) rfl #[.slice A nn c, .int .u8 0] (by rfl) rfl rfl (by (try simp only [List.map_toArray, List.map_cons, List.map_nil]); rfl) ?_
    refine (HR.out _ HW2.out).mono ?_
    rintro e w6 ⟨l2, rfl, hc2, hl2, hi2, rfl⟩
    have HC2 := Lib.hid hc2
    have HI2 := Lib.hid hi2
    clear hc2 hi2 hHeld
    refine ⟨_, rfl, ?_⟩
    refine hK.out _ _ trivial (fun hHeld => ?_)
    clear hK K
    try (refine norm_ (a' := ?_) ?_ ?_; rotate_left; focus (simp only [Act.put, List.setIfInBounds_toArray, List.set_cons_zero, List.set_cons_succ, i64_w, i32_w]; rfl))
    refine one_ (i := 6) (N := some 27) #[true, true, true, true, true, true, true, false] rfl rfl (by kernel_rfl) (by decide) (fun K hK => ?_)
    refine goes_ Tryd.func18 (by kernel_rfl) rfl #[.slice A l2.length c, .int .u8 0] (by rfl) rfl rfl (by (try simp only [List.map_toArray, List.map_cons, List.map_nil]); rfl) ?_
    refine (triml_calls A c l2 _ HC2.out hl2).mono ?_
    rintro e w7 ⟨A7, n7, c7, rfl, hi7, rfl⟩
    have HI7 := Lib.hid (hi7.trans HI2.out)
    clear hi7 hHeld
    refine ⟨_, rfl, ?_⟩
    refine hK.out _ _ trivial (fun hHeld => ?_)
    clear hK K
    try (refine norm_ (a' := ?_) ?_ ?_; rotate_left; focus (simp only [Act.put, List.setIfInBounds_toArray, List.set_cons_zero, List.set_cons_succ, i64_w, i32_w]; rfl))
    refine pure_ (i := 7) (N := some 4) (v := ?_) (a' := ?_) #[true, true, true, true, true, true, true, true] rfl rfl (by kernel_rfl) (fun _ _ _ h => h) (Or.inl ⟨by rfl, ?_⟩) ?_ ?_
    rotate_left
    · intro w'
      go_simp
      with_reducible rfl
    rotate_left
    · simp only [Act.put, List.setIfInBounds_toArray, List.set_cons_zero, List.set_cons_succ, i64_w, i32_w]
      rfl
    refine done_ (by kernel_rfl) ?_
    go_wp2_with fail
    go_ret
    exact ⟨_, _, _, rfl, HI7.out, HW2.out⟩
end Go.Proofs.YtcefkkcmpdlnjaaDoor
