/-
  The document's disk: fails, Append, Sync, Swap, Crash. Conditions: the disk is one that may be.
-/
import Derived.Test.YtfndajgmjkimgaaHDk5
namespace Go.Proofs.Ytfndajgmjkimgaa
open Go.RowKit Go.Proofs.YtfndajgmjkimgaaW.PrintWords Go.Proofs.YtfndajgmjkimgaaW.PrintLast Go.Proofs.YtfndajgmjkimgaaW.PrintMore
attribute [local go_sem] max2_int min2_int max_two min_two max_three min_three max_four min_four
set_option linter.unusedVariables false
set_option linter.unusedSimpArgs false

theorem fails_yes (g : Nat) (d : DkS) (w : World) (h : RK w g d) (h0 : d.inn = 0) :
    Calls Try.prog 43 #[.pointer (some ⟨g, 0, none⟩)] w fun e w' => e = .returned (.bool true) ∧ w' = w := by
  obtain ⟨v, hv, hr⟩ := h
  rw [h0] at hv
  have c3 : w.cell? ⟨g, 3, none⟩ = some (.int .i64 0) := (blk_cell hv 3).trans rfl
  clear hv hr h0
  go_enter Try.func43, Try.ntmps43
  go_wp2
  go_ret
  exact ⟨rfl, rfl⟩
theorem fails_no (g : Nat) (d : DkS) (w : World) (h : RK w g d) (hok : d.ok) (h0 : d.inn ≠ 0) :
    Calls Try.prog 43 #[.pointer (some ⟨g, 0, none⟩)] w fun e w' => e = .returned (.bool false) ∧ RK w' g d.count ∧ Fr w w' (fun k => k = g) := by
  have h' := h
  obtain ⟨v, hv, hr⟩ := h'
  have c3 : w.cell? ⟨g, 3, none⟩ = some (.int .i64 d.inn) := (blk_cell hv 3).trans rfl
  have z3 := blk_frozen hv 3
  have b1 := hok.2.2.2.2.2.1
  have b2 := hok.2.2.2.2.2.2.1
  have H := Lib.hid h
  clear h hv hr hok
  have t0 : (d.inn == 0) = false := beq_eq_false_iff_ne.2 h0
  by_cases hp : 0 < d.inn
  · have t1 : decide (0 < d.inn) = true := decide_eq_true hp
    have HC := Lib.hid (count_pos hp)
    clear h0
    go_enter Try.func43, Try.ntmps43
    go_wp2
    go_ret
    rw [HC.out]
    exact ⟨rfl, H.out.set_in (by decide) _, fr_set w g 3 _⟩
  · have t1 : decide (0 < d.inn) = false := decide_eq_false hp
    have HC := Lib.hid (count_neg (d := d) (by omega))
    clear h0
    go_enter Try.func43, Try.ntmps43
    go_wp2
    go_ret
    rw [HC.out]
    exact ⟨rfl, H.out, Fr.refl w _⟩

set_option maxHeartbeats 1000000 in
theorem ref_Sync (g : Nat) (d : DkS) (w : World) (h : RK w g d) (hok : d.ok) :
    Calls Try.prog 35 #[.pointer (some ⟨g, 0, none⟩)] w fun e w' => e = .returned (.int .i64 d.sync.1) ∧ RK w' g d.sync.2 ∧ Fr w w' (fun k => k = g) := by
  by_cases h0 : d.inn = 0
  · have e0 : d.sync = (7, d) := by unfold DkS.sync; rw [if_pos h0]
    have E := Lib.hid e0
    have H := Lib.hid h
    have H0 := Lib.hid h0
    clear h e0 h0 hok
    go_enter Try.func35, Try.ntmps35
    go_wp2_with (go_at_call 43; refine (fails_yes g d _ H.out H0.out).mono ?_; rintro e w' ⟨rfl, rfl⟩)
    go_ret
    rw [E.out]
    exact ⟨rfl, H.out, Fr.refl _ _⟩
  · have e0 : d.sync = (0, { d.count with last := d.b.length }) := by unfold DkS.sync; rw [if_neg h0]
    have E := Lib.hid e0
    have H := Lib.hid h
    have H0 := Lib.hid h0
    have HOK := Lib.hid hok
    clear h e0 h0 hok
    go_enter Try.func35, Try.ntmps35
    go_wp2_with (go_at_call 43; refine (fails_no g d _ H.out HOK.out H0.out).mono ?_; rintro e w1 ⟨rfl, hd1, hf1⟩; have hd1' := hd1; obtain ⟨v, hv, hr⟩ := hd1'; obtain ⟨A, c, rfl⟩ := Kd.R_slice hr; have c1 : w1.cell? ⟨g, 1, none⟩ = some (.slice A d.b.length c) := (blk_cell hv 1).trans rfl; have c2 : w1.cell? ⟨g, 2, none⟩ = some (.int .i64 d.last) := (blk_cell hv 2).trans rfl; have z2 := blk_frozen hv 2; have HD1 := Lib.hid hd1; have HF1 := Lib.hid hf1; clear hd1 hf1 hv hr)
    go_ret
    rw [E.out]
    exact ⟨rfl, HD1.out.set_last (by decide) _, fr_put HF1.out 2 _⟩

set_option maxHeartbeats 4000000 in
set_option maxRecDepth 100000 in
theorem ref_Append (g : Nat) (d : DkS) (B : Option Addr) (cb : Nat) (b : List Int) (w : World) (h : RK w g d) (hok : d.ok) (hB : (Kd.int .u8).C w B b.length b) (hcb : b.length ≤ cb) (hl : b.length ≤ 100000000) :
    Calls Try.prog 45 #[.pointer (some ⟨g, 0, none⟩), .slice B b.length cb] w fun e w' => e = .returned (.int .i64 (d.append b).1) ∧ RK w' g (d.append b).2 ∧ Fr w w' (fun k => k = g) := by
  by_cases h0 : d.inn = 0
  · have e0 : d.append b = (7, d) := by unfold DkS.append; rw [if_pos h0]
    have E := Lib.hid e0
    have H := Lib.hid h
    have H0 := Lib.hid h0
    clear h e0 h0 hok hB
    go_enter Try.func45, Try.ntmps45
    go_wp2_with (go_at_call 43; refine (fails_yes g d _ H.out H0.out).mono ?_; rintro e w' ⟨rfl, rfl⟩)
    go_ret
    rw [E.out]
    exact ⟨rfl, H.out, Fr.refl _ _⟩
  · have q1 := hok.2.1
    have q2 := hok.2.2.1
    have hsum : IntKind.i64.wrap ((d.b.length : Int) + b.length) = (d.b.length : Int) + b.length := IntWalk.i64_in _ (by omega)
    have hz0 : 0 ≤ (d.b.length : Int) + b.length := by omega
    by_cases h1 : d.room < (d.b.length : Int) + b.length
    · have e0 : d.append b = (3, d.count) := by unfold DkS.append; rw [if_neg h0, if_pos h1]
      have t1 : decide (d.room < (d.b.length : Int) + b.length) = true := decide_eq_true h1
      have E := Lib.hid e0
      have H := Lib.hid h
      have H0 := Lib.hid h0
      have HOK := Lib.hid hok
      clear h e0 h0 hok hB h1
      go_enter Try.func45, Try.ntmps45
      go_wp2_with (go_at_call 43; refine (fails_no g d _ H.out HOK.out H0.out).mono ?_; rintro e w1 ⟨rfl, hd1, hf1⟩; have hd1' := hd1; obtain ⟨v, hv, hr⟩ := hd1'; obtain ⟨A, c, rfl⟩ := Kd.R_slice hr; have c1 : w1.cell? ⟨g, 1, none⟩ = some (.slice A d.b.length c) := (blk_cell hv 1).trans rfl; have c0 : w1.cell? ⟨g, 0, none⟩ = some (.int .i64 d.room) := (blk_cell hv 0).trans rfl; have HD1 := Lib.hid hd1; have HF1 := Lib.hid hf1; clear hd1 hf1 hv hr)
      go_quiet (fail)
      go_wp2
      go_ret
      rw [E.out]
      exact ⟨rfl, HD1.out.drewN _, HF1.out.drewN _⟩
    · have e0 : d.append b = (0, { d.count with b := d.b ++ b }) := by unfold DkS.append; rw [if_neg h0, if_neg h1]
      have t1 : decide (d.room < (d.b.length : Int) + b.length) = false := decide_eq_false h1
      have E := Lib.hid e0
      have H := Lib.hid h
      have H0 := Lib.hid h0
      have HOK := Lib.hid hok
      have HB := Lib.hid hB
      clear h e0 h0 hok hB h1
      go_enter Try.func45, Try.ntmps45
      go_wp2_with (go_at_call 43; refine (fails_no g d _ H.out HOK.out H0.out).mono ?_; rintro e w1 ⟨rfl, hd1, hf1⟩; have hd1' := hd1; obtain ⟨v, hv, hr⟩ := hd1'; obtain ⟨A, c, rfl, hc, hC⟩ := Kd.R_reads hr; have c1 : w1.cell? ⟨g, 1, none⟩ = some (.slice A d.b.length c) := (blk_cell hv 1).trans rfl; have c0 : w1.cell? ⟨g, 0, none⟩ = some (.int .i64 d.room) := (blk_cell hv 0).trans rfl; have HV1 := Lib.hid hv; have HC1 := Lib.hid hC; have HB1 := Lib.hid (C_fr_dk HB.out H.out hf1); have HD1 := Lib.hid hd1; have HF1 := Lib.hid hf1; clear hd1 hf1 hv hr hC hc)
      go_quiet (fail)
      obtain ⟨W2, hW2⟩ : ∃ W2, w1.drewN nq = W2 := ⟨_, rfl⟩
      have hbw : Below w1.heap.size w1 W2 := by rw [← hW2]; exact pw_below_drewN (Below.refl _ _) _
      rw [hW2]
      clear hW2
      have HBW := Lib.hid hbw
      have k1 := pw_cell_below hbw c1
      clear hbw c1 c0
      go_wp2_with (first
        | ((with_reducible refine gate_dst (N := 21) rfl ?_); refine Kd.R_lit (Kd.int .u8) (w0 := W2) W2.heap.size 5 rfl (N := 21) rfl (xs := ([] : List Int)) (inner := []) (ok := fun _ => True) (okp := fun _ => True) ?hr ?hp (fun _ hk => hk) trivial (Below.refl _ _) (Nat.le_refl _) (by simp) ?_; (case hr => first | (go_simp; done) | (go_simp; rfl)); (case hp => exact Reps.none _ _); intro v3 w3 ho3 hb3 _ _; have k3 := pw_cell_below hb3 k1; have HO3 := Lib.hid ho3; have HB3 := Lib.hid hb3; clear ho3 hb3 k1)
        | ((with_reducible refine gate_dst (N := 26) rfl ?_); at_builtin; refine Kd.R_append_rows (Kd.int .u8) (w0 := W2) W2.heap.size rfl (.tmp 21) (.tmp 25) 33 5 (.int .u8 0) 1 rfl Try.underlying33 info_u8 rfl (by decide) (by omega) _ [] d.b _ _ _ (fun _ => True) (fun _ => False) rfl rfl HO3.out (Kd.C_below HC1.out (HBW.out.trans (HB3.out.mono HBW.out.size))) (fun _ _ h => h) (fun _ h => h.elim) (fun _ _ => trivial) HB3.out HB3.out.size (by simp; omega) ?_; intro v4 w4 ho4 hb4 _ _; have k4 := pw_cell_below hb4 (pw_cell_below HBW.out ((blk_cell HV1.out 1).trans (rfl : _ = some (Value.slice A d.b.length c)))); have z4 : w4.frozen? ⟨g, 1, none⟩ = false := blk_frozen (blk_below (blk_below HV1.out HBW.out) hb4) 1; have HO4 := Lib.hid ho4; have HB4 := Lib.hid hb4; clear ho4 hb4 k3)
        | ((with_reducible refine gate_dst (N := 28) rfl ?_); at_builtin; refine Kd.R_append_rows (Kd.int .u8) (w0 := W2) W2.heap.size rfl (.tmp 26) (.tmp 27) 33 5 (.int .u8 0) 1 rfl Try.underlying33 info_u8 rfl (by decide) (by omega) _ ([] ++ d.b) b _ _ _ (fun _ => True) (fun _ => False) rfl rfl HO4.out (Kd.C_below HB1.out (HBW.out.trans (HB4.out.mono HBW.out.size))) (fun _ _ h => h) (fun _ h => h.elim) (fun _ _ => trivial) HB4.out HB4.out.size (by simp; omega) ?_; intro v5 w5 ho5 hb5 _ _; obtain ⟨A5, c5, rfl⟩ := Kd.R_slice ho5; have k5 := pw_cell_below hb5 (pw_cell_below HBW.out ((blk_cell HV1.out 1).trans (rfl : _ = some (Value.slice A d.b.length c)))); have z5 : w5.frozen? ⟨g, 1, none⟩ = false := blk_frozen (blk_below (blk_below HV1.out HBW.out) hb5) 1; have HO5 := Lib.hid ho5; have HB5 := Lib.hid hb5; clear ho5 hb5 k4 z4)
        | fail)
      go_ret
      rw [E.out]
      have e5 := Kd.R_lower HO5.out (Nat.zero_le _)
      refine ⟨rfl, ((HD1.out.below HBW.out).below HB5.out).set_b (by decide) (b2 := d.b ++ b) (by simpa using e5), fr_put (HF1.out.below (HBW.out.trans (HB5.out.mono HBW.out.size))) 1 _⟩
end Go.Proofs.Ytfndajgmjkimgaa
