/-
  A log over a disk, both programs': Open, Append, Compact, Records, Len. Conditions: the disk is one that may be.
-/
import Derived.Test.YtfndajgmjkimgaaHDk7
import Derived.Test.YtfndajgmjkimgaaFrL
namespace Go.Proofs.Ytfndajgmjkimgaa
open Go.RowKit Go.Proofs.Ytfndajgmjkimgaa.Pr Go.Proofs.Ytfndajgmjkimgaa.FrL Go.Proofs.YtfndajgmjkimgaaW.PrintWords Go.Proofs.YtfndajgmjkimgaaW.PrintLast Go.Proofs.YtfndajgmjkimgaaW.PrintMore
attribute [local go_sem] max2_int min2_int max_two min_two max_three min_three max_four min_four
set_option linter.unusedVariables false
set_option linter.unusedSimpArgs false

instance (x : List Int) : Decidable (rOk x) := by unfold rOk; infer_instance
def DkS.used (d : DkS) : Int := (frScan d.b).2
def DkS.recs (d : DkS) : List (List Int) := (frScan d.b).1
def DkS.open (d : DkS) : Int × DkS := if d.used < d.b.length then d.swap (d.b.take d.used.toNat) else (0, d)
def DkS.put (d : DkS) (b : List Int) : Int × DkS := if rOk b then d.append (putOf b) else (1, d)
def DkS.compact (d : DkS) (l : List (List Int)) : Int × DkS := if ∀ x ∈ l, rOk x then d.swap (puts l) else (1, d)

abbrev LK (w : World) (l g : Nat) : Prop := w.heap[l]? = some (.cells #[.pointer (some ⟨g, 0, none⟩)] 37 (0, 0))
abbrev RL (w : World) (l g : Nat) : Prop := w.heap[l]? = some (.cells #[.pointer (some ⟨g, 0, none⟩)] 72 (0, 0))

theorem ok_used {d : DkS} (h : d.ok) : ∃ u : Nat, u ≤ d.b.length ∧ d.used = u ∧ puts d.recs = d.b.take u ∧ ∀ x ∈ d.recs, rOk x := scan_any d.b h.2.2.2.2.2.2.2
theorem ok_len {d : DkS} (h : d.ok) : d.b.length ≤ 1048576 := by have h1 := h.2.1; have h2 := h.2.2.1; omega
theorem ok_bytes {d : DkS} (h : d.ok) : ∀ x ∈ d.b, 0 ≤ x ∧ x ≤ 255 := h.2.2.2.2.2.2.2
theorem fr_old2 {w w1 w2 : World} {S : Nat → Prop} (hb : Below w.heap.size w w1) (hf : Fr w1 w2 S) : Fr w w2 S := (Fr.of_below hb _).then_ hf (fun _ hk => .inl hk)

/-- The scan of bytes that the caller made. -/
theorem scan_calls (A : Option Addr) (c : Nat) (b : List Int) (w : World) (hC : (Kd.int .u8).C w A b.length b) (hc : b.length ≤ c) (hl : b.length ≤ 1048576) (hb : ∀ x ∈ b, 0 ≤ x ∧ x ≤ 255) :
    Calls Try.prog 25 #[.slice A b.length c] w fun e w' => ∃ v, e = .returned (.tuple #[v, .int .i64 (frScan b).2]) ∧ (Kd.slice 5 (Kd.int .u8)).R 33 w' w.heap.size (fun _ => True) v (frScan b).1 ∧ Below w.heap.size w w' :=
  (frame_Scan.calls A c b _ _ w hC hc (scan_f (by omega) hb)).mono fun e w' ⟨v, he, hv, hB⟩ => ⟨v, he, Kd.S_R hv, hB⟩
theorem ref_scan_calls (A : Option Addr) (c : Nat) (b : List Int) (w : World) (hC : (Kd.int .u8).C w A b.length b) (hc : b.length ≤ c) (hl : b.length ≤ 1048576) (hb : ∀ x ∈ b, 0 ≤ x ∧ x ≤ 255) :
    Calls Try.prog 32 #[.slice A b.length c] w fun e w' => ∃ v, e = .returned (.tuple #[v, .int .i64 (frScan b).2]) ∧ (Kd.slice 5 (Kd.int .u8)).R 33 w' w.heap.size (fun _ => True) v (frScan b).1 ∧ Below w.heap.size w w' :=
  (lessorref09_Scan.calls _ A c b _ _ w hC hc (ref_scan_f (by omega) hb)).mono fun e w' ⟨v, he, hv, hB⟩ => ⟨v, he, Kd.S_R hv, hB⟩

theorem wal_Open_nil (w : World) : Calls Try.prog 10 #[.pointer none] w fun e w' => e = .returned (.tuple #[.pointer none, .int .i64 1]) ∧ w' = w := by
  go_enter Try.func10, Try.ntmps10
  go_wp2_with fail
  go_ret2
  exact ⟨rfl, rfl⟩

set_option maxHeartbeats 4000000 in
theorem wal_Open (g : Nat) (d : DkS) (w : World) (h : DK w g d) (hok : d.ok) :
    Calls Try.prog 10 #[.pointer (some ⟨g, 0, none⟩)] w fun e w' => ∃ p, e = .returned (.tuple #[p, .int .i64 d.open.1]) ∧ DK w' g d.open.2 ∧ Fr w w' (fun k => k = g) ∧ (d.open.1 = 0 → ∃ l, w.heap.size ≤ l ∧ p = .pointer (some ⟨l, 0, none⟩) ∧ LK w' l g) ∧ (d.open.1 ≠ 0 → p = .pointer none) := by
  obtain ⟨u, hu1, hu2, _, _⟩ := ok_used hok
  have hlen := ok_len hok
  have HOK := Lib.hid hok
  have H := Lib.hid h
  have HU := Lib.hid (show (frScan d.b).2 = (u : Int) from hu2)
  clear h hok
  by_cases hlt : u < d.b.length
  · have eo : d.open = d.swap (d.b.take u) := by unfold DkS.open; rw [hu2, if_pos (by omega), Int.toNat_natCast]
    have EO := Lib.hid eo
    have hbt : ∀ x ∈ d.b.take u, 0 ≤ x ∧ x ≤ 255 := fun x hx => ok_bytes HOK.out x (List.mem_of_mem_take hx)
    have HLT : Hid ((d.b.take u).length = u) := by show _ = _; rw [List.length_take]; omega
    have t1 : decide ((u : Int) < (d.b.length : Int)) = true := decide_eq_true (by omega)
    obtain ⟨cd, hcd⟩ : ∃ cd, cd = (d.swap (d.b.take u)).1 := ⟨_, rfl⟩
    obtain ⟨d2, hd2⟩ : ∃ d2, d2 = (d.swap (d.b.take u)).2 := ⟨_, rfl⟩
    have HCD := Lib.hid hcd
    have HD2 := Lib.hid hd2
    clear hu2 eo hcd hd2
    go_enter Try.func10, Try.ntmps10
    go_wp2_with (go_at_call 22; refine (disk_Read g d _ H.out (by omega)).mono ?_; rintro e w1 ⟨v, rfl, hv, hb⟩; obtain ⟨A1, c1, rfl, hc1, hC1⟩ := Kd.R_reads hv; have HC1 := Lib.hid hC1; have HCC := Lib.hid hc1; have B1 := Lib.hid hb; have D1 := Lib.hid (H.out.below hb); clear hv hb hC1 hc1)
    refine (scan_calls A1 c1 d.b _ HC1.out HCC.out hlen (ok_bytes HOK.out)).mono ?_
    rw [HU.out]
    rintro e w2 ⟨v, rfl, hv, hb⟩
    have HC2 := Lib.hid (Kd.C_below HC1.out hb)
    have B2 := Lib.hid (B1.out.trans (hb.mono B1.out.size))
    have D2 := Lib.hid (D1.out.below hb)
    clear hv hb
    have q3 := fun W => take_u8 A1 c1 d.b.length u hu1 HCC.out W
    have CT : Hid ((Kd.int .u8).C w2 A1 (d.b.take u).length (d.b.take u)) := C_take_n HC2.out u hu1
    have SW : Hid (∀ W, Below w2.heap.size w2 W → Calls Try.prog 26 #[.pointer (some ⟨g, 0, none⟩), .slice A1 u c1] W fun e w' => e = .returned (.int .i64 cd) ∧ DK w' g d2 ∧ Fr W w' (fun k => k = g)) := fun W hW => by
      have := disk_Swap g d A1 c1 (d.b.take u) W (D2.out.below hW) HOK.out (Kd.C_below CT.out hW) (by rw [HLT.out]; have := HCC.out; omega) (by rw [HLT.out]; omega)
      rw [HLT.out, ← HCD.out, ← HD2.out] at this
      exact this
    by_cases hc0 : cd = 0
    · subst hc0
      go_wp2_with (go_at_call 26; refine (SW.out _ (Below.refl _ _)).mono ?_; rintro e w3 ⟨rfl, h3, f3⟩; have H3 := Lib.hid h3; have F3 := Lib.hid (fr_old2 B2.out f3); clear h3 f3)
      go_ret2
      rw [EO.out, ← HCD.out, ← HD2.out]
      exact ⟨_, rfl, H3.out.alloc _, F3.out.alloc _, fun _ => ⟨w3.heap.size, F3.out.size, rfl, blk_new _ _⟩, fun h => absurd rfl h⟩
    · have t2 : (cd != 0) = true := bne_iff_ne.2 hc0
      go_wp2_with (go_at_call 26; refine (SW.out _ (Below.refl _ _)).mono ?_; rintro e w3 ⟨rfl, h3, f3⟩; have H3 := Lib.hid h3; have F3 := Lib.hid (fr_old2 B2.out f3); clear h3 f3)
      go_ret2
      rw [EO.out, ← HCD.out, ← HD2.out]
      exact ⟨_, rfl, H3.out, F3.out, fun h => absurd h hc0, fun _ => rfl⟩
  · have eo : d.open = (0, d) := by unfold DkS.open; rw [hu2, if_neg (by omega)]
    have EO := Lib.hid eo
    have t1 : decide ((u : Int) < (d.b.length : Int)) = false := decide_eq_false (by omega)
    clear hu2 eo
    go_enter Try.func10, Try.ntmps10
    go_wp2_with (go_at_call 22; refine (disk_Read g d _ H.out (by omega)).mono ?_; rintro e w1 ⟨v, rfl, hv, hb⟩; obtain ⟨A1, c1, rfl, hc1, hC1⟩ := Kd.R_reads hv; have HC1 := Lib.hid hC1; have HCC := Lib.hid hc1; have B1 := Lib.hid hb; have D1 := Lib.hid (H.out.below hb); clear hv hb hC1 hc1)
    refine (scan_calls A1 c1 d.b _ HC1.out HCC.out hlen (ok_bytes HOK.out)).mono ?_
    rw [HU.out]
    rintro e w2 ⟨v, rfl, hv, hb⟩
    have B2 := Lib.hid (B1.out.trans (hb.mono B1.out.size))
    have D2 := Lib.hid (D1.out.below hb)
    clear hv hb
    go_wp2_with fail
    go_ret2
    rw [EO.out]
    exact ⟨_, rfl, D2.out.alloc _, Fr.of_below (below_alloc B2.out _) _, fun _ => ⟨w2.heap.size, B2.out.size, rfl, blk_new _ _⟩, fun h => absurd rfl h⟩

set_option maxHeartbeats 4000000 in
theorem ref_Open (g : Nat) (d : DkS) (w : World) (h : RK w g d) (hok : d.ok) :
    Calls Try.prog 19 #[.pointer (some ⟨g, 0, none⟩)] w fun e w' => ∃ p, e = .returned (.tuple #[p, .int .i64 d.open.1]) ∧ RK w' g d.open.2 ∧ Fr w w' (fun k => k = g) ∧ (d.open.1 = 0 → ∃ l, w.heap.size ≤ l ∧ p = .pointer (some ⟨l, 0, none⟩) ∧ RL w' l g) ∧ (d.open.1 ≠ 0 → p = .pointer none) := by
  obtain ⟨u, hu1, hu2, _, _⟩ := ok_used hok
  have hlen := ok_len hok
  have h' := h
  obtain ⟨v, hv, hr⟩ := h'
  obtain ⟨A1, c1, rfl, hc1, hC1⟩ := Kd.R_reads hr
  have x1 : w.cell? ⟨g, 1, none⟩ = some (.slice A1 d.b.length c1) := (blk_cell hv 1).trans rfl
  have HOK := Lib.hid hok
  have H := Lib.hid h
  have HV := Lib.hid hv
  have HC1 := Lib.hid hC1
  have HCC := Lib.hid hc1
  have HU := Lib.hid (show (frScan d.b).2 = (u : Int) from hu2)
  clear h hok hv hr hC1 hc1
  by_cases hlt : u < d.b.length
  · have eo : d.open = d.swap (d.b.take u) := by unfold DkS.open; rw [hu2, if_pos (by omega), Int.toNat_natCast]
    have EO := Lib.hid eo
    have HLT : Hid ((d.b.take u).length = u) := by show _ = _; rw [List.length_take]; omega
    have t1 : ((u : Int) != (d.b.length : Int)) = true := bne_iff_ne.2 (by omega)
    have t3 : ((u : Int) == (d.b.length : Int)) = false := beq_eq_false_iff_ne.2 (by omega)
    obtain ⟨cd, hcd⟩ : ∃ cd, cd = (d.swap (d.b.take u)).1 := ⟨_, rfl⟩
    obtain ⟨d2, hd2⟩ : ∃ d2, d2 = (d.swap (d.b.take u)).2 := ⟨_, rfl⟩
    have HCD := Lib.hid hcd
    have HD2 := Lib.hid hd2
    clear hu2 eo hcd hd2
    go_enter Try.func19, Try.ntmps19
    go_wp2_with fail
    refine (ref_scan_calls A1 c1 d.b _ HC1.out HCC.out hlen (ok_bytes HOK.out)).mono ?_
    rw [HU.out]
    rintro e w2 ⟨v, rfl, hv, hb⟩
    have HC2 := Lib.hid (Kd.C_below HC1.out hb)
    have B2 := Lib.hid hb
    have D2 := Lib.hid (H.out.below hb)
    have x2 := pw_cell_below hb x1
    clear hv hb x1
    have q3 := fun W => take_u8 A1 c1 d.b.length u hu1 HCC.out W
    have CT : Hid ((Kd.int .u8).C w2 A1 (d.b.take u).length (d.b.take u)) := C_take_n HC2.out u hu1
    have SW : Hid (∀ W, Below w2.heap.size w2 W → Calls Try.prog 33 #[.pointer (some ⟨g, 0, none⟩), .slice A1 u c1] W fun e w' => e = .returned (.int .i64 cd) ∧ RK w' g d2 ∧ Fr W w' (fun k => k = g)) := fun W hW => by
      have := ref_Swap g d A1 c1 (d.b.take u) W (D2.out.below hW) HOK.out (Kd.C_below CT.out hW) (by rw [HLT.out]; have := HCC.out; omega) (by rw [HLT.out]; omega)
      rw [HLT.out, ← HCD.out, ← HD2.out] at this
      exact this
    by_cases hc0 : cd = 0
    · subst hc0
      go_wp2_with (go_at_call 33; refine (SW.out _ (Below.refl _ _)).mono ?_; rintro e w3 ⟨rfl, h3, f3⟩; have H3 := Lib.hid h3; have F3 := Lib.hid (fr_old2 B2.out f3); clear h3 f3)
      go_ret2
      rw [EO.out, ← HCD.out, ← HD2.out]
      exact ⟨_, rfl, H3.out.alloc _, F3.out.alloc _, fun _ => ⟨w3.heap.size, F3.out.size, rfl, blk_new _ _⟩, fun h => absurd rfl h⟩
    · have t2 : (cd != 0) = true := bne_iff_ne.2 hc0
      go_wp2_with (go_at_call 33; refine (SW.out _ (Below.refl _ _)).mono ?_; rintro e w3 ⟨rfl, h3, f3⟩; have H3 := Lib.hid h3; have F3 := Lib.hid (fr_old2 B2.out f3); clear h3 f3)
      go_ret2
      rw [EO.out, ← HCD.out, ← HD2.out]
      exact ⟨_, rfl, H3.out, F3.out, fun h => absurd h hc0, fun _ => rfl⟩
  · have eo : d.open = (0, d) := by unfold DkS.open; rw [hu2, if_neg (by omega)]
    have EO := Lib.hid eo
    have t1 : ((u : Int) != (d.b.length : Int)) = false := by simp; omega
    have t3 : ((u : Int) == (d.b.length : Int)) = true := beq_iff_eq.2 (by omega)
    clear hu2 eo
    go_enter Try.func19, Try.ntmps19
    go_wp2_with fail
    refine (ref_scan_calls A1 c1 d.b _ HC1.out HCC.out hlen (ok_bytes HOK.out)).mono ?_
    rw [HU.out]
    rintro e w2 ⟨v, rfl, hv, hb⟩
    have B2 := Lib.hid hb
    have D2 := Lib.hid (H.out.below hb)
    have x2 := pw_cell_below hb x1
    clear hv hb x1
    go_wp2_with fail
    go_ret2
    rw [EO.out]
    exact ⟨_, rfl, D2.out.alloc _, Fr.of_below (below_alloc B2.out _) _, fun _ => ⟨w2.heap.size, B2.out.size, rfl, blk_new _ _⟩, fun h => absurd rfl h⟩
end Go.Proofs.Ytfndajgmjkimgaa
