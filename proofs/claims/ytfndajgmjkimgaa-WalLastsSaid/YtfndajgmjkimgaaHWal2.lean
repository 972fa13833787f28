/-
  A log over a disk, both programs': Append, Compact, Records, Len. Conditions: the disk is one that may be; at most twenty records are put in the place of all.
-/
import Derived.Test.YtfndajgmjkimgaaHWal1
namespace Go.Proofs.Ytfndajgmjkimgaa
open Go.RowKit Go.Proofs.Ytfndajgmjkimgaa.Pr Go.Proofs.Ytfndajgmjkimgaa.FrL Go.Proofs.YtfndajgmjkimgaaW.PrintWords Go.Proofs.YtfndajgmjkimgaaW.PrintLast Go.Proofs.YtfndajgmjkimgaaW.PrintMore
attribute [local go_sem] max2_int min2_int max_two min_two max_three min_three max_four min_four
set_option linter.unusedVariables false
set_option linter.unusedSimpArgs false

theorem putOf_bytes {b : List Int} (h : ∀ x ∈ b, 0 ≤ x ∧ x ≤ 255) : ∀ x ∈ putOf b, 0 ≤ x ∧ x ≤ 255 := by
  intro y hy
  have := puts_bytes (l := [b]) (fun x hx => by rw [List.mem_singleton.1 hx]; exact h) y
  rw [puts_one] at this
  exact this hy
theorem puts_take_len (l : List (List Int)) (k : Nat) (h : ∀ x ∈ l.take k, rOk x) (hk : k ≤ 20) : (puts (l.take k)).length ≤ 20060 := by
  have := E_len (l.take k) (fun x hx => (h x hx).2) (l.take k).length
  rw [E_full, List.length_take] at this
  omega
theorem recs_len {d : DkS} (h : d.ok) : d.recs.length ≤ 1048576 := by
  obtain ⟨u, h1, h2, h3, h4⟩ := ok_used h
  have := puts_len (R := d.recs)
  rw [h3, List.length_take] at this
  have := ok_len h
  omega

set_option maxHeartbeats 4000000 in
theorem wal_Put (l g : Nat) (d : DkS) (B : Option Addr) (cb : Nat) (b : List Int) (w : World) (hl : LK w l g) (h : DK w g d) (hok : d.ok) (hB : (Kd.int .u8).C w B b.length b) (hcb : b.length ≤ cb) :
    Calls Try.prog 11 #[.pointer (some ⟨l, 0, none⟩), .slice B b.length cb] w fun e w' => e = .returned (.int .i64 (d.put b).1) ∧ DK w' g (d.put b).2 ∧ Fr w w' (fun k => k = g) := by
  have HOK := Lib.hid hok
  have H := Lib.hid h
  have HB := Lib.hid hB
  have HL := Lib.hid hl
  have HCB := Lib.hid hcb
  clear h hok hB hl hcb
  by_cases hr : rOk b
  · have E : Hid (d.put b = d.append (putOf b)) := by show _ = _; unfold DkS.put; rw [if_pos hr]
    have PL : Hid ((putOf b).length ≤ 1003) := by show _ ≤ _; rw [putOf_len]; have := hr.2; omega
    have HP := Lib.hid (put_ok hr.1 hr.2)
    clear hr
    go_enter Try.func11, Try.ntmps11
    go_wp2_with (first
      | (go_at_call 27; refine (frame_Put.calls B cb b _ _ _ HB.out HCB.out HP.out).mono ?_; rintro e w1 ⟨v, rfl, hv, hb⟩; obtain ⟨A1, c1, rfl, hc1, hC1⟩ := Kd.R_reads hv; have HC1 := Lib.hid hC1; have HCC := Lib.hid hc1; have B1 := Lib.hid hb; have D1 := Lib.hid (H.out.below hb); have x1 : w1.cell? ⟨l, 0, none⟩ = some (.pointer (some ⟨g, 0, none⟩)) := (blk_cell (blk_below HL.out hb) 0).trans rfl; clear hv hb hC1 hc1)
      | (go_at_call 28; refine (disk_Append g d A1 c1 (putOf b) _ D1.out HOK.out HC1.out HCC.out (by have := PL.out; omega)).mono ?_; rw [← E.out]; rintro e w2 ⟨rfl, h2, f2⟩; have H2 := Lib.hid h2; have F2 := Lib.hid (fr_old2 B1.out f2); clear h2 f2)
      | fail)
    go_ret
    exact ⟨rfl, H2.out, F2.out⟩
  · have E : Hid (d.put b = (1, d)) := by show _ = _; unfold DkS.put; rw [if_neg hr]
    have HP := Lib.hid (put_no hr)
    clear hr
    go_enter Try.func11, Try.ntmps11
    go_wp2_with (first
      | (go_at_call 27; refine (frame_Put.calls B cb b _ _ _ HB.out HCB.out HP.out).mono ?_; rintro e w1 ⟨v, rfl, hv, hb⟩; have B1 := Lib.hid hb; have D1 := Lib.hid (H.out.below hb); clear hv hb)
      | fail)
    go_ret
    rw [E.out]
    exact ⟨rfl, D1.out, Fr.of_below B1.out _⟩

set_option maxHeartbeats 8000000 in
set_option maxRecDepth 100000 in
theorem wal_Compact (l g : Nat) (d : DkS) (A : Option Addr) (c : Nat) (ll : List (List Int)) (w : World) (hl : LK w l g) (h : DK w g d) (hok : d.ok) (hC : (Kd.slice 5 (Kd.int .u8)).C w A ll.length ll) (hc : ll.length ≤ c) (hll : ll.length ≤ 20) :
    Calls Try.prog 21 #[.pointer (some ⟨l, 0, none⟩), .slice A ll.length c] w fun e w' => e = .returned (.int .i64 (d.compact ll).1) ∧ DK w' g (d.compact ll).2 ∧ Fr w w' (fun k => k = g) := by
  have HOK := Lib.hid hok
  have H := Lib.hid h
  have HC := Lib.hid hC
  have HL := Lib.hid hl
  clear h hok hC hl
  go_enter Try.func21, Try.ntmps21
  go_wp2_with fail
  go_loopw [5, 12] (fun v i wr => ∃ k : Nat, k ≤ ll.length ∧ i = .int .i64 k ∧ Hid ((Kd.int .u8).R 5 wr w.heap.size (fun _ => True) v (puts (ll.take k))) ∧ Hid (Below w.heap.size w wr) ∧ Hid (∀ x ∈ ll.take k, rOk x)) (fun _ i _ => ll.length - (intOf i).toNat)
  case atStart => exact ⟨0, Nat.zero_le _, rfl, by show (Kd.int .u8).R _ _ _ _ _ _; exact Kd.R_nil _ _ _ _ _, Below.refl _ _, by show ∀ x ∈ _, _; simp⟩
  case round =>
    obtain ⟨k, hk, rfl, HR, HW, HA⟩ := hrel
    by_cases hlt : k < ll.length
    · obtain ⟨ad, Ai, ci, rfl, hx, hxl, hxc⟩ := at_row HC.out k hlt
      obtain ⟨x, hxe⟩ : ∃ x, x = ll[k] := ⟨_, rfl⟩
      rw [← hxe] at hx hxl hxc
      replace hx := (HW.out.cell (World.block_lt_of_cell? w _ hx)).trans hx
      have HXC := Lib.hid (Kd.C_below hxc HW.out)
      have HXL := Lib.hid hxl
      have HX := Lib.hid hxe
      have p1 : (0 ≤ (k : Int)) = True := eq_true (by omega)
      have p2 : ((k : Int) < (ll.length : Int)) = True := eq_true (by omega)
      have pl := puts_take_len ll k HA.out (by omega)
      have PL := Lib.hid pl
      clear hxc hxl hxe pl
      by_cases hr : rOk x
      · have HP := Lib.hid (put_ok hr.1 hr.2)
        have XL := Lib.hid hr.2
        have HA2 : Hid (∀ y ∈ ll.take (k + 1), rOk y) := by
          intro y hy
          rw [List.take_succ_eq_append_getElem hlt] at hy
          rcases List.mem_append.1 hy with hy | hy
          · exact HA.out y hy
          · rw [List.mem_singleton.1 hy, ← HX.out]; exact hr
        have EP : Hid (puts (ll.take (k + 1)) = puts (ll.take k) ++ putOf x) := by
          show _ = _
          rw [List.take_succ_eq_append_getElem hlt, puts_snoc, ← HX.out]
        clear hr
        go_wp2_with (first
          | (go_at_call 27; refine (frame_Put.calls Ai ci x _ _ _ HXC.out HXL.out HP.out).mono ?_; rintro e w1 ⟨v1, rfl, hv, hb⟩; obtain ⟨A1, c1, rfl, hc1, hC1⟩ := Kd.R_reads hv; have HC1 := Lib.hid hC1; have HR1 := Lib.hid (Kd.R_below HR.out hb); have HW1 := Lib.hid (HW.out.trans (hb.mono HW.out.size)); clear hv hb hC1 hc1)
          | ((with_reducible refine gate_dst (N := 26) rfl ?_); at_builtin; refine Kd.R_append_rows (Kd.int .u8) (w0 := w) w.heap.size rfl (.tmp 24) (.tmp 25) 33 5 (.int .u8 0) 1 rfl Try.underlying33 info_u8 rfl (by decide) (by omega) _ (puts (ll.take k)) (putOf x) _ _ _ (fun _ => True) (fun _ => False) rfl rfl HR1.out HC1.out (fun _ _ h => h) (fun _ h => h.elim) (fun _ _ => trivial) HW1.out HW1.out.size (by rw [putOf_len]; have := XL.out; have := PL.out; omega) ?_; intro v2 w2 ho hb2 _ _; have HR2 := Lib.hid ho; have HW2 := Lib.hid hb2; clear ho hb2)
          | fail)
        go_roundw
        case rel => exact ⟨k + 1, by omega, by go_num, by rw [EP.out]; exact HR2, HW2, HA2⟩
        case measure => simp [intOf]; omega
      · have HP := Lib.hid (put_no hr)
        have E : Hid (d.compact ll = (1, d)) := by
          show _ = _
          unfold DkS.compact
          rw [if_neg (fun hall => hr (by rw [HX.out]; exact hall _ (List.getElem_mem hlt)))]
        clear hr
        go_wp2_with (first
          | (go_at_call 27; refine (frame_Put.calls Ai ci x _ _ _ HXC.out HXL.out HP.out).mono ?_; rintro e w1 ⟨v1, rfl, hv, hb⟩; have HW1 := Lib.hid (HW.out.trans (hb.mono HW.out.size)); clear hv hb)
          | fail)
        go_ret
        rw [E.out]
        exact ⟨rfl, H.out.below HW1.out, Fr.of_below HW1.out _⟩
    · obtain rfl : k = ll.length := by omega
      rw [List.take_length] at HA HR
      have E : Hid (d.compact ll = d.swap (puts ll)) := by show _ = _; unfold DkS.compact; rw [if_pos HA.out]
      have pl : (puts ll).length ≤ 20060 := by have := puts_take_len ll ll.length (by rw [List.take_length]; exact HA.out) hll; rwa [List.take_length] at this
      have PL := Lib.hid pl
      obtain ⟨A5, c5, e5, hc5, hC5⟩ := Kd.R_reads HR.out
      subst e5
      have HC5 := Lib.hid hC5
      have HCC5 := Lib.hid hc5
      have x1 : wr.cell? ⟨l, 0, none⟩ = some (.pointer (some ⟨g, 0, none⟩)) := (blk_cell (blk_below HL.out HW.out) 0).trans rfl
      have D1 := Lib.hid (H.out.below HW.out)
      clear pl hC5 hc5
      go_wp2_with (first
        | (go_at_call 26; refine (disk_Swap g d A5 c5 (puts ll) _ D1.out HOK.out HC5.out HCC5.out (by have := PL.out; omega)).mono ?_; rw [← E.out]; rintro e w2 ⟨rfl, h2, f2⟩; have H2 := Lib.hid h2; have F2 := Lib.hid (fr_old2 HW.out f2); clear h2 f2)
        | fail)
      go_ret
      exact ⟨rfl, H2.out, F2.out⟩

set_option maxHeartbeats 4000000 in
theorem rlog_Put (l g : Nat) (d : DkS) (B : Option Addr) (cb : Nat) (b : List Int) (w : World) (hl : RL w l g) (h : RK w g d) (hok : d.ok) (hB : (Kd.int .u8).C w B b.length b) (hcb : b.length ≤ cb) :
    Calls Try.prog 34 #[.pointer (some ⟨l, 0, none⟩), .slice B b.length cb] w fun e w' => e = .returned (.int .i64 (d.put b).1) ∧ RK w' g (d.put b).2 ∧ Fr w w' (fun k => k = g) := by
  have HOK := Lib.hid hok
  have H := Lib.hid h
  have HB := Lib.hid hB
  have HL := Lib.hid hl
  have HCB := Lib.hid hcb
  clear h hok hB hl hcb
  by_cases hr : rOk b
  · have E : Hid (d.put b = d.append (putOf b)) := by show _ = _; unfold DkS.put; rw [if_pos hr]
    have PL : Hid ((putOf b).length ≤ 1003) := by show _ ≤ _; rw [putOf_len]; have := hr.2; omega
    have HP := Lib.hid (ref_put_ok hr)
    clear hr
    go_enter Try.func34, Try.ntmps34
    go_wp2_with (first
      | (go_at_call 44; refine (lessorref09_Put.calls B cb b _ _ _ HB.out HCB.out HP.out).mono ?_; rintro e w1 ⟨v, rfl, hv, hb⟩; obtain ⟨A1, c1, rfl, hc1, hC1⟩ := Kd.R_reads hv; have HC1 := Lib.hid hC1; have HCC := Lib.hid hc1; have B1 := Lib.hid hb; have D1 := Lib.hid (H.out.below hb); have x1 : w1.cell? ⟨l, 0, none⟩ = some (.pointer (some ⟨g, 0, none⟩)) := (blk_cell (blk_below HL.out hb) 0).trans rfl; clear hv hb hC1 hc1)
      | (go_at_call 45; refine (ref_Append g d A1 c1 (putOf b) _ D1.out HOK.out HC1.out HCC.out (by have := PL.out; omega)).mono ?_; rw [← E.out]; rintro e w2 ⟨rfl, h2, f2⟩; have H2 := Lib.hid h2; have F2 := Lib.hid (fr_old2 B1.out f2); clear h2 f2)
      | fail)
    go_ret
    exact ⟨rfl, H2.out, F2.out⟩
  · have E : Hid (d.put b = (1, d)) := by show _ = _; unfold DkS.put; rw [if_neg hr]
    have HP := Lib.hid (ref_put_no hr)
    clear hr
    go_enter Try.func34, Try.ntmps34
    go_wp2_with (first
      | (go_at_call 44; refine (lessorref09_Put.calls B cb b _ _ _ HB.out HCB.out HP.out).mono ?_; rintro e w1 ⟨v, rfl, hv, hb⟩; have B1 := Lib.hid hb; have D1 := Lib.hid (H.out.below hb); clear hv hb)
      | fail)
    go_ret
    rw [E.out]
    exact ⟨rfl, D1.out, Fr.of_below B1.out _⟩

set_option maxHeartbeats 8000000 in
set_option maxRecDepth 100000 in
theorem rlog_Compact (l g : Nat) (d : DkS) (A : Option Addr) (c : Nat) (ll : List (List Int)) (w : World) (hl : RL w l g) (h : RK w g d) (hok : d.ok) (hC : (Kd.slice 5 (Kd.int .u8)).C w A ll.length ll) (hc : ll.length ≤ c) (hll : ll.length ≤ 20) :
    Calls Try.prog 36 #[.pointer (some ⟨l, 0, none⟩), .slice A ll.length c] w fun e w' => e = .returned (.int .i64 (d.compact ll).1) ∧ RK w' g (d.compact ll).2 ∧ Fr w w' (fun k => k = g) := by
  have HOK := Lib.hid hok
  have H := Lib.hid h
  have HC := Lib.hid hC
  have HL := Lib.hid hl
  clear h hok hC hl
  go_enter Try.func36, Try.ntmps36
  go_wp2_with fail
  go_loopw [5, 6] (fun v i wr => ∃ k : Nat, k ≤ ll.length ∧ i = .int .i64 k ∧ Hid ((Kd.int .u8).R 5 wr w.heap.size (fun _ => True) v (puts (ll.take k))) ∧ Hid (Below w.heap.size w wr) ∧ Hid (∀ x ∈ ll.take k, rOk x)) (fun _ i _ => ll.length - (intOf i).toNat)
  case atStart => exact ⟨0, Nat.zero_le _, rfl, by show (Kd.int .u8).R _ _ _ _ _ _; exact Kd.R_nil _ _ _ _ _, Below.refl _ _, by show ∀ x ∈ _, _; simp⟩
  case round =>
    obtain ⟨k, hk, rfl, HR, HW, HA⟩ := hrel
    by_cases hlt : k < ll.length
    · obtain ⟨ad, Ai, ci, rfl, hx, hxl, hxc⟩ := at_row HC.out k hlt
      obtain ⟨x, hxe⟩ : ∃ x, x = ll[k] := ⟨_, rfl⟩
      rw [← hxe] at hx hxl hxc
      replace hx := (HW.out.cell (World.block_lt_of_cell? w _ hx)).trans hx
      have HXC := Lib.hid (Kd.C_below hxc HW.out)
      have HXL := Lib.hid hxl
      have HX := Lib.hid hxe
      have p1 : (0 ≤ (k : Int)) = True := eq_true (by omega)
      have p2 : ((k : Int) < (ll.length : Int)) = True := eq_true (by omega)
      have pl := puts_take_len ll k HA.out (by omega)
      have PL := Lib.hid pl
      clear hxc hxl hxe pl
      by_cases hr : rOk x
      · have HP := Lib.hid (ref_put_ok hr)
        have XL := Lib.hid hr.2
        have HA2 : Hid (∀ y ∈ ll.take (k + 1), rOk y) := by
          intro y hy
          rw [List.take_succ_eq_append_getElem hlt] at hy
          rcases List.mem_append.1 hy with hy | hy
          · exact HA.out y hy
          · rw [List.mem_singleton.1 hy, ← HX.out]; exact hr
        have EP : Hid (puts (ll.take (k + 1)) = puts (ll.take k) ++ putOf x) := by
          show _ = _
          rw [List.take_succ_eq_append_getElem hlt, puts_snoc, ← HX.out]
        clear hr
        go_wp2_with (first
          | (go_at_call 44; refine (lessorref09_Put.calls Ai ci x _ _ _ HXC.out HXL.out HP.out).mono ?_; rintro e w1 ⟨v1, rfl, hv, hb⟩; obtain ⟨A1, c1, rfl, hc1, hC1⟩ := Kd.R_reads hv; have HC1 := Lib.hid hC1; have HR1 := Lib.hid (Kd.R_below HR.out hb); have HW1 := Lib.hid (HW.out.trans (hb.mono HW.out.size)); clear hv hb hC1 hc1)
          | ((with_reducible refine gate_dst (N := 27) rfl ?_); at_builtin; refine Kd.R_append_rows (Kd.int .u8) (w0 := w) w.heap.size rfl (.tmp 25) (.tmp 26) 33 5 (.int .u8 0) 1 rfl Try.underlying33 info_u8 rfl (by decide) (by omega) _ (puts (ll.take k)) (putOf x) _ _ _ (fun _ => True) (fun _ => False) rfl rfl HR1.out HC1.out (fun _ _ h => h) (fun _ h => h.elim) (fun _ _ => trivial) HW1.out HW1.out.size (by rw [putOf_len]; have := XL.out; have := PL.out; omega) ?_; intro v2 w2 ho hb2 _ _; have HR2 := Lib.hid ho; have HW2 := Lib.hid hb2; clear ho hb2)
          | fail)
        go_roundw
        case rel => exact ⟨k + 1, by omega, by go_num, by rw [EP.out]; exact HR2, HW2, HA2⟩
        case measure => simp [intOf]; omega
      · have HP := Lib.hid (ref_put_no hr)
        have E : Hid (d.compact ll = (1, d)) := by
          show _ = _
          unfold DkS.compact
          rw [if_neg (fun hall => hr (by rw [HX.out]; exact hall _ (List.getElem_mem hlt)))]
        clear hr
        go_wp2_with (first
          | (go_at_call 44; refine (lessorref09_Put.calls Ai ci x _ _ _ HXC.out HXL.out HP.out).mono ?_; rintro e w1 ⟨v1, rfl, hv, hb⟩; have HW1 := Lib.hid (HW.out.trans (hb.mono HW.out.size)); clear hv hb)
          | fail)
        go_ret
        rw [E.out]
        exact ⟨rfl, H.out.below HW1.out, Fr.of_below HW1.out _⟩
    · obtain rfl : k = ll.length := by omega
      rw [List.take_length] at HA HR
      have E : Hid (d.compact ll = d.swap (puts ll)) := by show _ = _; unfold DkS.compact; rw [if_pos HA.out]
      have pl : (puts ll).length ≤ 20060 := by have := puts_take_len ll ll.length (by rw [List.take_length]; exact HA.out) hll; rwa [List.take_length] at this
      have PL := Lib.hid pl
      obtain ⟨A5, c5, e5, hc5, hC5⟩ := Kd.R_reads HR.out
      subst e5
      have HC5 := Lib.hid hC5
      have HCC5 := Lib.hid hc5
      have x1 : wr.cell? ⟨l, 0, none⟩ = some (.pointer (some ⟨g, 0, none⟩)) := (blk_cell (blk_below HL.out HW.out) 0).trans rfl
      have D1 := Lib.hid (H.out.below HW.out)
      clear pl hC5 hc5
      go_wp2_with (first
        | (go_at_call 33; refine (ref_Swap g d A5 c5 (puts ll) _ D1.out HOK.out HC5.out HCC5.out (by have := PL.out; omega)).mono ?_; rw [← E.out]; rintro e w2 ⟨rfl, h2, f2⟩; have H2 := Lib.hid h2; have F2 := Lib.hid (fr_old2 HW.out f2); clear h2 f2)
        | fail)
      go_ret
      exact ⟨rfl, H2.out, F2.out⟩

set_option maxHeartbeats 1000000 in
theorem wal_Records (l g : Nat) (d : DkS) (w : World) (hl : LK w l g) (h : DK w g d) (hok : d.ok) :
    Calls Try.prog 14 #[.pointer (some ⟨l, 0, none⟩)] w fun e w' => ∃ v, e = .returned v ∧ (Kd.slice 5 (Kd.int .u8)).R 33 w' w.heap.size (fun _ => True) v d.recs ∧ Below w.heap.size w w' := by
  have hlen := ok_len hok
  have x1 : w.cell? ⟨l, 0, none⟩ = some (.pointer (some ⟨g, 0, none⟩)) := (blk_cell hl 0).trans rfl
  have HOK := Lib.hid hok
  have H := Lib.hid h
  clear h hok hl
  go_enter Try.func14, Try.ntmps14
  go_wp2_with (first
    | (go_at_call 22; refine (disk_Read g d _ H.out (by omega)).mono ?_; rintro e w1 ⟨v, rfl, hv, hb⟩; obtain ⟨A1, c1, rfl, hc1, hC1⟩ := Kd.R_reads hv; have HC1 := Lib.hid hC1; have HCC := Lib.hid hc1; have B1 := Lib.hid hb; clear hv hb hC1 hc1)
    | (go_at_call 25; refine (scan_calls A1 c1 d.b _ HC1.out HCC.out hlen (ok_bytes HOK.out)).mono ?_; rintro e w2 ⟨v2, rfl, hv2, hb2⟩; have HR2 := Lib.hid (Kd.R_lower hv2 B1.out.size); have B2 := Lib.hid (B1.out.trans (hb2.mono B1.out.size)); clear hv2 hb2)
    | fail)
  go_ret
  exact ⟨_, rfl, HR2.out, B2.out⟩
set_option maxHeartbeats 1000000 in
theorem wal_Len (l g : Nat) (d : DkS) (w : World) (hl : LK w l g) (h : DK w g d) (hok : d.ok) :
    Calls Try.prog 16 #[.pointer (some ⟨l, 0, none⟩)] w fun e w' => e = .returned (.int .i64 d.recs.length) ∧ Below w.heap.size w w' := by
  have HOK := Lib.hid hok
  have H := Lib.hid h
  have HL := Lib.hid hl
  clear h hok hl
  go_enter Try.func16, Try.ntmps16
  go_wp2_with (go_at_call 14; refine (wal_Records l g d _ HL.out H.out HOK.out).mono ?_; rintro e w1 ⟨v, rfl, hv, hb⟩; obtain ⟨A1, c1, rfl⟩ := Kd.R_slice hv; have B1 := Lib.hid hb; clear hv hb)
  go_ret
  exact ⟨rfl, B1.out⟩
set_option maxHeartbeats 1000000 in
theorem rlog_Records (l g : Nat) (d : DkS) (w : World) (hl : RL w l g) (h : RK w g d) (hok : d.ok) :
    Calls Try.prog 23 #[.pointer (some ⟨l, 0, none⟩)] w fun e w' => ∃ v, e = .returned v ∧ (Kd.slice 5 (Kd.int .u8)).R 33 w' w.heap.size (fun _ => True) v d.recs ∧ Below w.heap.size w w' := by
  have hlen := ok_len hok
  have x1 : w.cell? ⟨l, 0, none⟩ = some (.pointer (some ⟨g, 0, none⟩)) := (blk_cell hl 0).trans rfl
  obtain ⟨v, hv, hr⟩ := h
  obtain ⟨A1, c1, rfl, hc1, hC1⟩ := Kd.R_reads hr
  have x2 : w.cell? ⟨g, 1, none⟩ = some (.slice A1 d.b.length c1) := (blk_cell hv 1).trans rfl
  have HOK := Lib.hid hok
  have HC1 := Lib.hid hC1
  have HCC := Lib.hid hc1
  clear hv hr hok hl hC1 hc1
  go_enter Try.func23, Try.ntmps23
  go_wp2_with (go_at_call 32; refine (ref_scan_calls A1 c1 d.b _ HC1.out HCC.out hlen (ok_bytes HOK.out)).mono ?_; rintro e w2 ⟨v2, rfl, hv2, hb2⟩; have HR2 := Lib.hid hv2; have B2 := Lib.hid hb2; clear hv2 hb2)
  go_ret
  exact ⟨_, rfl, HR2.out, B2.out⟩
end Go.Proofs.Ytfndajgmjkimgaa
