/-
  slices.Clone of options, and options that share no memory with others. Conditions: no more than a million, fewer than 2^47 bytes of data each.
-/
import Derived.Test.YtcefkkcmpdlnjaaHFind
import Derived.Test.YtcefkkcmpdlnjaaWNEv
namespace Go.Proofs.Ytcefkkcmpdlnjaa
open Go.RowKit Go.Proofs.Ytcefkkcmpdlnjaa.Pr Go.Proofs.YtcefkkcmpdlnjaaW.PrintWords Go.Proofs.YtcefkkcmpdlnjaaW.PrintLast Go.Proofs.YtcefkkcmpdlnjaaW.PrintMore
attribute [local go_sem] max2_int min2_int max_two min_two max_three min_three max_four min_four
set_option linter.unusedVariables false
set_option linter.unusedSimpArgs false

theorem o_below_grown {w W W1 : World} {row : Option Nat} (hb : Below w.heap.size w W) (hg : W.grownBy W1 row) (h : ∀ k, row = some k → w.heap.size ≤ k) : Below w.heap.size w W1 :=
  hb.trans ⟨hg.os, hg.tape, hg.output, hg.size, fun k hk => hg.block k (Nat.lt_of_lt_of_le hk hb.size) (fun e => by have := h k e.symm; omega)⟩
theorem oinfo : (Try.prog.info? 40).map (fun i => (i.zero, i.size, i.bytes)) = some (some (.agg #[.int .i64 0, .slice none 0 0]), 2, 32) := by kernel_rfl
theorem opt_heap : Kd.Heap k40 := Kd.heap_iso _ (Kd.heap_pair (Kd.heap_int .i64) (Kd.heap_slice 5 (Kd.heap_int .u8)))
/-- A row of options of the call's own; their data is only read. -/
abbrev ON (w : World) (base : Nat) (ok : Nat → Prop) (v : Value) (l : List OptF) : Prop := Kd.N k40 40 w base ok v l

set_option maxHeartbeats 1000000 in
set_option maxRecDepth 100000 in
theorem oclone_calls (A : Option Addr) (c : Nat) (l : List OptF) (w : World) (hF : Kd.F k40 w (fun k => k < w.heap.size) A l.length l) (hc : l.length ≤ c) (hl : l.length ≤ 1000000) :
    Calls Try.prog 26 #[.slice A l.length c] w fun e w' => ∃ v, e = .returned v ∧ ON w' w.heap.size (fun _ => True) v l ∧ Below w.heap.size w w' := by
  have HF := Lib.hid hF
  have HL := Lib.hid hl
  have hC := Kd.F_now hF
  have hq := Lib.run_eql_slice_nil (P := Try.prog) w 22 40 A l.length c 0 0 Try.underlying22
  have HW := Lib.hid (Below.refl w.heap.size w)
  clear hF hl
  cases A with
  | none =>
    obtain rfl : l = [] := by
      cases l with
      | nil => rfl
      | cons x xs =>
        obtain ⟨ad, h, _⟩ := hC.2.2 (by simp)
        cases h
    clear hC HF
    simp only [List.length_nil] at hq ⊢
    go_enter Try.func26, Try.ntmps26
    go_wp2
    go_ret
    exact ⟨_, rfl, Kd.N_nil _ _ _ _ _, HW.out⟩
  | some ad =>
    clear hC
    go_enter Try.func26, Try.ntmps26
    go_wp2_with (first
      | ((with_reducible refine gate_dst (N := 5) rfl ?_); (try (refine gate_guard (by rfl) ?_; dsimp only)); refine Kd.R_lit k40 (w0 := w) w.heap.size 40 ?hg (N := 5) ?hd (xs := ([] : List OptF)) (inner := []) (ok := fun _ => True) (okp := fun _ => True) ?hr ?hp (fun _ hk => hk) trivial (Below.refl _ _) (Nat.le_refl _) (by simp) ?_; (case hd => rfl); (case hg => rfl); (case hr => first | (go_simp; done) | (go_simp; rfl)); (case hp => exact (Reps.none _ _)); intro v3 w3 ho3 hb3 _ _; have HO3 := Lib.hid (Kd.R_N ho3); have HW3 := Lib.hid hb3; clear ho3 hb3)
      | ((with_reducible refine gate_builtin (b := .append) (xs := #[.tmp 5, .tmp 6]) rfl ?_); (try (refine gate_guard (by rfl) ?_; dsimp only)); at_builtin; refine Kd.N_append_rows k40 (w0 := w) w.heap.size rfl (.tmp 5) (.tmp 6) 22 40 (.agg #[.int .i64 0, .slice none 0 0]) 32 rfl Try.underlying22 oinfo rfl (by decide) (by omega) v3 [] l _ _ _ (fun _ => True) (fun k => k < w.heap.size) rfl rfl HO3.out (Kd.F_below HF.out HW3.out) (fun k hk => ⟨trivial, fun e => by have := Kd.N_base HO3.out k e.symm; omega⟩) (fun _ _ => trivial) HW3.out HW3.out.size (by have := HL.out; simp; omega) ?_; intro v5 w5 ho5 hb5 hg5 hat5; rw [List.nil_append] at ho5; have HO5 := Lib.hid ho5; have HW5 := Lib.hid hb5; clear ho5 hg5 hat5 hb5)
      | fail)
    go_ret
    exact ⟨_, rfl, HO5.out, HW5.out⟩

set_option maxHeartbeats 2000000 in
set_option maxRecDepth 100000 in
theorem owned_calls (A : Option Addr) (c : Nat) (l : List OptF) (w : World) (hF : Kd.F k40 w (fun k => k < w.heap.size) A l.length l) (hc : l.length ≤ c) (hl : l.length ≤ 1000000) (hd : ∀ x ∈ l, x.f1.length < 140737488355328) :
    Calls Try.prog 25 #[.slice A l.length c] w fun e w' => ∃ v, e = .returned v ∧ ON w' w.heap.size (fun _ => True) v l ∧ Below w.heap.size w w' := by
  have HF := Lib.hid hF
  have HD := Lib.hid hd
  clear hF hd
  go_enter Try.func25, Try.ntmps25
  go_upto_region 2 with (go_at_call 26; refine (oclone_calls A c l _ HF.out hc hl).mono ?_; rintro e w1 ⟨v1, rfl, hn, hb⟩; have HN1 := Lib.hid hn; have HW1 := Lib.hid hb; clear hn hb)
  obtain ⟨Av, cv, rfl⟩ := Kd.N_slice HN1.out
  go_wp2_with fail
  go_loopw [10] (fun i wr => ∃ k : Nat, k ≤ l.length ∧ i = .int .i64 k ∧ Hid (ON wr w.heap.size (fun _ => True) (.slice Av l.length cv) l) ∧ Hid (Below w.heap.size w wr)) (fun i _ => l.length - (intOf i).toNat)
  case atStart => exact ⟨0, Nat.zero_le _, rfl, HN1, HW1⟩
  case round =>
    clear HN1 HW1
    obtain ⟨k, hk, rfl, HN, HW⟩ := hrel
    by_cases hlt : k < l.length
    · obtain ⟨q, cap, he, hq1, hq2, _⟩ := Kd.N_form HN.out (by omega)
      obtain ⟨adq, hadq⟩ : ∃ a, a = (⟨q, 0, none⟩ : Addr) := ⟨_, rfl⟩
      injection he with e1 _ e3
      subst e3
      have HN' := Lib.hid HN.out
      rw [e1] at HN'
      obtain ⟨cs, hcl, hK, hcc, hfz⟩ := Kd.N_elem HN'.out ⟨0, []⟩ (k : Int) (by omega) (by omega)
      rw [Int.toNat_natCast] at hK hcc hfz
      obtain ⟨x, hx⟩ : ∃ x, x = l[k] := ⟨_, rfl⟩
      rw [show l.getD k ⟨0, []⟩ = x from by rw [List.getD_eq_getElem?_getD, List.getElem?_eq_getElem hlt, hx]; rfl] at hK
      have HXL : Hid (x.f1.length < 140737488355328) := by show _ < _; rw [hx]; exact HD.out _ (List.getElem_mem hlt)
      have HX := Lib.hid hx
      obtain ⟨A1, c1, rfl, hl1, hF1⟩ := k40_openF hK
      have a2 : adq.add (k * 2) = ⟨q, k * 2, none⟩ := by rw [hadq, add_at, Nat.zero_add]
      have y0 : wr.cell? (adq.add (k * 2)) = some (.int .i64 x.f0) := by rw [a2]; exact hcc 0 _ rfl
      have y1 : wr.cell? ⟨(adq.add (k * 2)).block, (adq.add (k * 2)).off + 1, none⟩ = some (.slice A1 x.f1.length c1) := by rw [a2]; exact hcc 1 _ rfl
      have z1 : wr.frozen? ⟨(adq.add (k * 2)).block, (adq.add (k * 2)).off + 1, none⟩ = false := by rw [a2]; exact hfz 1
      have HF1 := Lib.hid hF1
      have HL1 := Lib.hid hl1
      have HA2 := Lib.hid a2
      have HCC := Lib.hid hcc
      have HQ : Hid (w.heap.size ≤ q ∧ q < wr.heap.size) := ⟨hq1, hq2⟩
      rw [← hadq] at e1
      subst e1
      have p1 : (0 ≤ (k : Int)) = True := eq_true (by omega)
      have p2 : ((k : Int) < (l.length : Int)) = True := eq_true (by omega)
      have HADQ := Lib.hid hadq
      clear hx hK hcc hfz hF1 hl1 a2 hadq HN hq1 hq2
      have HWA := Lib.hid (below_alloc (Below.refl wr.heap.size wr) (.cells #[.int .i64 x.f0, .slice A1 x.f1.length c1] 40))
      have HNA := Lib.hid (Kd.N_alloc HN'.out (.cells #[.int .i64 x.f0, .slice A1 x.f1.length c1] 40))
      have HCA := Lib.hid (Kd.C_alloc (Kd.F_now HF1.out) (.cells #[.int .i64 x.f0, .slice A1 x.f1.length c1] 40))
      go_wp2_with fail
      refine (clone_calls A1 c1 x.f1 _ HCA.out HL1.out HXL.out).mono ?_
      rintro e w4 ⟨v4, rfl, hv4, hb4⟩
      have HN4 := Lib.hid (Kd.N_below HNA.out hb4)
      have HB4 := Lib.hid (HWA.out.trans (hb4.mono HWA.out.size))
      have HV4 := Lib.hid (Kd.R_reok (ok := fun k => wr.heap.size ≤ k) rfl hv4 (fun j hj => by have := Kd.R_base hv4 j hj; have := HWA.out.size; omega))
      obtain ⟨A4, c4, rfl⟩ := Kd.R_slice hv4
      clear hv4 hb4 y0 y1 z1 HCC HWA HNA HCA
      obtain ⟨cs4, hcl4, hK4, hcc4, hfz4⟩ := Kd.N_elem HN4.out ⟨0, []⟩ (k : Int) (by omega) (by omega)
      rw [Int.toNat_natCast] at hK4 hcc4 hfz4
      obtain ⟨A5, c5, rfl, _, _⟩ := k40_openF hK4
      have y1 : w4.cell? ⟨(adq.add (k * 2)).block, (adq.add (k * 2)).off + 1, none⟩ = some (.slice A5 (l.getD k ⟨0, []⟩).f1.length c5) := by rw [HA2.out]; exact hcc4 1 _ rfl
      have z1 : w4.frozen? ⟨(adq.add (k * 2)).block, (adq.add (k * 2)).off + 1, none⟩ = false := by rw [HA2.out]; exact hfz4 1
      have HXG : Hid (l.getD k ⟨0, []⟩ = x) := by show _ = _; rw [List.getD_eq_getElem?_getD, List.getElem?_eq_getElem hlt, HX.out]; rfl
      have HSEG := Lib.hid (Kd.N_seg HN4.out (k : Int) (by omega) (by omega) (seg := [.slice A4 x.f1.length c4]) (j := 1) hcl4 (by rw [Int.toNat_natCast]; exact hcc4) (by show 1 + 1 ≤ 2; decide) (x' := x) (okp := fun j => wr.heap.size ≤ j)
        (by rw [HXG.out]; exact k40_mkF w4 _ x (Kd.R_reads' HV4.out).2.1 (Kd.R_F HV4.out)) (fun j hj => ⟨trivial, fun e => by have := HQ.out.2; omega⟩))
      clear hK4 hcc4 hfz4 hcl4
      have hw5 : w4.setCell ⟨(adq.add (k * 2)).block, (adq.add (k * 2)).off + 1, none⟩ (.slice A4 x.f1.length c4) = w4.setCells q ((k : Int).toNat * 2 + 1) [.slice A4 x.f1.length c4] := by rw [HA2.out, Int.toNat_natCast]; rfl
      have HW5 := Lib.hid hw5
      clear hw5
      go_wp2_with fail
      go_roundw
      case rel =>
        have h1 : Hid (ON (w4.setCell ⟨(adq.add (k * 2)).block, (adq.add (k * 2)).off + 1, none⟩ (.slice A4 x.f1.length c4)) w.heap.size (fun _ => True) (.slice (some adq) l.length cv) l) := by
          show ON _ _ _ _ _
          rw [HW5.out, HADQ.out]
          have := HSEG.out.1
          rw [Int.toNat_natCast, show l.set k x = l from by rw [HX.out]; exact List.set_getElem_self ..] at this
          exact this
        have h2 : Hid (Below w.heap.size w (w4.setCell ⟨(adq.add (k * 2)).block, (adq.add (k * 2)).off + 1, none⟩ (.slice A4 x.f1.length c4))) := by
          show Below _ _ _
          rw [HW5.out]
          exact o_below_grown (HW.out.trans (HB4.out.mono HW.out.size)) HSEG.out.2 (fun j hj => by injection hj with hj; rw [← hj]; exact HQ.out.1)
        first
          | exact ⟨k + 1, by omega, by go_num, h1, h2⟩
          | ((repeat apply Exists.intro); exact ⟨⟨k + 1, by omega, by go_num, h1, h2⟩, rfl⟩)
      case measure => simp [intOf]; omega
    · have p2 : ((k : Int) < (l.length : Int)) = False := eq_false (by omega)
      go_wp2_with fail
      go_ret
      exact ⟨_, rfl, HN.out, HW.out⟩
end Go.Proofs.Ytcefkkcmpdlnjaa
