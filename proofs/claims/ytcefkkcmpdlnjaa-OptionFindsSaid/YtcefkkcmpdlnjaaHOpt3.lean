/-
  slices.Concat of options: all of them, one behind the other. Conditions: at least one, no more than two millions in all.
-/
import Derived.Test.YtcefkkcmpdlnjaaHOpt2
namespace Go.Proofs.Ytcefkkcmpdlnjaa
open Go.RowKit Go.Proofs.Ytcefkkcmpdlnjaa.Pr Go.Proofs.YtcefkkcmpdlnjaaW.PrintWords Go.Proofs.YtcefkkcmpdlnjaaW.PrintLast Go.Proofs.YtcefkkcmpdlnjaaW.PrintMore
attribute [local go_sem] max2_int min2_int max_two min_two max_three min_three max_four min_four
set_option linter.unusedVariables false
set_option linter.unusedSimpArgs false

set_option maxHeartbeats 2000000 in
set_option maxRecDepth 100000 in
theorem grow_calls (n : Nat) (w : World) (h0 : 0 < n) (hn : n ≤ 2000000) :
    Calls Try.prog 30 #[.slice none 0 0, .int .i64 (n : Int)] w fun e w' => ∃ v, e = .returned v ∧ ON w' w.heap.size (fun _ => True) v [] ∧ Below w.heap.size w w' := by
  obtain ⟨i0, hinf, hzz⟩ := Option.map_eq_some_iff.1 oinfo
  simp only [Prod.mk.injEq] at hzz
  have r0 := cut_to (P := Try.prog) 22 40 .i64 Try.underlying22 hinf none 0 0 0 (by omega) (by omega) (by omega)
  have r1 := fun (A : Option Addr) (m c : Nat) (hc : m ≤ c) => cut_to (P := Try.prog) 22 40 .i64 Try.underlying22 hinf A m c 0 (by omega) (by omega) hc
  have R1 := Lib.hid r1
  have p1 : ((n : Int) < 0) = False := eq_false (by omega)
  have p2 : (0 < (n : Int)) = True := eq_true (by omega)
  have p4 : (0 ≤ (n : Int)) = True := eq_true (by omega)
  have HW := Lib.hid (Below.refl w.heap.size w)
  have HNN := Lib.hid hn
  clear hzz hinf r1
  go_enter Try.func30, Try.ntmps30
  go_wp2_with (first
    | ((with_reducible refine gate_builtin (b := .append) (xs := #[.tmp 20, .tmp 21]) rfl ?_); (try (refine gate_guard (by rfl) ?_; dsimp only)); at_builtin; refine Kd.N_append_zeros k40 (w0 := w) w.heap.size rfl (.tmp 20) (.tmp 21) 22 3 40 (.agg #[.int .i64 0, .slice none 0 0]) 32 rfl Try.underlying22 Try.underlying3 oinfo rfl (by decide) (by decide) (.slice none 0 0) [] (⟨0, []⟩ : OptF) (n : Int) (fun _ => True) rfl rfl (k40_mkF _ _ ⟨0, []⟩ (Nat.le_refl _) (Kd.F_nil _ _ _)) (fun _ _ => trivial) (Kd.N_nil _ _ _ _ _) (by omega) HW.out HW.out.size (by have := HNN.out; simp; omega) ?_; intro v1 w1 hn1 hb1 _ _; obtain ⟨A1, c1, rfl⟩ := Kd.N_slice hn1; have HN1 := Lib.hid hn1; have HB1 := Lib.hid hb1; have r2 := R1.out A1 _ c1 (Kd.N_reads' hn1).2.1; clear hn1 hb1)
    | fail)
  go_ret
  exact ⟨_, rfl, Kd.N_take HN1.out (m := 0) (Nat.zero_le _), HB1.out⟩

theorem flat_take {ls : List (List OptF)} {k : Nat} (h : k < ls.length) : (ls.take (k + 1)).flatten = (ls.take k).flatten ++ ls[k] := by
  rw [List.take_succ_eq_append_getElem h, List.flatten_append]
  simp
theorem flat_le (ls : List (List OptF)) (k : Nat) : ((ls.take k).flatten).length ≤ ls.flatten.length := by
  have : ls.flatten = (ls.take k).flatten ++ (ls.drop k).flatten := by rw [← List.flatten_append, List.take_append_drop]
  rw [this, List.length_append]; omega
set_option maxHeartbeats 4000000 in
set_option maxRecDepth 100000 in
theorem concat_calls (A : Option Addr) (c : Nat) (ls : List (List OptF)) (w : World) (hF : Kd.F (Kd.slice 40 k40) w (fun k => k < w.heap.size) A ls.length ls) (hc : ls.length ≤ c) (h0 : 0 < ls.flatten.length) (hs : ls.flatten.length ≤ 2000000) :
    Calls Try.prog 28 #[.slice A ls.length c] w fun e w' => ∃ v, e = .returned v ∧ ON w' w.heap.size (fun _ => True) v ls.flatten ∧ Below w.heap.size w w' := by
  have hll : ls.length ≤ 9223372036854775807 := Kd.F_max hF
  have HF := Lib.hid hF
  have HS := Lib.hid hs
  clear hF hs
  go_enter Try.func28, Try.ntmps28
  go_wp2_with fail
  go_loop [3, 11] (fun s i => ∃ k : Nat, k ≤ ls.length ∧ i = .int .i64 k ∧ s = .int .i64 (((ls.take k).flatten.length : Nat) : Int)) (fun _ i => ls.length - (intOf i).toNat)
  case atStart => exact ⟨0, Nat.zero_le _, rfl, by simp⟩
  case round =>
    obtain ⟨k, hk, rfl, rfl⟩ := hrel
    by_cases hlt : k < ls.length
    · obtain ⟨ad, cs, rfl, hcs, hK, hcc, _⟩ := Kd.F_get HF.out [] (k : Int) (by omega) (by omega)
      rw [Int.toNat_natCast] at hK hcc
      obtain ⟨x, hx⟩ : ∃ x, x = ls[k] := ⟨_, rfl⟩
      rw [show ls.getD k [] = x from by rw [List.getD_eq_getElem?_getD, List.getElem?_eq_getElem hlt, hx]; rfl] at hK
      obtain ⟨Ai, ci, rfl, _, _⟩ := Kd.FK_slice_open hK
      have y0 : w.cell? (ad.add k) = some (.slice Ai x.length ci) := by have := hcc 0 _ rfl; rwa [show (Kd.slice 40 k40).sz = 1 from rfl, Nat.mul_one, Nat.add_zero] at this
      have hfl := flat_take hlt
      have hle := flat_le ls (k + 1)
      rw [hfl, ← hx, List.length_append] at hle
      have HFL := Lib.hid hfl
      have HX := Lib.hid hx
      have HLE := Lib.hid hle
      obtain ⟨n, hn⟩ : ∃ n, n = (ls.take k).flatten.length := ⟨_, rfl⟩
      rw [← hn] at HLE ⊢
      have HN := Lib.hid hn
      have hb1 : n + x.length ≤ 2000000 := Nat.le_trans HLE.out HS.out
      have p1 : (0 ≤ (k : Int)) = True := eq_true (by omega)
      have p2 : ((k : Int) < (ls.length : Int)) = True := eq_true (by omega)
      have p3 : IntKind.i64.wrap ((n : Int) + (x.length : Int)) = ((n + x.length : Nat) : Int) := by rw [IntKind.wrap_i64]; omega
      have p4 : (((n + x.length : Nat) : Int) < 0) = False := eq_false (by omega)
      have p5 : ((n : Int) + (x.length : Int) < 0) = False := eq_false (by omega)
      clear hK hcc hcs hx hfl hle hn
      go_wp2_with fail
      go_round
      case rel => exact ⟨k + 1, by omega, by go_num, by rw [HFL.out, List.length_append, ← HN.out, HX.out]; go_num⟩
      case measure => simp [intOf]; omega
    · obtain rfl : k = ls.length := by omega
      have p2 : ((ls.length : Int) < (ls.length : Int)) = False := eq_false (by omega)
      have e0 : Hid (ls.take ls.length = ls) := List.take_length ..
      obtain ⟨n, hn⟩ : ∃ n, n = (ls.take ls.length).flatten.length := ⟨_, rfl⟩
      rw [← hn]
      have HN : Hid (n = ls.flatten.length) := by show _ = _; rw [hn, e0.out]
      clear hn
      have GR := grow_calls n w (by rw [HN.out]; exact h0) (by rw [HN.out]; exact HS.out)
      have HGR := Lib.hid GR
      clear GR h0
      go_wp2_with fail
      refine HGR.out.mono ?_
      rintro e w1 ⟨v1, rfl, hn1, hb1⟩
      have HN1 := Lib.hid hn1
      have HB1 := Lib.hid hb1
      clear hn1 hb1 HGR
      go_wp2_with fail
      go_loopw [6, 27] (fun v i wr => ∃ k : Nat, k ≤ ls.length ∧ i = .int .i64 k ∧ Hid (ON wr w.heap.size (fun _ => True) v (ls.take k).flatten) ∧ Hid (Below w.heap.size w wr)) (fun _ i _ => ls.length - (intOf i).toNat)
      case atStart => exact ⟨0, Nat.zero_le _, rfl, HN1, HB1⟩
      case round =>
        clear HN1 HB1
        obtain ⟨k, hk, rfl, HR, HW⟩ := hrel
        by_cases hlt : k < ls.length
        · obtain ⟨ad, cs, rfl, hcs, hK, hcc, _⟩ := Kd.F_get HF.out [] (k : Int) (by omega) (by omega)
          rw [Int.toNat_natCast] at hK hcc
          obtain ⟨x, hx⟩ : ∃ x, x = ls[k] := ⟨_, rfl⟩
          rw [show ls.getD k [] = x from by rw [List.getD_eq_getElem?_getD, List.getElem?_eq_getElem hlt, hx]; rfl] at hK
          obtain ⟨Ai, ci, rfl, hci, hFi⟩ := Kd.FK_slice_open hK
          have y0 : w.cell? (ad.add k) = some (.slice Ai x.length ci) := by have := hcc 0 _ rfl; rwa [show (Kd.slice 40 k40).sz = 1 from rfl, Nat.mul_one, Nat.add_zero] at this
          replace y0 := (HW.out.cell (World.block_lt_of_cell? w _ y0)).trans y0
          have hle := flat_le ls (k + 1)
          rw [flat_take hlt, ← hx, List.length_append] at hle
          have HLE := Lib.hid hle
          have HFL : Hid ((ls.take (k + 1)).flatten = (ls.take k).flatten ++ x) := by show _ = _; rw [flat_take hlt, hx]
          have HFI := Lib.hid hFi
          have p1 : (0 ≤ (k : Int)) = True := eq_true (by omega)
          have p2 : ((k : Int) < (ls.length : Int)) = True := eq_true (by omega)
          clear hK hcc hcs hx hle hFi
          go_wp2_with (first
            | ((with_reducible refine gate_builtin (b := .append) (xs := #[.tmp 31, .tmp 32]) rfl ?_); (try (refine gate_guard (by rfl) ?_; dsimp only)); at_builtin; refine Kd.N_append_rows k40 (w0 := w) w.heap.size rfl (.tmp 31) (.tmp 32) 22 40 (.agg #[.int .i64 0, .slice none 0 0]) 32 rfl Try.underlying22 oinfo rfl (by decide) (by decide) _ (ls.take k).flatten x _ _ _ (fun _ => True) (fun k => k < w.heap.size) rfl rfl HR.out (Kd.F_below HFI.out HW.out) (fun j hj => ⟨trivial, fun e => by have := Kd.N_base HR.out j e.symm; omega⟩) (fun _ _ => trivial) HW.out HW.out.size (by have := HLE.out; have := HS.out; omega) ?_; intro v5 w5 ho5 hb5 hg5 hat5; rw [← HFL.out] at ho5; have HO5 := Lib.hid ho5; have HW5 := Lib.hid hb5; clear ho5 hg5 hat5 hb5)
            | fail)
          go_roundw
          case rel => exact ⟨k + 1, by omega, by go_num, HO5, HW5⟩
          case measure => simp [intOf]; omega
        · obtain rfl : k = ls.length := by omega
          have p2 : ((ls.length : Int) < (ls.length : Int)) = False := eq_false (by omega)
          rw [e0.out] at HR
          go_wp2_with fail
          go_ret
          exact ⟨_, rfl, HR.out, HW.out⟩
end Go.Proofs.Ytcefkkcmpdlnjaa
