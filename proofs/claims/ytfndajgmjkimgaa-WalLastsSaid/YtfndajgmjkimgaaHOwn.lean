/-
  disk.own: all bytes of some rows, one behind the other, in a row of one's own. Condition: four rows at most, none of more than 2^40 bytes.
-/
import Derived.Lib.Hide
import Derived.Laws.CopyOwn
import Derived.Laws.MakeOwn
import Derived.Test.YtfndajgmjkimgaaPr0
import Derived.Test.YtfndajgmjkimgaaDk
namespace Go.Proofs.Ytfndajgmjkimgaa
open Go.RowKit Go.Proofs.YtfndajgmjkimgaaW.PrintWords Go.Proofs.YtfndajgmjkimgaaW.PrintLast Go.Proofs.YtfndajgmjkimgaaW.PrintMore
set_option linter.unusedVariables false
set_option linter.unusedSimpArgs false

theorem at_row {w : World} {A : Option Addr} {n : Nat} {e : Nat} {k : IntKind} {ll : List (List Int)} (h : (Kd.slice e (Kd.int k)).C w A n ll) (i : Nat) (hi : i < ll.length) :
    ∃ ad Ai ci, A = some ad ∧ w.cell? (ad.add i) = some (.slice Ai ll[i].length ci) ∧ ll[i].length ≤ ci ∧ (Kd.int k).C w Ai ll[i].length ll[i] := by
  have hn : ll.length = n := h.1
  obtain ⟨ad, c, e, _, hK, hc0⟩ := Kd.C_get h ([] : List Int) (i : Int) (by omega) (by omega)
  rw [Int.toNat_natCast, List.getD_eq_getElem?_getD, List.getElem?_eq_getElem hi] at hK
  rw [Int.toNat_natCast] at hc0
  have hc : ∀ j u, c[j]? = some u → w.cell? (ad.add (i * 1 + j)) = some u := hc0
  obtain ⟨A0, c0, rfl, l0, g0⟩ := hK
  exact ⟨ad, A0, c0, e, by have hq := hc 0 _ rfl; rwa [Nat.mul_one, Nat.add_zero] at hq, l0, g0⟩

theorem info_u8 : (Try.prog.info? 5).map (fun i => (i.zero, i.size, i.bytes)) = some (some (.int .u8 0), 1, 1) := by kernel_rfl
theorem make_u8 (m : Nat) (hm : m ≤ 281474976710656) (W : World) : (Instr.makeSlice 33 (.int .i64 (m : Int)) (.int .i64 (m : Int))).run Try.prog W = .ok (.slice (some ⟨W.heap.size, 0, none⟩) m m) (W.alloc (.cells (nums .u8 (List.replicate m 0)).toArray 5)) := by
  obtain ⟨i0, hi, hzz⟩ := Option.map_eq_some_iff.1 info_u8
  simp only [Prod.mk.injEq] at hzz
  obtain ⟨hz0, hz1, hz2⟩ := hzz
  have hr := run_make (P := Try.prog) W 33 5 i0 (.int .u8 0) Try.underlying33 hi hz0 .i64 .i64 (m : Int) (m : Int) (by omega) (by omega) (by rw [hz2]; omega) (by omega)
  rw [hr, Int.toNat_natCast, hz1]
  congr 3
  simp [madeCells, nums, Value.cells]
  apply Array.ext
  · simp
  · intro i h1 h2; simp [Nat.mod_one]
theorem drop_u8 (A : Option Addr) (c : Nat) (n : Nat) (j : Nat) (hj : j ≤ n) (hc : n ≤ c) : ∃ A' : Option Addr, (j < c → A' = A.map (·.add j)) ∧ ∀ W : World, (Instr.slice 33 (.slice A n c) (some (.int .i64 (j : Int))) none none).run Try.prog W = .ok (.slice A' (n - j) (c - j)) W := by
  obtain ⟨i0, hi, hzz⟩ := Option.map_eq_some_iff.1 info_u8
  simp only [Prod.mk.injEq] at hzz
  obtain ⟨hz0, hz1, hz2⟩ := hzz
  have hel : Try.prog.elem 33 = 5 := by kernel_rfl
  have hu : Try.prog.underlying 33 = some (.slice (Try.prog.elem 33)) := by rw [hel]; exact Try.underlying33
  refine ⟨if c = j then A else A.map (·.add j), fun h => if_neg (by omega), fun W => ?_⟩
  rw [run_slice_l W 33 A n c hu .i64 (j : Int) (by omega) (by omega), hel]
  simp [sizeOf, typeInfo, hi, hz1, sliced, Result.andThen]

set_option maxHeartbeats 4000000 in
set_option maxRecDepth 100000 in
theorem own_calls (A : Option Addr) (c : Nat) (ll : List (List Int)) (w : World) (hC : (Kd.slice 5 (Kd.int .u8)).C w A ll.length ll) (hc : ll.length ≤ c) (hbig : ll.flatten.length ≤ 140737488355328) (hlen : ll.length ≤ 4) :
    Calls Try.prog 31 #[.slice A ll.length c] w fun e w' => ∃ v, e = .returned v ∧ (Kd.int .u8).R 5 w' w.heap.size (fun _ => True) v ll.flatten ∧ Below w.heap.size w w' := by
  have hsum : ∀ k, (ll.take k).flatten.length ≤ ll.flatten.length := by
    intro k
    have : ll.flatten = (ll.take k).flatten ++ (ll.drop k).flatten := by rw [← List.flatten_append, List.take_append_drop]
    rw [this, List.length_append]; omega
  obtain ⟨m, hm⟩ : ∃ m, m = ll.flatten.length := ⟨_, rfl⟩
  have HM := Lib.hid hm
  have hmb : m ≤ 140737488355328 := by omega
  have hsum' : ∀ k, (ll.take k).flatten.length ≤ m := by intro k; rw [hm]; exact hsum k
  have HS := Lib.hid hsum'
  clear hsum hsum' hbig hm
  have hmk := fun W => make_u8 m (by omega) W
  go_enter Try.func31, Try.ntmps31
  go_wp2
  go_loop [3, 5, 12] (fun n _ i => ∃ k a : Nat, k ≤ ll.length ∧ i = .int .i64 k ∧ n = .int .i64 a ∧ Hid (a = (ll.take k).flatten.length) ∧ a ≤ m) (fun _ _ i => ll.length - (intOf i).toNat)
  case atStart => exact ⟨0, 0, Nat.zero_le _, rfl, rfl, by show 0 = _; simp, Nat.zero_le _⟩
  case round =>
    obtain ⟨k, a, hk, rfl, rfl, HA, ham⟩ := hrel
    by_cases hlt : k < ll.length
    · obtain ⟨ad, Ai, ci, rfl, hx, hxl, hxc⟩ := at_row hC k hlt
      have p1 : (0 ≤ (k : Int)) = True := eq_true (by omega)
      have p2 : ((k : Int) < (ll.length : Int)) = True := eq_true (by omega)
      have hs1 : a + ll[k].length ≤ m := by
        have := HS.out (k + 1)
        rw [List.take_succ_eq_append_getElem hlt, List.flatten_append, List.length_append, ← HA.out] at this
        simpa using this
      have hb1 : (ll[k].length : Int) ≤ 140737488355328 := by omega
      go_wp2
      all_goals
        go_round
        case rel =>
          refine ⟨k + 1, a + ll[k].length, by omega, by go_num, by go_num, ?_, hs1⟩
          show a + ll[k].length = _
          rw [List.take_succ_eq_append_getElem hlt, List.flatten_append, List.length_append, ← HA.out]; simp
        case measure => simp [intOf]; omega
    · obtain rfl : k = ll.length := by omega
      obtain rfl : m = a := by have := HA.out; rw [List.take_length] at this; rw [this, HM.out]
      go_wp2
      go_loopw [7, 9, 25] (fun at_ _ i wr => ∃ k a : Nat, k ≤ ll.length ∧ i = .int .i64 k ∧ at_ = .int .i64 a ∧ Hid (a = (ll.take k).flatten.length) ∧ a ≤ m ∧ Hid (wr.heap[w.heap.size]? = some (.cells (nums .u8 ((ll.take k).flatten ++ List.replicate (m - a) 0)).toArray 5 (0, 0))) ∧ Below w.heap.size w wr) (fun _ _ i _ => ll.length - (intOf i).toNat)
      case atStart => exact ⟨0, 0, Nat.zero_le _, rfl, rfl, by show 0 = _; simp, Nat.zero_le _, by show _ = _; simpa using blk_new w _, below_alloc (Below.refl _ _) _⟩
      case round =>
        obtain ⟨k, a, hk, rfl, rfl, HA, ham, HG, hB⟩ := hrel
        by_cases hlt : k < ll.length
        · obtain ⟨ad, Ai, ci, rfl, hx, hxl, hxc⟩ := at_row hC k hlt
          have p1 : (0 ≤ (k : Int)) = True := eq_true (by omega)
          have p2 : ((k : Int) < (ll.length : Int)) = True := eq_true (by omega)
          have hx' := (hB.cell (World.block_lt_of_cell? w _ hx)).trans hx
          clear hx
          have hs1 : a + ll[k].length ≤ m := by
            have := HS.out (k + 1)
            rw [List.take_succ_eq_append_getElem hlt, List.flatten_append, List.length_append, ← HA.out] at this
            simpa using this
          obtain ⟨x, hxe⟩ : ∃ x, x = ll[k] := ⟨_, rfl⟩
          rw [← hxe] at hx' hxl hxc hs1
          have HX := Lib.hid hxe
          clear hxe
          obtain ⟨A', hA', hcut⟩ := drop_u8 (some ⟨w.heap.size, 0, none⟩) m m a ham (Nat.le_refl _)
          obtain ⟨cs, hcs⟩ : ∃ cs, cs = nums .u8 x := ⟨_, rfl⟩
          have hcl : cs.length = x.length := by rw [hcs, nums_length]
          have HCL := Lib.hid hcl
          obtain ⟨cur, hcur⟩ : ∃ cur, cur = nums .u8 ((ll.take k).flatten ++ List.replicate (m - a) 0) := ⟨_, rfl⟩
          have HG' : wr.heap[w.heap.size]? = some (.cells cur.toArray 5 (0, 0)) := by rw [hcur]; exact HG.out
          have HG2 := Lib.hid HG'
          have hcurl : cur.length = m := by rw [hcur, nums_length, List.length_append, ← HA.out, List.length_replicate]; omega
          have HCUL := Lib.hid hcurl
          have HPOS : 0 < cs.length → A' = some ⟨w.heap.size, a, none⟩ ∧ ∃ ad, Ai = some ad ∧ ∀ j v, cs[j]? = some v → wr.cell? (ad.add j) = some v := by
            intro h0
            refine ⟨?_, ?_⟩
            · rw [hA' (by omega)]
              simp [Addr.add]
              intro h; omega
            · have hr := Kd.C_below hxc hB
              obtain ⟨ad2, h2, hcell⟩ := (Kd.reads_of_C (d := (0 : Int)) hr).2.2 (by omega)
              refine ⟨ad2, h2, fun j v hj => ?_⟩
              have hjl : j < x.length := by
                rw [hcs] at hj
                have := (List.getElem?_eq_some_iff.1 hj).1
                rwa [nums_length] at this
              rw [hcell j hjl]
              rw [hcs, nums, List.getElem?_map, List.getElem?_eq_getElem hjl] at hj
              rw [← hj]
              simp [List.getD_eq_getElem?_getD, List.getElem?_eq_getElem hjl]
          have HP := Lib.hid HPOS
          have HONE : Hid (∀ v ∈ cs, v.oneCell' = true) := by
            intro v hv
            rw [hcs] at hv
            obtain ⟨y, _, rfl⟩ := List.mem_map.1 hv
            rfl
          have HCS := Lib.hid hcs
          have HCU := Lib.hid hcur
          have HMIN : Hid (cs.length = Nat.min x.length (m - a)) := by
            show cs.length = min x.length (m - a)
            rw [hcl]; omega
          have hs2 : a + cs.length ≤ m := by rw [hcl]; exact hs1
          clear hA' HPOS HG' hcl hcurl hcs hcur HG
          go_wp2_with (with_reducible refine wpList_copy_splice (o := ⟨some 34, _, _, _, _, _⟩) rfl (.tmp 32) (.tmp 33) 33 33 rfl 5 Try.underlying33 (by kernel_rfl) A' Ai (m - a) (m - a) x.length ci rfl rfl w.heap.size a cur 5 HG2.out cs HMIN.out HP.out (by have := HCL.out; have := HCUL.out; omega) HONE.out w.heap.size w hB (Nat.le_refl _) ?_; intro w1 hg1 hb1)
          go_roundw
          case rel =>
            refine ⟨k + 1, a + x.length, by omega, by go_num, ?_, ?_, hs1, ?_, hb1⟩
            · have := HCL.out
              rw [this]; go_num
            · show a + x.length = _
              rw [List.take_succ_eq_append_getElem hlt, List.flatten_append, List.length_append, ← HA.out, HX.out]; simp
            · show _ = _
              rw [hg1.out]
              have e : splice cur a cs = nums .u8 ((ll.take (k + 1)).flatten ++ List.replicate (m - (a + x.length)) 0) := by
                rw [HCU.out, HCS.out]
                unfold splice
                rw [nums_append, List.take_append_of_le_length (by rw [nums_length, ← HA.out]; omega), List.take_of_length_le (by rw [nums_length, ← HA.out]; omega)]
                rw [List.drop_append, List.drop_of_length_le (by rw [nums_length, ← HA.out]; omega), List.nil_append, nums_length, nums_length, ← HA.out]
                rw [List.take_succ_eq_append_getElem hlt, List.flatten_append, nums_append, nums_append, ← HX.out]
                rw [List.append_assoc]
                congr 1
                simp [nums]
                omega
              rw [e]
          case measure => simp [intOf]; omega
        · obtain rfl : k = ll.length := by omega
          go_wp2
          go_ret
          have ea : a = m := by have := HA.out; rw [List.take_length] at this; rw [this, HM.out]
          refine ⟨_, rfl, Kd.R_of_own ⟨by rw [encs_length, Nat.mul_one], .inr ⟨w.heap.size, m, _, by rw [← HM.out]; rfl, Nat.le_refl _, HG.out, by rw [← HM.out]; omega, by unfold maxLen; omega, ?_, ?_⟩⟩ (fun _ _ => trivial), hB⟩
          · rw [List.size_toArray, nums_length, List.length_append, ← HA.out, List.length_replicate]; omega
          · rw [ea, Nat.sub_self, List.replicate_zero, List.append_nil, List.take_length, Nat.mul_one]
            show ((nums .u8 ll.flatten).toArray).toList.take _ = nums .u8 ll.flatten
            rw [List.take_of_length_le (by rw [nums_length]; exact Nat.le_refl _)]
end Go.Proofs.Ytfndajgmjkimgaa
