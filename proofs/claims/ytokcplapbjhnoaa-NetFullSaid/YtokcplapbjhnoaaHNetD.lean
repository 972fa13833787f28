/-
  NetFull: as much is on the way as there is room for; cut, nothing is let through, and all that is on the way is there yet. No condition.
-/
import Derived.Test.YtokcplapbjhnoaaHNt9
namespace Go.Proofs.Ytokcplapbjhnoaa
open Go.RowKit Go.Proofs.Ytokcplapbjhnoaa.Pr Go.Proofs.YtokcplapbjhnoaaW.PrintWords Go.Proofs.YtokcplapbjhnoaaW.PrintLast Go.Proofs.YtokcplapbjhnoaaW.PrintMore
attribute [local go_sem] max2_int min2_int max_two min_two max_three min_three max_four min_four
set_option linter.unusedVariables false
set_option linter.unusedSimpArgs false

def nrows (p : Nat) : List (List Int) := (List.range p).map (fun (i : Nat) => [(i : Int)])
theorem nrows_len (p : Nat) : (nrows p).length = p := by simp [nrows]
theorem nrows_succ (p : Nat) : nrows (p + 1) = nrows p ++ [[(p : Int)]] := by simp [nrows, List.range_succ]
theorem nrows_one (p : Nat) : ∀ b ∈ nrows p, b.length ≤ 1000 := by
  intro b hb
  obtain ⟨i, _, rfl⟩ := List.mem_map.1 hb
  simp
theorem nrows_at {p k : Nat} (h : k < p) : (nrows p).drop k = [(k : Int)] :: (nrows p).drop (k + 1) := by
  rw [List.drop_eq_getElem_cons (by rw [nrows_len]; exact h)]
  simp [nrows]
def nfill (room : Int) (k : Nat) : NtS := ⟨room, false, [], nrows (min k room.toNat)⟩
def ndone (room : Int) (k : Nat) : NtS := ⟨room, true, [], (nrows room.toNat).drop k⟩
theorem nfill_ok {room : Int} (h1 : 1 ≤ room) (h2 : room ≤ 1000) (k : Nat) : (nfill room k).ok := by
  refine ⟨h1, h2, ?_, ?_, fun b hb => (by cases hb), nrows_one _⟩
  · show ((0 : Nat) : Int) ≤ room
    omega
  · show ((nrows (min k room.toNat)).length : Int) ≤ room
    rw [nrows_len]; omega
theorem ndone_ok {room : Int} (h1 : 1 ≤ room) (h2 : room ≤ 1000) (k : Nat) : (ndone room k).ok := by
  refine ⟨h1, h2, ?_, ?_, fun b hb => (by cases hb), fun b hb => nrows_one _ b (List.mem_of_mem_drop hb)⟩
  · show ((0 : Nat) : Int) ≤ room
    omega
  · show (((nrows room.toNat).drop k).length : Int) ≤ room
    rw [List.length_drop, nrows_len]; omega
theorem nfill_in {room : Int} {k : Nat} (h : (k : Int) < room) : (nfill room k).put 1 [(k : Int)] = (0, nfill room (k + 1)) := by
  unfold NtS.put
  rw [if_neg (by decide), if_neg (by simp [nfill]), if_neg (by show ¬ room ≤ ((nrows (min k room.toNat)).length : Int); rw [nrows_len]; omega)]
  unfold nfill NtS.setWay NtS.way
  rw [if_neg (by decide), if_neg (by decide)]
  dsimp only
  rw [show min (k + 1) room.toNat = k + 1 from by omega, show min k room.toNat = k from by omega, nrows_succ]
theorem nfill_out {room : Int} {k : Nat} (h : room ≤ (k : Int)) (h1 : 1 ≤ room) (b : List Int) : (nfill room k).put 1 b = (3, nfill room (k + 1)) := by
  unfold NtS.put
  rw [if_neg (by decide), if_neg (by simp [nfill]), if_pos (by show room ≤ ((nrows (min k room.toNat)).length : Int); rw [nrows_len]; omega)]
  unfold nfill
  rw [show min (k + 1) room.toNat = min k room.toNat from by omega]
theorem nfill_cut {room : Int} {k : Nat} (h : room ≤ (k : Int)) : (nfill room k).setCut true = ndone room 0 := by
  unfold nfill ndone NtS.setCut
  rw [show min k room.toNat = room.toNat from by omega, List.drop_zero]
theorem ndone_copy {room : Int} (h1 : 1 ≤ room) : (ndone room 0).copy 1 0 = (3, ndone room 0) := by
  have hl : (((ndone room 0).way 1).length : Int) = room := by show (((nrows room.toNat).drop 0).length : Int) = room; rw [List.drop_zero, nrows_len]; omega
  have hp : (ndone room 0).place 1 0 = 0 := by
    unfold NtS.place
    rw [if_neg (by decide), if_neg (by omega)]
  unfold NtS.copy
  rw [if_pos hp, if_pos (by show room ≤ _; omega)]
theorem ndone_put {room : Int} (b : List Int) : (ndone room 0).put 0 b = (7, ndone room 0) := by
  unfold NtS.put
  rw [if_neg (by decide), if_pos (show (ndone room 0).cut = true from rfl)]
theorem ndone_at {room : Int} {k : Nat} (h : (k : Int) < room) : (ndone room k).place 1 0 = 0 ∧ (ndone room k).taken 1 0 = [(k : Int)] ∧ (ndone room k).take 1 0 = ndone room (k + 1) := by
  have e : (ndone room k).way 1 = [(k : Int)] :: (nrows room.toNat).drop (k + 1) := nrows_at (by omega)
  have hp : (ndone room k).place 1 0 = 0 := by
    unfold NtS.place
    rw [if_neg (by decide), if_neg (by rw [e]; simp)]
  refine ⟨hp, ?_, ?_⟩
  · unfold NtS.taken; rw [if_pos hp, e]; rfl
  · unfold NtS.take
    rw [if_pos hp, e]
    rfl
theorem ndone_end {room : Int} {k : Nat} (h : room ≤ (k : Int)) : (ndone room k).setCut false = ⟨room, false, [], []⟩ := by
  unfold ndone NtS.setCut
  rw [List.drop_of_length_le (by rw [nrows_len]; omega)]
theorem nend_put {room : Int} (h : 1 ≤ room) : (⟨room, false, [], []⟩ : NtS).put 0 [] = (0, ⟨room, false, [[]], []⟩) := by
  unfold NtS.put
  rw [if_neg (by decide), if_neg (by simp), if_neg (by show ¬ room ≤ ((0 : Nat) : Int); omega)]
  rfl
theorem nend_ok {room : Int} (h1 : 1 ≤ room) (h2 : room ≤ 1000) : (⟨room, false, [], []⟩ : NtS).ok := NtS.ok_new h1 h2
theorem nend_ok2 {room : Int} (h1 : 1 ≤ room) (h2 : room ≤ 1000) : (⟨room, false, [[]], []⟩ : NtS).ok := by
  refine ⟨h1, h2, ?_, ?_, fun b hb => (by rw [List.mem_singleton.1 hb]; simp), fun b hb => (by cases hb)⟩
  · show ((1 : Nat) : Int) ≤ room
    omega
  · show ((0 : Nat) : Int) ≤ room
    omega
theorem nend_place {room : Int} : (⟨room, false, [[]], []⟩ : NtS).place 1 0 = 4 := rfl
theorem nend_take {room : Int} : (⟨room, false, [[]], []⟩ : NtS).take 1 0 = ⟨room, false, [[]], []⟩ := rfl
theorem nend_len {room : Int} : (⟨room, false, [[]], []⟩ : NtS).len 0 = 1 := rfl
theorem u8_w {n : Int} (h0 : 0 ≤ n) (h1 : n ≤ 255) : IntKind.u8.wrap n = n := by rw [IntKind.wrap_u8]; omega
theorem C_nil (w : World) (k : IntKind) : (Kd.int k).C w none ([] : List Int).length [] := ⟨rfl, by decide, fun h => by simp at h⟩
theorem at_one {w : World} {A : Option Addr} {m c : Nat} {x : Int} (h : (Kd.int .u8).R 5 w 0 (fun _ => True) (.slice A m c) [x]) : ∃ ad, A = some ad ∧ m = 1 ∧ w.cell? ad = some (.int .u8 x) := by
  obtain ⟨hm, _, hC⟩ := Kd.R_reads' h
  obtain ⟨ad, rfl, hc⟩ := Kd.at_int hC 0 (by omega) (by simp)
  exact ⟨ad, rfl, hm, by simpa [rd, Addr.add] using hc⟩

set_option maxHeartbeats 8000000 in
set_option maxRecDepth 100000 in
theorem NetFull_calls (room more : Int) (w : World) (b1 : -9223372036854775808 ≤ more) (b2 : more ≤ 9223372036854775807) :
    Calls Try.prog 3 #[.int .i64 room, .int .i64 more] w fun e w' => e = .returned (.bool true) ∧ Below w.heap.size w w' := by
  go_enter Try.func3, Try.ntmps3
  go_wp2_with (go_at_call 7; refine (nawake_calls _).mono ?_; rintro e w1 ⟨rfl, b1⟩; have B1 := Lib.hid b1; clear b1)
  by_cases hroom : 1 ≤ room ∧ room ≤ 1000
  · obtain ⟨h1, h2⟩ := hroom
    refine (net_New_ok room _ h1 h2).mono ?_
    rintro e w3 ⟨rfl, rfl⟩
    by_cases hs : room > 60 ∨ more < 0 ∨ more > 60
    · have B2 := Lib.hid (below_alloc B1.out (.cells #[.int .i64 room, .bool false, .slice none 0 0, .slice none 0 0] 49))
      by_cases c1 : room > 60
      · go_wp2_with fail
        go_ret
        exact ⟨rfl, B2.out⟩
      · by_cases c2 : more < 0
        · go_wp2_with fail
          go_ret
          exact ⟨rfl, B2.out⟩
        · have c3 : more > 60 := by omega
          go_wp2_with fail
          go_ret
          exact ⟨rfl, B2.out⟩
    · have c1 : ¬ room > 60 := by omega
      have c2 : ¬ more < 0 := by omega
      have c3 : ¬ more > 60 := by omega
      clear hs
      obtain ⟨g, hg⟩ : ∃ g, w1.heap.size = g := ⟨_, rfl⟩
      obtain ⟨W3, hW3⟩ : ∃ W3, w1.alloc (.cells #[.int .i64 room, .bool false, .slice none 0 0, .slice none 0 0] 49) = W3 := ⟨_, rfl⟩
      have D3 := NtAt.new' 49 5 28 room w1 W3 g hg hW3
      have b3 := below_alloc B1.out (.cells #[.int .i64 room, .bool false, .slice none 0 0, .slice none 0 0] 49)
      rw [hW3] at b3
      rw [hW3, hg]
      have GG : Hid (∀ k, (fun k => k = g) k → w.heap.size ≤ k) := fun k hk => by have e1 : k = g := hk; have := B1.out.size; omega
      have DD := Lib.hid D3
      have B3 := Lib.hid b3
      clear hg hW3 D3 b3 B1
      have sum : IntKind.i64.wrap (room + more) = room + more := IntWalk.i64_in _ (by omega)
      go_wp2_with fail
      go_loopw [8] (fun i wr => ∃ (k : Nat) (O : Nat → Prop), (k : Int) ≤ room + more ∧ i = .int .i64 k ∧ Hid (NN wr g O (nfill room k)) ∧ Hid (Below w.heap.size w wr ∧ ∀ k, O k → w.heap.size ≤ k)) (fun i _ => (room + more).toNat - (intOf i).toNat)
      case atStart => exact ⟨0, _, by omega, rfl, by simpa [nfill, nrows, NtS.new] using DD, B3.out, GG.out⟩
      case round =>
        clear DD B3 GG
        obtain ⟨k, O, hk, rfl, HN, HX⟩ := hrel
        by_cases hlt : (k : Int) < room + more
        · have wu : IntKind.u8.wrap (k : Int) = (k : Int) := u8_w (by omega) (by omega)
          have OKK := Lib.hid (nfill_ok h1 h2 k)
          by_cases hin : (k : Int) < room
          · have E := Lib.hid (nfill_in hin)
            go_wp2_with fail
            refine (net_Put g O (nfill room k) 1 _ 1 [(k : Int)] _ (HN.out.below (below_alloc (Below.refl _ _) _)) OKK.out (C_new _ _ (by first | rfl | simp) _ _ #[.int .u8 (k : Int)] rfl (by simp)) (by simp) (by simp)).mono ?_
            rw [E.out]
            rintro e wa ⟨O1, rfl, ha, fa⟩
            have HA := Lib.hid ha
            have HY := Lib.hid (fa.out (below_alloc HX.out.1 _) HX.out.2)
            clear ha fa
            go_wp2_with fail
            go_roundw
            case rel => exact ⟨k + 1, O1, by omega, by go_num, HA, HY⟩
            case measure => simp [intOf]; omega
          · have E := Lib.hid (nfill_out (show room ≤ (k : Int) from by omega) h1 [(k : Int)])
            go_wp2_with fail
            refine (net_Put g O (nfill room k) 1 _ 1 [(k : Int)] _ (HN.out.below (below_alloc (Below.refl _ _) _)) OKK.out (C_new _ _ (by first | rfl | simp) _ _ #[.int .u8 (k : Int)] rfl (by simp)) (by simp) (by simp)).mono ?_
            rw [E.out]
            rintro e wa ⟨O1, rfl, ha, fa⟩
            have HA := Lib.hid ha
            have HY := Lib.hid (fa.out (below_alloc HX.out.1 _) HX.out.2)
            clear ha fa
            go_wp2_with fail
            go_roundw
            case rel => exact ⟨k + 1, O1, by omega, by go_num, HA, HY⟩
            case measure => simp [intOf]; omega
        · go_wp2_with fail
          refine (net_Cut g O (nfill room k) true _ HN.out).mono ?_
          rw [nfill_cut (show room ≤ (k : Int) from by omega)]
          rintro e wa ⟨rfl, ha, fa⟩
          have HA := Lib.hid ha
          have HY := Lib.hid (fa.out HX.out.1 HX.out.2)
          clear ha fa
          go_wp2_with fail
          refine (net_Copy g O (ndone room 0) 1 0 _ HA.out (ndone_ok h1 h2 0)).mono ?_
          rw [ndone_copy h1]
          rintro e wb ⟨Ob, rfl, hb, fb⟩
          have HB := Lib.hid hb
          have HZ := Lib.hid (fb.out HY.out.1 HY.out.2)
          clear hb fb
          go_wp2_with fail
          refine (net_Put g Ob (ndone room 0) 0 none 0 [] _ HB.out (ndone_ok h1 h2 0) (C_nil _ _) (by decide) (by decide)).mono ?_
          rw [ndone_put]
          rintro e wc ⟨Oc, rfl, hc, fc⟩
          have HC := Lib.hid hc
          have HQ := Lib.hid (fc.out HZ.out.1 HZ.out.2)
          clear hc fc HN HX HA HY HB HZ
          go_wp2_with fail
          go_loopw [12] (fun i wr => ∃ (k : Nat) (O : Nat → Prop), (k : Int) ≤ room ∧ i = .int .i64 k ∧ Hid (NN wr g O (ndone room k)) ∧ Hid (Below w.heap.size w wr ∧ ∀ k, O k → w.heap.size ≤ k)) (fun i _ => room.toNat - (intOf i).toNat)
          case atStart => exact ⟨0, Oc, by omega, rfl, HC, HQ⟩
          case round =>
            clear HC HQ
            obtain ⟨j, O, hj, rfl, HN, HX⟩ := hrel
            by_cases hlt : (j : Int) < room
            · have wu : IntKind.u8.wrap (j : Int) = (j : Int) := u8_w (by omega) (by omega)
              obtain ⟨q1, q2, q3⟩ := ndone_at hlt
              go_wp2_with fail
              refine (net_Take g O (ndone room j) 1 0 _ HN.out (ndone_ok h1 h2 j)).mono ?_
              rw [q1, q2, q3]
              clear q1 q2 q3
              rintro e wa ⟨O1, vo, rfl, ro, ha, fa⟩
              obtain ⟨Ao, co, rfl⟩ := Kd.R_slice ro
              obtain ⟨ad, rfl, hm, hx⟩ := at_one ro
              have HA := Lib.hid ha
              have HY := Lib.hid (fa.out HX.out.1 HX.out.2)
              clear ha fa ro hm
              go_wp2_with fail
              go_roundw
              case rel => exact ⟨j + 1, O1, by omega, by go_num, HA, HY⟩
              case measure => simp [intOf]; omega
            · go_wp2_with fail
              refine (net_Cut g O (ndone room j) false _ HN.out).mono ?_
              rw [ndone_end (show room ≤ (j : Int) from by omega)]
              rintro e wa ⟨rfl, ha, fa⟩
              have HA := Lib.hid ha
              have HY := Lib.hid (fa.out HX.out.1 HX.out.2)
              clear ha fa
              go_wp2_with fail
              refine (net_Put g O _ 0 none 0 [] _ HA.out (nend_ok h1 h2) (C_nil _ _) (by decide) (by decide)).mono ?_
              rw [nend_put h1]
              rintro e wb ⟨Ob, rfl, hb, fb⟩
              have HB := Lib.hid hb
              have HZ := Lib.hid (fb.out HY.out.1 HY.out.2)
              clear hb fb
              go_wp2_with fail
              refine (net_Take g Ob _ 1 0 _ HB.out (nend_ok2 h1 h2)).mono ?_
              rw [nend_place, nend_take]
              rintro e wc ⟨Oc, vo, rfl, ro, hc, fc⟩
              obtain ⟨Ao, co, mo, rfl, _⟩ := R_slice_n ro
              have HC := Lib.hid hc
              have HQ := Lib.hid (fc.out HZ.out.1 HZ.out.2)
              clear hc fc ro
              go_wp2_with (first
                | (go_at_call 13; refine (net_Len g Oc _ 0 _ HC.out).mono ?_; rw [nend_len]; rintro e wd ⟨rfl, hw⟩; obtain rfl := hw.symm)
                | fail)
              go_ret
              exact ⟨rfl, HQ.out.1⟩
  · have H1 : Hid (room < 1 ∨ 1000 < room) := by show _ ∨ _; omega
    clear hroom
    refine (net_New_no room _ H1.out).mono ?_
    rintro e w3 ⟨rfl, rfl⟩
    go_wp2_with fail
    go_ret
    exact ⟨rfl, B1.out⟩

def lessorlaw22_NetFull.f (a0 a1 : Int) : Option Bool := if -9223372036854775808 ≤ a1 ∧ a1 ≤ 9223372036854775807 then some true else none
theorem lessorlaw22_NetFull.calls (a0 a1 : Int) (r : Bool) (w : World) (h : lessorlaw22_NetFull.f a0 a1 = some r) :
    Calls Try.prog 3 #[.int .i64 a0, .int .i64 a1] w fun e w' => e = .returned (.bool r) ∧ Below w.heap.size w w' := by
  unfold lessorlaw22_NetFull.f at h
  split at h
  case isFalse => cases h
  rename_i hc
  obtain rfl : true = r := Option.some.inj h
  exact NetFull_calls a0 a1 w hc.1 hc.2

end Go.Proofs.Ytokcplapbjhnoaa
