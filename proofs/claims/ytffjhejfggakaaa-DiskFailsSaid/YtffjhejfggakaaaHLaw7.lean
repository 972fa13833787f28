/-
  DiskFails: as many changes are made as was said, then none, till a crash. No condition.
-/
import Derived.Test.YtffjhejfggakaaaHLaw2
namespace Go.Proofs.Ytffjhejfggakaaa
open Go.RowKit Go.Proofs.Ytffjhejfggakaaa.Pr Go.Proofs.YtffjhejfggakaaaW.PrintWords Go.Proofs.YtffjhejfggakaaaW.PrintLast Go.Proofs.YtffjhejfggakaaaW.PrintMore
attribute [local go_sem] max2_int min2_int max_two min_two max_three min_three max_four min_four
set_option linter.unusedVariables false
set_option linter.unusedSimpArgs false

/-- The disk behind so many changes of one byte, 'n' of which may be. -/
def afterF (n i : Nat) : DkS := ⟨1000, List.replicate (min i n) 7, 0, ((n - min i n : Nat) : Int)⟩
theorem afterF_ok {n : Nat} (hn : n ≤ 50) (i : Nat) : (afterF n i).ok := by
  refine ⟨(by show (1 : Int) ≤ 1000; omega), (by show (1000 : Int) ≤ 1048576; omega), ?_, (by show (0 : Int) ≤ 0; omega), ?_, ?_, ?_, ?_⟩
  · show ((List.replicate (min i n) (7 : Int)).length : Int) ≤ 1000
    rw [List.length_replicate]; omega
  · show (0 : Int) ≤ ((List.replicate (min i n) (7 : Int)).length : Int)
    omega
  · show (-1 : Int) ≤ ((n - min i n : Nat) : Int); omega
  · show ((n - min i n : Nat) : Int) ≤ 9223372036854775807; omega
  · intro x hx
    have : x = 7 := (List.mem_replicate.1 hx).2
    omega
theorem afterF_zero (n : Nat) : (DkS.new 1000).fail n = afterF n 0 := by
  simp [DkS.fail, DkS.new, afterF]
theorem afterF_lt {n i : Nat} (h : i < n) (hn : n ≤ 50) : (afterF n i).append [7] = (0, afterF n (i + 1)) := by
  have e1 : min i n = i := Nat.min_eq_left (by omega)
  have e2 : min (i + 1) n = i + 1 := Nat.min_eq_left (by omega)
  unfold DkS.append DkS.count afterF
  simp only [e1, e2, List.length_replicate, List.length_singleton]
  rw [if_neg (by omega), if_neg (by omega), if_pos (by omega)]
  congr 1
  rw [List.replicate_succ']
  congr 1
  omega
theorem afterF_ge {n i : Nat} (h : n ≤ i) : (afterF n i).append [7] = (7, afterF n (i + 1)) := by
  have e1 : min i n = n := Nat.min_eq_right (by omega)
  have e2 : min (i + 1) n = n := Nat.min_eq_right (by omega)
  unfold DkS.append afterF
  simp only [e1, e2, Nat.sub_self]
  rw [if_pos (by rfl)]
theorem afterF_crash {n m : Nat} (hn : n ≤ 50) : ((afterF n (n + m)).crash n) = ⟨1000, List.replicate n 7, n, -1⟩ := by
  have e1 : min (n + m) n = n := Nat.min_eq_right (by omega)
  unfold DkS.crash DkS.crashed afterF
  simp only [e1, List.length_replicate]
  rw [if_neg (by omega), if_neg (by omega)]
  have : ((0 : Int) + (n : Int)).toNat = n := by omega
  rw [this, List.take_of_length_le (by rw [List.length_replicate]; exact Nat.le_refl _), List.length_replicate]
def endF (n : Nat) : DkS := ⟨1000, List.replicate n 7, n, -1⟩
theorem endF_ok {n : Nat} (hn : n ≤ 50) : (endF n).ok := by
  have := DkS.ok_crash (afterF_ok hn (n + 0)) n
  rw [afterF_crash hn] at this
  exact this
theorem endF_sync (n : Nat) : (endF n).sync = (0, endF n) := by
  unfold DkS.sync DkS.count endF
  simp

set_option maxHeartbeats 8000000 in
set_option maxRecDepth 100000 in
theorem DiskFails_calls (a m : Int) (w : World) (h1 : -9223372036854775808 ≤ a) (h2 : a ≤ 9223372036854775807) (h3 : -9223372036854775808 ≤ m) (h4 : m ≤ 9223372036854775807) :
    Calls Try.prog 3 #[.int .i64 a, .int .i64 m] w fun e w' => e = .returned (.bool true) ∧ Below w.heap.size w w' := by
  go_enter Try.func3, Try.ntmps3
  go_wp2_with (go_at_call 8; refine (awake_calls _).mono ?_; rintro e w1 ⟨rfl, b1⟩; have B1 := Lib.hid b1; clear b1)
  refine (disk_New_ok 1000 _ (by decide) (by decide)).mono ?_
  rintro e w2 ⟨rfl, rfl⟩
  have B3 : Hid (∀ o, Below w.heap.size w (w1.alloc o)) := fun o => below_alloc B1.out o
  by_cases c1 : a < 0
  · go_wp2_with fail
    go_ret
    exact ⟨rfl, B3.out _⟩
  by_cases c2 : 50 < a
  · go_wp2_with fail
    go_ret
    exact ⟨rfl, B3.out _⟩
  by_cases c3 : m < 0
  · go_wp2_with fail
    go_ret
    exact ⟨rfl, B3.out _⟩
  by_cases c4 : 50 < m
  · go_wp2_with fail
    go_ret
    exact ⟨rfl, B3.out _⟩
  obtain ⟨n, rfl⟩ : ∃ n : Nat, a = n := ⟨a.toNat, by omega⟩
  obtain ⟨j, rfl⟩ : ∃ j : Nat, m = j := ⟨m.toNat, by omega⟩
  have hn : n ≤ 50 := by omega
  have hj : j ≤ 50 := by omega
  have hge : w.heap.size ≤ w1.heap.size := B1.out.size
  go_wp2_with fail
  have hD := new_at 48 5 1000 w1
  have hB := B3.out (.cells #[.int .i64 1000, .slice none 0 0, .int .i64 0, .int .i64 (-1)] 48)
  obtain ⟨g, hg⟩ : ∃ g, w1.heap.size = g := ⟨_, rfl⟩
  obtain ⟨W2, hW2⟩ : ∃ W2, w1.alloc (.cells #[.int .i64 1000, .slice none 0 0, .int .i64 0, .int .i64 (-1)] 48) = W2 := ⟨_, rfl⟩
  rw [hg, hW2] at hD
  rw [hW2] at hB
  rw [hg, hW2]
  have GE : Hid (w.heap.size ≤ g) := by show _ ≤ _; omega
  have HD := Lib.hid hD
  have HB := Lib.hid hB
  clear hg hW2 hD hB hge B3 c1 c2 c3 c4
  refine (disk_Fail g _ n _ HD.out).mono ?_
  rw [afterF_zero]
  rintro e w3 ⟨rfl, h3', f3⟩
  have H3 := Lib.hid h3'
  have W3 := Lib.hid (below_fr HB.out f3 HB.out.size (fun i hi => by rw [hi]; exact GE.out))
  clear h3' f3 h1 h2 h3 h4
  go_wp2_with fail
  go_loopw [8] (fun i wr => ∃ k : Nat, k ≤ n + j ∧ i = .int .i64 k ∧ Hid (DK wr g (afterF n k)) ∧ Hid (Below w.heap.size w wr)) (fun i _ => n + j - (intOf i).toNat)
  case atStart => exact ⟨0, Nat.zero_le _, rfl, H3, W3⟩
  case round =>
    obtain ⟨k, hk, rfl, HK, HW⟩ := hrel
    by_cases hlt : k < n + j
    · by_cases hkn : k < n
      · have E := Lib.hid (afterF_lt hkn hn)
        have t1 : decide ((k : Int) < (n : Int)) = true := decide_eq_true (by omega)
        go_wp2_with fail
        refine (disk_Append g (afterF n k) _ 1 [7] _ (HK.out.alloc _) (afterF_ok hn k) (C_new _ _ (by simp) _ _ #[.int .u8 7] rfl (by decide)) (by decide) (by decide)).mono ?_
        rw [E.out]
        rintro e w5 ⟨rfl, h5, f5⟩
        have H5 := Lib.hid h5
        have W5 := Lib.hid (below_fr (below_alloc HW.out _) f5 (by have := HW.out.size; simp; omega) (fun i hi => by rw [hi]; exact GE.out))
        clear h5 f5
        go_wp2_with fail
        go_roundw
        case rel => exact ⟨k + 1, by omega, by go_num, H5, W5⟩
        case measure => simp [intOf]; omega
      · have E := Lib.hid (afterF_ge (n := n) (i := k) (by omega))
        have t1 : decide ((k : Int) < (n : Int)) = false := decide_eq_false (by omega)
        go_wp2_with fail
        refine (disk_Append g (afterF n k) _ 1 [7] _ (HK.out.alloc _) (afterF_ok hn k) (C_new _ _ (by simp) _ _ #[.int .u8 7] rfl (by decide)) (by decide) (by decide)).mono ?_
        rw [E.out]
        rintro e w5 ⟨rfl, h5, f5⟩
        have H5 := Lib.hid h5
        have W5 := Lib.hid (below_fr (below_alloc HW.out _) f5 (by have := HW.out.size; simp; omega) (fun i hi => by rw [hi]; exact GE.out))
        clear h5 f5
        go_wp2_with fail
        go_roundw
        case rel => exact ⟨k + 1, by omega, by go_num, H5, W5⟩
        case measure => simp [intOf]; omega
    · obtain rfl : k = n + j := by omega
      have EC := Lib.hid (afterF_crash (m := j) hn)
      go_wp2_with fail
      refine (disk_Crash g _ n _ HK.out (afterF_ok hn _)).mono ?_
      rw [EC.out]
      rintro e w6 ⟨rfl, h6, f6⟩
      have H6 : Hid (DK w6 g (endF n)) := h6
      have W6 := Lib.hid (below_fr HW.out f6 HW.out.size (fun i hi => by rw [hi]; exact GE.out))
      clear h6 f6
      go_wp2_with fail
      refine (disk_Sync g (endF n) _ H6.out (endF_ok hn)).mono ?_
      rw [endF_sync]
      rintro e w7 ⟨rfl, h7, f7⟩
      have H7 := Lib.hid h7
      have W7 := Lib.hid (below_fr W6.out f7 W6.out.size (fun i hi => by rw [hi]; exact GE.out))
      clear h7 f7
      go_wp2_with fail
      refine (disk_Read g (endF n) _ H7.out (by show (List.replicate n (7 : Int)).length ≤ _; rw [List.length_replicate]; omega)).mono ?_
      rintro e w8 ⟨v, rfl, hv, hb⟩
      obtain ⟨A8, c8, rfl, hc8, hC8⟩ := Kd.R_reads hv
      have W8 := Lib.hid (W7.out.trans (hb.mono W7.out.size))
      have hlen : (endF n).b.length = n := List.length_replicate ..
      rw [hlen]
      clear hv hb hc8 hC8 hlen
      go_wp2_with fail
      go_ret
      exact ⟨rfl, W8.out⟩

def lessorlaw08_DiskFails.f (a0 a1 : Int) : Option Bool := if (-9223372036854775808 ≤ a0 ∧ a0 ≤ 9223372036854775807) ∧ (-9223372036854775808 ≤ a1 ∧ a1 ≤ 9223372036854775807) then some true else none
theorem lessorlaw08_DiskFails.calls (a0 a1 : Int) (r : Bool) (w : World) (h : lessorlaw08_DiskFails.f a0 a1 = some r) :
    Calls Try.prog 3 #[.int .i64 a0, .int .i64 a1] w fun e w' => e = .returned (.bool r) ∧ Below w.heap.size w w' := by
  unfold lessorlaw08_DiskFails.f at h
  split at h
  case isFalse => cases h
  rename_i hc
  obtain rfl : true = r := Option.some.inj h
  exact DiskFails_calls a0 a1 w hc.1.1 hc.1.2 hc.2.1 hc.2.2
end Go.Proofs.Ytffjhejfggakaaa
