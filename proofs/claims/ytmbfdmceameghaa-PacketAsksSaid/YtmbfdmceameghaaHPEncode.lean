/-
  packet.Encode: a packet as bytes.
-/
import Derived.Lib.Hide
import Derived.Deep.DeepCutAuto
import Derived.Deep.CutBlock
import Derived.Laws.BitsLemmas
import Derived.Test.YtmbfdmceameghaaPrF10
import Derived.Test.YtmbfdmceameghaaPrF21
import Derived.Test.YtmbfdmceameghaaPrF22
import Derived.Test.YtmbfdmceameghaaPrF23
namespace Go.Proofs.Ytmbfdmceameghaa
open Go.RowKit Go.Proofs.Ytmbfdmceameghaa.Pr Go.Proofs.YtmbfdmceameghaaW.PrintWords Go.Proofs.YtmbfdmceameghaaW.PrintLast Go.Proofs.YtmbfdmceameghaaW.PrintMore
set_option linter.unusedVariables false
set_option linter.unusedSimpArgs false

/-! ### what it computes -/
def pk2 (n : Int) : List Int := [n / 256 % 256, n % 256]
def pk4 (a : Int) : List Int := pk2 (a / 65536) ++ pk2 (a % 65536)
theorem short_eq (xs : List Int) (n : Int) (hl : xs.length < 1099511627776) : packet_short.f xs n = some (xs ++ pk2 n) := by
  unfold packet_short.f
  simp only [Option.bind_some]
  rw [if_pos (by simp; omega)]
  rfl
theorem and16 (a : Int) (h0 : 0 ≤ a) (h1 : a < 4294967296) : Go.bits .and .u32 a 65535 = a % 65536 :=
  bits_mask .u32 32 (by decide) (fun n h0 h1 => by rw [IntKind.wrap_u32]; omega) 16 (by decide) a h0 (by omega)
theorem long_eq (xs : List Int) (a : Int) (h0 : 0 ≤ a) (h1 : a < 4294967296) (hl : xs.length < 1000000000000) : packet_long.f xs a = some (xs ++ pk4 a) := by
  unfold packet_long.f
  have e1 : wrap64 (a / 65536) = a / 65536 := by unfold wrap64; omega
  have e2 : wrap64 (Go.bits .and .u32 a 65535) = a % 65536 := by rw [and16 a h0 h1]; unfold wrap64; omega
  rw [e1, e2, short_eq xs _ (by omega)]
  simp only [Option.bind_some]
  rw [short_eq _ _ (by simp [pk2]; omega)]
  unfold pk4
  rw [List.append_assoc]
  rfl
def pkA (a0 a1 : Int) (l8 : List Int) : List Int := [a0 % 256, 1, (l8.length : Int) % 256, 0] ++ pk4 a1
def pkB (a0 a1 a2 a3 : Int) (l8 : List Int) : List Int := pkA a0 a1 l8 ++ pk2 a2 ++ pk2 a3
def pkC (a4 a5 a6 a7 : Int) (i : Nat) : List Int := (([a4, a5, a6, a7].take i).map pk4).flatten
def pkHead (a0 a1 a2 a3 a4 a5 a6 a7 : Int) (l8 : List Int) : List Int :=
  pkB a0 a1 a2 a3 l8 ++ pkC a4 a5 a6 a7 4 ++ l8 ++ List.replicate (208 - l8.length) 0 ++ pk4 1669485411
def pkOk (a1 a4 a5 a6 a7 : Int) : Prop := (0 ≤ a1 ∧ a1 < 4294967296) ∧ (0 ≤ a4 ∧ a4 < 4294967296) ∧ (0 ≤ a5 ∧ a5 < 4294967296) ∧ (0 ≤ a6 ∧ a6 < 4294967296) ∧ (0 ≤ a7 ∧ a7 < 4294967296)
instance (a1 a4 a5 a6 a7 : Int) : Decidable (pkOk a1 a4 a5 a6 a7) := by unfold pkOk; infer_instance
abbrev OptP := S42
def packet_Encode.f (k : Nat) (a0 a1 a2 a3 a4 a5 a6 a7 : Int) (l8 : List Int) (l9 : List OptP) : Option (List Int × Int) :=
  (packet_Right.f k a0 a1 a2 a3 a4 a5 a6 a7 l8 l9).bind fun t => if t = true then ((option_Encode.f k l9).bind fun r => if r.1.length ≤ 1099511627776 ∧ l8.length ≤ 16 ∧ pkOk a1 a4 a5 a6 a7 then some (pkHead a0 a1 a2 a3 a4 a5 a6 a7 l8 ++ r.1, 0) else none) else some ([], 1)
theorem packet_Encode.mono : ∀ a0 a1 a2 a3 a4 a5 a6 a7 l8 l9 k, LeO (packet_Encode.f k a0 a1 a2 a3 a4 a5 a6 a7 l8 l9) (packet_Encode.f (k + 1) a0 a1 a2 a3 a4 a5 a6 a7 l8 l9) := by
  intro a0 a1 a2 a3 a4 a5 a6 a7 l8 l9 k
  unfold packet_Encode.f
  refine LeO.bind (packet_Right.mono _ _ _ _ _ _ _ _ _ _ k) (fun t => ?_)
  refine LeO.ite ?_ (LeO.refl _)
  exact LeO.bind (option_Encode.mono _ k) (fun _ => LeO.refl _)
theorem pk4_len (a : Int) : (pk4 a).length = 4 := rfl
theorem pkC_len (a4 a5 a6 a7 : Int) (i : Nat) : (pkC a4 a5 a6 a7 i).length ≤ 16 := by
  have : i = 0 ∨ i = 1 ∨ i = 2 ∨ i = 3 ∨ 4 ≤ i := by omega
  rcases this with rfl | rfl | rfl | rfl | h
  · simp [pkC]
  · simp [pkC, pk4_len]
  · simp [pkC, pk4_len]
  · simp [pkC, pk4_len]
  · unfold pkC; rw [List.take_of_length_le (by simpa using h)]; simp [pk4_len]

/-! ### the numbers put behind a row of the walk's own, the packet's block apart -/
section
variable {gp : Nat} {cs : Array Value} {w w1 : World} {v : Value} {xs : List Int}
theorem longK (a : Int) (h0 : 0 ≤ a) (h1 : a < 4294967296) (hl : xs.length < 1000000000000) (HB : Below w.heap.size w w1) (HO : Kd.R (Kd.int .u8) 5 w1 w.heap.size (fun _ => True) v xs) (BK : w1.heap[gp]? = some (.cells cs 27 (0, 0))) :
    Calls Try.prog 21 #[v, .int .u32 a] w1 fun e w2 => ∃ v2, e = .returned v2 ∧ Kd.R (Kd.int .u8) 5 w2 w.heap.size (fun _ => True) v2 (xs ++ pk4 a) ∧ w2.heap[gp]? = some (.cells cs 27 (0, 0)) ∧ Below w.heap.size w w2 := by
  refine (packet_long.calls (fun k => k ≠ gp) v xs a _ w w1 HB (Kd.R_mono (Kd.R_far1 HO rfl (Kd.R_ne HO BK (by decide))) (fun k hk => hk.2)) (long_eq xs a h0 h1 hl)).mono ?_
  rintro e w2 ⟨v2, rfl, ho, hb, hk⟩
  exact ⟨v2, rfl, Kd.R_mono ho (fun _ _ => trivial), (hk.2 gp (blk_lt BK) (by simp)).trans BK, hb⟩
theorem shortK (a : Int) (hl : xs.length < 1000000000000) (HB : Below w.heap.size w w1) (HO : Kd.R (Kd.int .u8) 5 w1 w.heap.size (fun _ => True) v xs) (BK : w1.heap[gp]? = some (.cells cs 27 (0, 0))) :
    Calls Try.prog 22 #[v, .int .i64 a] w1 fun e w2 => ∃ v2, e = .returned v2 ∧ Kd.R (Kd.int .u8) 5 w2 w.heap.size (fun _ => True) v2 (xs ++ pk2 a) ∧ w2.heap[gp]? = some (.cells cs 27 (0, 0)) ∧ Below w.heap.size w w2 := by
  refine (packet_short.calls (fun k => k ≠ gp) v xs a _ w w1 HB (Kd.R_mono (Kd.R_far1 HO rfl (Kd.R_ne HO BK (by decide))) (fun k hk => hk.2)) (short_eq xs a (by omega))).mono ?_
  rintro e w2 ⟨v2, rfl, ho, hb, hk⟩
  exact ⟨v2, rfl, Kd.R_mono ho (fun _ _ => trivial), (hk.2 gp (blk_lt BK) (by simp)).trans BK, hb⟩
end
/-- The i-th of an array value of four. -/
theorem idx4 (a b c d : Int) (i : Nat) (hi : i < 4) (W : World) : (Instr.index 46 (.agg #[.int .u32 a, .int .u32 b, .int .u32 c, .int .u32 d]) (.int .i64 (i : Int))).run Try.prog W = .ok (.int .u32 (([a, b, c, d] : List Int).getD i 0)) W := by
  have hu : Try.prog.underlying 46 = some (.array 4 23) := by kernel_rfl
  have hs : (Try.prog.info? 23).map (fun i => (i.size, i.zero)) = some (1, some (.int .u32 0)) := by kernel_rfl
  obtain ⟨i0, h0, h1⟩ := Option.map_eq_some_iff.1 hs
  simp only [Prod.mk.injEq] at h1
  obtain rfl | rfl | rfl | rfl : i = 0 ∨ i = 1 ∨ i = 2 ∨ i = 3 := by omega
  all_goals simp [Instr.index, asIntOf, run_underlying hu, sizeOf, part, typeInfo, h0, h1.1, h1.2]
set_option maxHeartbeats 1000000 in
set_option maxRecDepth 100000 in
theorem packet_Encode.calls (k : Nat) (a0 a1 a2 a3 a4 a5 a6 a7 : Int) (A8 : Option Addr) (c8 : Nat) (l8 : List Int) (A9 : Option Addr) (c9 : Nat) (l9 : List OptP) (r1 : List Int) (r2 : Int) (w : World) (hr8 : Kd.C (Kd.int .u8) w A8 l8.length l8) (hc8 : l8.length ≤ c8) (hr9 : Kd.C k42 w A9 l9.length l9) (hc9 : l9.length ≤ c9) (h : packet_Encode.f k a0 a1 a2 a3 a4 a5 a6 a7 l8 l9 = some (r1, r2)) :
    Calls Try.prog 8 #[.agg #[.int .i64 a0, .int .u32 a1, .int .i64 a2, .int .i64 a3, .int .u32 a4, .int .u32 a5, .int .u32 a6, .int .u32 a7, .slice A8 l8.length c8, .slice A9 l9.length c9]] w fun e w' => ∃ v0_ : Value, e = .returned (.tuple #[v0_, .int .i64 r2]) ∧ Kd.R (Kd.int .u8) 5 w' w.heap.size (fun _ => True) v0_ r1 ∧ Below w.heap.size w w' := by
  have hu27 := Try.underlying27
  have HR8 := Aside0.mk hr8
  have HC8 := Aside0.mk hc8
  have HR9 := Aside0.mk hr9
  have HC9 := Aside0.mk hc9
  clear hr8 hc8 hr9 hc9
  have HB := Aside0.mk (Below.refl w.heap.size w)
  unfold packet_Encode.f at h
  obtain ⟨t, ht, h⟩ := Option.bind_eq_some_iff.mp h
  have HT := Aside0.mk ht
  clear ht
  cases t with
  | false =>
    rw [if_neg (by decide)] at h
    obtain ⟨rfl, rfl⟩ := Prod.mk.inj (Option.some.inj h)
    clear h
    go_enter Try.func8, Try.ntmps8
    go_wp2_with (first
      | (go_at_call 10; (with_reducible refine (packet_Right.calls k a0 a1 a2 a3 a4 a5 a6 a7 _ _ l8 _ _ l9 false _ ?s1 ?s2 ?s3 ?s4 HT.out).mono ?_); (case s1 => exact Kd.C_alloc HR8.out _); (case s2 => exact HC8.out); (case s3 => exact Kd.C_alloc HR9.out _); (case s4 => exact HC9.out); rintro e w2 ⟨rfl, hb⟩; have n1_ := Aside0.mk (below_step (below_alloc HB.out _) hb); clear hb HB; have HB := n1_; clear n1_)
      | fail)
    go_ret2
    exact ⟨_, by first | rfl | (simp; done), Kd.R_nil _ _ _ _ _, by repeat (first | (with_reducible first | exact HB.out | apply below_alloc | apply pw_below_drewN | apply below_drew1) | exact HB.out)⟩
  | true =>
    rw [if_pos rfl] at h
    obtain ⟨r, hr, h⟩ := Option.bind_eq_some_iff.mp h
    by_cases hg : r.1.length ≤ 1099511627776 ∧ l8.length ≤ 16 ∧ pkOk a1 a4 a5 a6 a7
    case neg => rw [if_neg hg] at h; cases h
    rw [if_pos hg] at h
    obtain ⟨rfl, rfl⟩ := Prod.mk.inj (Option.some.inj h)
    clear h
    obtain ⟨hg1, hg2, hu1, hu4, hu5, hu6, hu7⟩ := hg
    obtain ⟨ro, re⟩ := r
    have HRO := Aside0.mk hr
    clear hr
    have HG1 := Aside0.mk (show ro.length ≤ 1099511627776 from hg1)
    have HG2 := Aside0.mk hg2
    have HU1 := Aside0.mk hu1
    have HU4 := Aside0.mk hu4
    have HU5 := Aside0.mk hu5
    have HU6 := Aside0.mk hu6
    have HU7 := Aside0.mk hu7
    clear hg1 hg2 hu1 hu4 hu5 hu6 hu7
    go_enter Try.func8, Try.ntmps8
    go_wp2_with (first
      | (go_at_call 10; (with_reducible refine (packet_Right.calls k a0 a1 a2 a3 a4 a5 a6 a7 _ _ l8 _ _ l9 true _ ?s1 ?s2 ?s3 ?s4 HT.out).mono ?_); (case s1 => exact Kd.C_alloc HR8.out _); (case s2 => exact HC8.out); (case s3 => exact Kd.C_alloc HR9.out _); (case s4 => exact HC9.out); rintro e w2 ⟨rfl, hb⟩; have n1_ := Aside0.mk (below_step (below_alloc HB.out _) hb); have BK := Aside0.mk (blk_below (blk_new w (.cells #[.int .i64 a0, .int .u32 a1, .int .i64 a2, .int .i64 a3, .int .u32 a4, .int .u32 a5, .int .u32 a6, .int .u32 a7, .slice A8 l8.length c8, .slice A9 l9.length c9] 27 (0, 0))) hb); have GP := Aside0.mk (Nat.le_refl w.heap.size); clear hb HB; have HB := n1_; clear n1_; generalize hgp : w.heap.size = gp at BK GP ⊢; have hp0 : w2.cell? ⟨gp, 0, none⟩ = some (.int .i64 a0) := (blk_cell BK.out 0).trans rfl; have hp8 : w2.cell? ⟨gp, 8, none⟩ = some (.slice A8 l8.length c8) := (blk_cell BK.out 8).trans rfl)
      | ((with_reducible refine gate_dst (N := 19) rfl ?_); refine Kd.R_lit (Kd.int .u8) _ 5 ?hg_2 (N := 19) ?hd_2 (xs := ([a0 % 256, 1, (l8.length : Int) % 256, 0] : List Int)) (inner := [.int .u8 (a0 % 256), .int .u8 1, .int .u8 ((l8.length : Int) % 256), .int .u8 0]) (ok := fun _ => True) (okp := fun _ => True) ?hr_2 ?hp_2 (fun _ hk => hk) trivial (Below.refl _ _) (Nat.le_refl _) (by simp) ?_; (case hd_2 => rfl); (case hg_2 => rfl); (case hr_2 => first | (go_simp; done) | (go_simp; rfl)); (case hp_2 => exact (Reps.one (show Kd.M (Kd.int .u8) _ _ _ (a0 % 256) [.int .u8 (a0 % 256)] from rfl) (Reps.one (show Kd.M (Kd.int .u8) _ _ _ 1 [.int .u8 1] from rfl) (Reps.one (show Kd.M (Kd.int .u8) _ _ _ ((l8.length : Int) % 256) [.int .u8 ((l8.length : Int) % 256)] from rfl) (Reps.one (show Kd.M (Kd.int .u8) _ _ _ 0 [.int .u8 0] from rfl) (Reps.none _ _))))));
          intro v19 w3 ho hb hg_ hnew_; clear hg_ hnew_; have HO := Aside0.mk (Kd.R_lower ho (below_size HB.out)); have n1_ := Aside0.mk (below_step HB.out hb); have n2_ := Aside0.mk (blk_below BK.out hb); clear ho hb HB BK hp0 hp8; have HB := n1_; have BK := n2_; clear n1_ n2_; have hp1 : w3.cell? ⟨gp, 1, none⟩ = some (.int .u32 a1) := (blk_cell BK.out 1).trans rfl)
      | (go_at_call 21; (with_reducible refine (longK a1 HU1.out.1 HU1.out.2 (by simp) HB.out HO.out BK.out).mono ?_); rintro e w4 ⟨v23, rfl, ho, hk, hb⟩; clear HO HB BK hp1; have HO := Aside0.mk (show Kd.R (Kd.int .u8) 5 w4 w.heap.size (fun _ => True) v23 (pkA a0 a1 l8) from ho); have HB := Aside0.mk hb; have BK := Aside0.mk hk; clear ho hb hk)
      | fail)
    have n0_ := Aside0.mk (Kd.R_drew HO.out)
    have n1_ := Aside0.mk (below_drew1 HB.out)
    have n2_ := Aside0.mk (blk_drew BK.out)
    clear HO HB BK
    have HO := n0_
    have HB := n1_
    have BK := n2_
    clear n0_ n1_ n2_
    refine start_ (n := 8) (S := fun w' => w'.cell? ⟨gp, 2, none⟩ = some (.int .i64 a2) ∧ w'.cell? ⟨gp, 3, none⟩ = some (.int .i64 a3)) (ds := []) #[false, false, false, false, false, false, false, false] (by kernel_rfl) rfl rfl (⟨(blk_cell BK.out 2).trans rfl, (blk_cell BK.out 3).trans rfl⟩) (fun hHeld => ?_)
    try clear hp2
    refine pure_ (i := 0) (N := some 24) (v := ?_) (a' := ?_) #[true, false, false, false, false, false, false, false] rfl rfl (by kernel_rfl) (fun _ _ _ h => h) (Or.inl ⟨by rfl, ?_⟩) ?_ ?_
    rotate_left
    · intro w'
      go_simp
      with_reducible rfl
    rotate_left
    · simp only [Act.put, List.setIfInBounds_toArray, List.set_cons_zero, List.set_cons_succ, i64_w, i32_w]
      rfl
    refine pure_ (i := 1) (N := some 25) (v := ?_) (a' := ?_) #[true, true, false, false, false, false, false, false] rfl rfl (by kernel_rfl) (fun _ _ _ h => h) (Or.inl ⟨by rfl, ?_⟩) ?_ ?_
    rotate_left
    · intro w'
      go_simp
      with_reducible rfl
    rotate_left
    · simp only [Act.put, List.setIfInBounds_toArray, List.set_cons_zero, List.set_cons_succ, i64_w, i32_w]
      rfl
    refine pure_ (i := 4) (N := some 28) (v := ?_) (a' := ?_) #[true, true, false, false, true, false, false, false] rfl rfl (by kernel_rfl) (fun _ _ _ h => h) (Or.inl ⟨by rfl, ?_⟩) ?_ ?_
    rotate_left
    · intro w'
      go_simp
      with_reducible rfl
    rotate_left
    · simp only [Act.put, List.setIfInBounds_toArray, List.set_cons_zero, List.set_cons_succ, i64_w, i32_w]
      rfl
    refine take_ (i := 2) (N := some 26) (v := ?_) (a' := ?_) #[true, true, true, false, true, false, false, false] rfl rfl (by kernel_rfl) (fun _ _ _ h => h) (Or.inl ⟨by rfl, ?_⟩) hHeld ?_ ?_
    rotate_left
    · rintro w' ⟨s0, s1⟩
      go_simp
      with_reducible rfl
    rotate_left
    · simp only [Act.put, List.setIfInBounds_toArray, List.set_cons_zero, List.set_cons_succ, i64_w, i32_w]
      rfl
    refine take_ (i := 5) (N := some 29) (v := ?_) (a' := ?_) #[true, true, true, false, true, true, false, false] rfl rfl (by kernel_rfl) (fun _ _ _ h => h) (Or.inl ⟨by rfl, ?_⟩) hHeld ?_ ?_
    rotate_left
    · rintro w' ⟨s0, s1⟩
      go_simp
      with_reducible rfl
    rotate_left
    · simp only [Act.put, List.setIfInBounds_toArray, List.set_cons_zero, List.set_cons_succ, i64_w, i32_w]
      rfl
    refine one_ (i := 3) (N := some 27) #[true, true, true, true, true, true, false, false] rfl rfl (by kernel_rfl) (by decide) (fun K hK => ?_)
    refine goes_ Try.func22 (by kernel_rfl) rfl #[v23, .int .i64 a2] (by rfl) rfl rfl (by (try simp only [List.map_toArray, List.map_cons, List.map_nil]); rfl) ?_
    with_reducible refine (shortK a2 (by simp [pkA, pk4_len]) HB.out HO.out BK.out).mono ?_
    rintro e wn ⟨v27, rfl, ho, hk, hb⟩
    refine ⟨_, rfl, ?_⟩
    have HO := Aside0.mk ho
    have HB := Aside0.mk hb
    have BK := Aside0.mk hk
    clear ho hb hk
    refine hK.out _ _ (⟨(blk_cell BK.out 2).trans rfl, (blk_cell BK.out 3).trans rfl⟩) (fun hHeld => ?_)
    clear hK K
    refine norm_ (a' := ?_) ?_ ?_
    rotate_left
    · show Act.put _ (some 27) _ = _
      simp only [Act.put, List.setIfInBounds_toArray, List.set_cons_zero, List.set_cons_succ, i64_w, i32_w]
      rfl
    refine one_ (i := 6) (N := some 30) #[true, true, true, true, true, true, true, false] rfl rfl (by kernel_rfl) (by decide) (fun K hK => ?_)
    refine goes_ Try.func22 (by kernel_rfl) rfl #[v27, .int .i64 a3] (by rfl) rfl rfl (by (try simp only [List.map_toArray, List.map_cons, List.map_nil]); rfl) ?_
    with_reducible refine (shortK a3 (by simp [pkA, pk4_len, pk2]) HB.out HO.out BK.out).mono ?_
    rintro e wn ⟨v30, rfl, ho, hk, hb⟩
    refine ⟨_, rfl, ?_⟩
    have HO := Aside0.mk ho
    have HB := Aside0.mk hb
    have BK := Aside0.mk hk
    clear ho hb hk
    refine hK.out _ _ (⟨(blk_cell BK.out 2).trans rfl, (blk_cell BK.out 3).trans rfl⟩) (fun hHeld => ?_)
    clear hK K
    refine norm_ (a' := ?_) ?_ ?_
    rotate_left
    · show Act.put _ (some 30) _ = _
      simp only [Act.put, List.setIfInBounds_toArray, List.set_cons_zero, List.set_cons_succ, i64_w, i32_w]
      rfl
    refine pure_ (i := 7) (N := some 4) (v := ?_) (a' := ?_) #[true, true, true, true, true, true, true, true] rfl rfl (by kernel_rfl) (fun _ _ _ h => h) (Or.inl ⟨by rfl, ?_⟩) ?_ ?_
    rotate_left
    · intro w'
      go_simp
      with_reducible rfl
    rotate_left
    · simp only [Act.put, List.setIfInBounds_toArray, List.set_cons_zero, List.set_cons_succ, i64_w, i32_w]
      rfl
    refine done_ (by kernel_rfl) ?_
    clear hHeld
    have hp4 : wn.cell? ⟨gp, 4, none⟩ = some (.int .u32 a4) := (blk_cell BK.out 4).trans rfl
    have hp5 : wn.cell? ⟨gp, 5, none⟩ = some (.int .u32 a5) := (blk_cell BK.out 5).trans rfl
    have hp6 : wn.cell? ⟨gp, 6, none⟩ = some (.int .u32 a6) := (blk_cell BK.out 6).trans rfl
    have hp7 : wn.cell? ⟨gp, 7, none⟩ = some (.int .u32 a7) := (blk_cell BK.out 7).trans rfl
    go_wp2
    clear hp4 hp5 hp6 hp7
    go_loopg [4, 6, 40] 5 (fun kq v4 v6 v40 w' => ∃ (i : Nat), v40 = .int .i64 i ∧ Aside0 (i ≤ 4 ∧ 5 ≤ kq + i) ∧ Aside0 (Kd.R (Kd.int .u8) 5 w' w.heap.size (fun _ => True) v4 (pkB a0 a1 a2 a3 l8 ++ pkC a4 a5 a6 a7 i)) ∧ Aside0 (Below w.heap.size w w') ∧ Aside0 (w'.heap[gp]? = some (.cells #[.int .i64 a0, .int .u32 a1, .int .i64 a2, .int .i64 a3, .int .u32 a4, .int .u32 a5, .int .u32 a6, .int .u32 a7, .slice A8 l8.length c8, .slice A9 l9.length c9] 27 (0, 0))))
    case atStart => exact ⟨0, rfl, ⟨by omega, by omega⟩, ⟨by have h_ := HO.out; simp only [pkC, List.take_zero, List.map_nil, List.flatten_nil, List.append_nil]; exact h_⟩, HB, BK⟩
    case round =>
      clear HO HB BK
      obtain ⟨i, hv, hi, HO, HB, BK⟩ := hrel
      obtain ⟨k2, rfl⟩ : ∃ m, gk = m + 1 := ⟨gk - 1, by have := hi.out; omega⟩
      have hi4 : i = 0 ∨ i = 1 ∨ i = 2 ∨ i = 3 ∨ i = 4 := by have := hi.out; omega
      rcases hi4 with rfl | rfl | rfl | rfl | rfl
      · replace hv : u40 = .int .i64 0 := hv
        subst hv
        have hix : ∀ W : World, (Instr.index 46 (.agg #[.int .u32 a4, .int .u32 a5, .int .u32 a6, .int .u32 a7]) (.int .i64 0)).run Try.prog W = .ok (.int .u32 a4) W := idx4 a4 a5 a6 a7 0 (by decide)
        go_wp2_with (first
          | (go_at_call 21; (with_reducible refine (longK a4 HU4.out.1 HU4.out.2 (by have := pkC_len a4 a5 a6 a7 0; have := HG2.out; simp [pkB, pkA, pk4_len, pk2]; omega) HB.out HO.out BK.out).mono ?_); rintro e w5 ⟨v45, rfl, ho, hk, hb⟩; clear HO HB BK; have HO := Aside0.mk ho; have HB := Aside0.mk hb; have BK := Aside0.mk hk; clear ho hb hk)
          | fail)
        go_roundg k2
        case measure => omega
        case rel => exact ⟨1, by first | rfl | (simp; done), ⟨by omega, by have := hi.out; omega⟩, ⟨by have h_ := HO.out; rw [List.append_assoc] at h_; exact h_⟩, HB, BK⟩
      · replace hv : u40 = .int .i64 1 := hv
        subst hv
        have hix : ∀ W : World, (Instr.index 46 (.agg #[.int .u32 a4, .int .u32 a5, .int .u32 a6, .int .u32 a7]) (.int .i64 1)).run Try.prog W = .ok (.int .u32 a5) W := idx4 a4 a5 a6 a7 1 (by decide)
        go_wp2_with (first
          | (go_at_call 21; (with_reducible refine (longK a5 HU5.out.1 HU5.out.2 (by have := pkC_len a4 a5 a6 a7 1; have := HG2.out; simp [pkB, pkA, pk4_len, pk2]; omega) HB.out HO.out BK.out).mono ?_); rintro e w5 ⟨v45, rfl, ho, hk, hb⟩; clear HO HB BK; have HO := Aside0.mk ho; have HB := Aside0.mk hb; have BK := Aside0.mk hk; clear ho hb hk)
          | fail)
        go_roundg k2
        case measure => omega
        case rel => exact ⟨2, by first | rfl | (simp; done), ⟨by omega, by have := hi.out; omega⟩, ⟨by have h_ := HO.out; rw [List.append_assoc] at h_; exact h_⟩, HB, BK⟩
      · replace hv : u40 = .int .i64 2 := hv
        subst hv
        have hix : ∀ W : World, (Instr.index 46 (.agg #[.int .u32 a4, .int .u32 a5, .int .u32 a6, .int .u32 a7]) (.int .i64 2)).run Try.prog W = .ok (.int .u32 a6) W := idx4 a4 a5 a6 a7 2 (by decide)
        go_wp2_with (first
          | (go_at_call 21; (with_reducible refine (longK a6 HU6.out.1 HU6.out.2 (by have := pkC_len a4 a5 a6 a7 2; have := HG2.out; simp [pkB, pkA, pk4_len, pk2]; omega) HB.out HO.out BK.out).mono ?_); rintro e w5 ⟨v45, rfl, ho, hk, hb⟩; clear HO HB BK; have HO := Aside0.mk ho; have HB := Aside0.mk hb; have BK := Aside0.mk hk; clear ho hb hk)
          | fail)
        go_roundg k2
        case measure => omega
        case rel => exact ⟨3, by first | rfl | (simp; done), ⟨by omega, by have := hi.out; omega⟩, ⟨by have h_ := HO.out; rw [List.append_assoc] at h_; exact h_⟩, HB, BK⟩
      · replace hv : u40 = .int .i64 3 := hv
        subst hv
        have hix : ∀ W : World, (Instr.index 46 (.agg #[.int .u32 a4, .int .u32 a5, .int .u32 a6, .int .u32 a7]) (.int .i64 3)).run Try.prog W = .ok (.int .u32 a7) W := idx4 a4 a5 a6 a7 3 (by decide)
        go_wp2_with (first
          | (go_at_call 21; (with_reducible refine (longK a7 HU7.out.1 HU7.out.2 (by have := pkC_len a4 a5 a6 a7 3; have := HG2.out; simp [pkB, pkA, pk4_len, pk2]; omega) HB.out HO.out BK.out).mono ?_); rintro e w5 ⟨v45, rfl, ho, hk, hb⟩; clear HO HB BK; have HO := Aside0.mk ho; have HB := Aside0.mk hb; have BK := Aside0.mk hk; clear ho hb hk)
          | fail)
        go_roundg k2
        case measure => omega
        case rel => exact ⟨4, by first | rfl | (simp; done), ⟨by omega, by have := hi.out; omega⟩, ⟨by have h_ := HO.out; rw [List.append_assoc] at h_; exact h_⟩, HB, BK⟩
      · replace hv : u40 = .int .i64 4 := hv
        subst hv
        go_wp2
        have n0_ := Aside0.mk (Kd.R_drew HO.out)
        have n1_ := Aside0.mk (below_drew1 HB.out)
        have n2_ := Aside0.mk (blk_drew BK.out)
        clear HO HB BK
        have HO := n0_
        have HB := n1_
        have BK := n2_
        clear n0_ n1_ n2_
        refine start_ (n := 11) (S := fun w' => w'.cell? ⟨gp, 8, none⟩ = some (.slice A8 l8.length c8)) (ds := []) #[false, false, false, false, false, false, false, false, false, false, false] (by kernel_rfl) rfl rfl ((blk_cell BK.out 8).trans rfl) (fun hHeld => ?_)
        refine pure_ (i := 0) (N := some 47) (v := ?_) (a' := ?_) #[true, false, false, false, false, false, false, false, false, false, false] rfl rfl (by kernel_rfl) (fun _ _ _ h => h) (Or.inl ⟨by rfl, ?_⟩) ?_ ?_
        rotate_left
        · intro w'
          go_simp
          with_reducible rfl
        rotate_left
        · simp only [Act.put, List.setIfInBounds_toArray, List.set_cons_zero, List.set_cons_succ, i64_w, i32_w]
          rfl
        refine pure_ (i := 1) (N := some 48) (v := ?_) (a' := ?_) #[true, true, false, false, false, false, false, false, false, false, false] rfl rfl (by kernel_rfl) (fun _ _ _ h => h) (Or.inl ⟨by rfl, ?_⟩) ?_ ?_
        rotate_left
        · intro w'
          go_simp
          with_reducible rfl
        rotate_left
        · simp only [Act.put, List.setIfInBounds_toArray, List.set_cons_zero, List.set_cons_succ, i64_w, i32_w]
          rfl
        refine pure_ (i := 4) (N := some 51) (v := ?_) (a' := ?_) #[true, true, false, false, true, false, false, false, false, false, false] rfl rfl (by kernel_rfl) (fun _ _ _ h => h) (Or.inl ⟨by rfl, ?_⟩) ?_ ?_
        rotate_left
        · intro w'
          go_simp
          with_reducible rfl
        rotate_left
        · simp only [Act.put, List.setIfInBounds_toArray, List.set_cons_zero, List.set_cons_succ, i64_w, i32_w]
          rfl
        refine take_ (i := 2) (N := some 49) (v := ?_) (a' := ?_) #[true, true, true, false, true, false, false, false, false, false, false] rfl rfl (by kernel_rfl) (fun _ _ _ h => h) (Or.inl ⟨by rfl, ?_⟩) hHeld ?_ ?_
        rotate_left
        · intro w' s0
          go_simp
          with_reducible rfl
        rotate_left
        · simp only [Act.put, List.setIfInBounds_toArray, List.set_cons_zero, List.set_cons_succ, i64_w, i32_w]
          rfl
        refine take_ (i := 5) (N := some 52) (v := ?_) (a' := ?_) #[true, true, true, false, true, true, false, false, false, false, false] rfl rfl (by kernel_rfl) (fun _ _ _ h => h) (Or.inl ⟨by rfl, ?_⟩) hHeld ?_ ?_
        rotate_left
        · intro w' s0
          go_simp
          with_reducible rfl
        rotate_left
        · simp only [Act.put, List.setIfInBounds_toArray, List.set_cons_zero, List.set_cons_succ, i64_w, i32_w]
          rfl
        refine pure_ (i := 6) (N := some 53) (v := ?_) (a' := ?_) #[true, true, true, false, true, true, true, false, false, false, false] rfl rfl (by kernel_rfl) (fun _ _ _ h => h) (Or.inl ⟨by rfl, ?_⟩) ?_ ?_
        rotate_left
        · intro w'
          go_simp
          with_reducible rfl
        rotate_left
        · simp only [Act.put, List.setIfInBounds_toArray, List.set_cons_zero, List.set_cons_succ, i64_w, i32_w]
          rfl
        refine pure_ (i := 7) (N := some 54) (v := ?_) (a' := ?_) #[true, true, true, false, true, true, true, true, false, false, false] rfl rfl (by kernel_rfl) (fun _ _ _ h => h) (Or.inl ⟨by rfl, ?_⟩) ?_ ?_
        rotate_left
        · intro w'
          go_simp
          with_reducible rfl
        rotate_left
        · simp only [Act.put, List.setIfInBounds_toArray, List.set_cons_zero, List.set_cons_succ, i64_w, i32_w]
          rfl
        refine pure_ (i := 8) (N := some 55) (v := ?_) (a' := ?_) #[true, true, true, false, true, true, true, true, true, false, false] rfl rfl (by kernel_rfl) (fun _ _ _ h => h) (Or.inl ⟨by rfl, ?_⟩) ?_ ?_
        rotate_left
        · intro w'
          go_simp
          with_reducible rfl
        rotate_left
        · simp only [Act.put, List.setIfInBounds_toArray, List.set_cons_zero, List.set_cons_succ, i64_w, i32_w]
          rfl
        refine one_ (i := 3) (N := some 50) #[true, true, true, true, true, true, true, true, true, false, false] rfl rfl (by kernel_rfl) (by decide) (fun K hK => ?_)
        refine Kd.R_append_rows_step (Kd.int .u8) (w0 := w) w.heap.size (by rfl) (.tmp 47) (.tmp 49) 24 5 (.int .u8 0) 1 rfl Try.underlying24 info5 rfl (by decide) (by omega) u4 (pkB a0 a1 a2 a3 l8 ++ pkC a4 a5 a6 a7 4) l8 _ _ _ (fun _ => True) (fun _ => False) rfl rfl HO.out (Kd.C_below HR8.out HB.out) (fun _ _ h => h) (fun _ h => h.elim) (fun _ _ => trivial) HB.out (below_size HB.out) (by have := HG2.out; simp [pkB, pkA, pk4_len, pk2, pkC]; omega) ?_
        intro v50 wa ho hb hg hat
        have n0_ := Aside0.mk (blk_grown BK.out hg (Kd.R_ne HO.out BK.out (by decide)))
        clear HO HB BK hg hat
        have HO := Aside0.mk ho
        have HB := Aside0.mk hb
        have BK := n0_
        clear n0_ ho hb
        refine hK.out _ _ ((blk_cell BK.out 8).trans rfl) (fun hHeld => ?_)
        clear hK K
        refine norm_ (a' := ?_) ?_ ?_
        rotate_left
        · show Act.put _ (some 50) _ = _
          simp only [Act.put, List.setIfInBounds_toArray, List.set_cons_zero, List.set_cons_succ, i64_w, i32_w]
          rfl
        refine one_ (i := 9) (N := some 56) #[true, true, true, true, true, true, true, true, true, true, false] rfl rfl (by kernel_rfl) (by decide) (fun K hK => ?_)
        refine Kd.R_append_zeros_step (Kd.int .u8) (w0 := w) w.heap.size (by rfl) (.tmp 50) (.tmp 55) 24 3 5 (.int .u8 0) 1 rfl Try.underlying24 Try.underlying3 info5 rfl (by decide) (by omega) v50 (pkB a0 a1 a2 a3 l8 ++ pkC a4 a5 a6 a7 4 ++ l8) 0 (wrap64 (wrap64 (16 - (l8.length : Int)) + 192)) (fun _ => True) rfl rfl rfl (fun _ _ => trivial) HO.out (by have := HG2.out; unfold wrap64; omega) HB.out (below_size HB.out) (by have := HG2.out; have : (wrap64 (wrap64 (16 - (l8.length : Int)) + 192)).toNat ≤ 208 := (by unfold wrap64; omega); simp [pkB, pkA, pk4_len, pk2, pkC]; omega) ?_
        intro v56 wa ho hb hg hat
        have n0_ := Aside0.mk (blk_grown BK.out hg (Kd.R_ne HO.out BK.out (by decide)))
        clear HO HB BK hg hat
        have ez : (wrap64 (wrap64 (16 - (l8.length : Int)) + 192)).toNat = 208 - l8.length := by have := HG2.out; unfold wrap64; omega
        rw [ez] at ho
        clear ez
        have HO := Aside0.mk ho
        have HB := Aside0.mk hb
        have BK := n0_
        clear n0_ ho hb
        refine hK.out _ _ ((blk_cell BK.out 8).trans rfl) (fun hHeld => ?_)
        clear hK K
        refine norm_ (a' := ?_) ?_ ?_
        rotate_left
        · show Act.put _ (some 56) _ = _
          simp only [Act.put, List.setIfInBounds_toArray, List.set_cons_zero, List.set_cons_succ, i64_w, i32_w]
          rfl
        refine pure_ (i := 10) (N := some 4) (v := ?_) (a' := ?_) #[true, true, true, true, true, true, true, true, true, true, true] rfl rfl (by kernel_rfl) (fun _ _ _ h => h) (Or.inl ⟨by rfl, ?_⟩) ?_ ?_
        rotate_left
        · intro w'
          go_simp
          with_reducible rfl
        rotate_left
        · simp only [Act.put, List.setIfInBounds_toArray, List.set_cons_zero, List.set_cons_succ, i64_w, i32_w]
          rfl
        refine done_ (by kernel_rfl) ?_
        clear hHeld
        go_wp2_with (first
          | (go_at_call 21; (with_reducible refine (longK 1669485411 (by decide) (by decide) (by have := HG2.out; simp [pkB, pkA, pk4_len, pk2, pkC]; omega) HB.out HO.out BK.out).mono ?_); rintro e w6 ⟨v58, rfl, ho, hk, hb⟩; clear HO HB BK; have HO := Aside0.mk ho; have HB := Aside0.mk hb; have BK := Aside0.mk hk; clear ho hb hk; have hp9 : w6.cell? ⟨gp, 9, none⟩ = some (.slice A9 l9.length c9) := (blk_cell BK.out 9).trans rfl)
          | (go_at_call 23; (with_reducible refine (option_Encode.calls k _ _ l9 ro re _ ?q1 ?q2 HRO.out).mono ?_); (case q1 => exact Kd.C_below HR9.out HB.out); (case q2 => exact HC9.out); rintro e w7 ⟨v62, rfl, hro, hb⟩; obtain ⟨Al, cl, rfl⟩ := Kd.R_slice hro; have HL := Aside0.mk (Kd.R_reads' hro).2.2; have n0_ := Aside0.mk (Kd.R_below HO.out hb); have n1_ := Aside0.mk (below_step HB.out hb); clear HO HB BK hp9 hro hb; have HO := n0_; have HB := n1_; clear n0_ n1_)
          | ((with_reducible refine gate_builtin (b := .append) (xs := #[.tmp 65, .tmp 66]) rfl ?_); at_builtin; refine Kd.R_append_rows (Kd.int .u8) (w0 := w) w.heap.size rfl (.tmp 65) (.tmp 66) 24 5 (.int .u8 0) 1 rfl Try.underlying24 info5 rfl (by decide) (by omega) v58 (pkHead a0 a1 a2 a3 a4 a5 a6 a7 l8) ro _ _ _ (fun _ => True) (fun _ => False) rfl rfl HO.out HL.out (fun _ _ h => h) (fun _ h => h.elim) (fun _ _ => trivial) HB.out (below_size HB.out) (by have := HG1.out; have := HG2.out; simp [pkHead, pkB, pkA, pk4_len, pk2, pkC]; omega) ?_; intro v67 wz ho hb hg hat; clear HO HB HL hg hat; have HO := Aside0.mk ho; have HB := Aside0.mk hb; clear ho hb)
          | fail)
        go_ret2
        exact ⟨_, by first | rfl | (simp; done), HO.out, HB.out⟩
end Go.Proofs.Ytmbfdmceameghaa
