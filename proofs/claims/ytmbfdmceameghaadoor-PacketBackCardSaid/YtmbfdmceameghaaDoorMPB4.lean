/-
  packet.Encode: a packet as bytes.
  Printed: PrF32.
  Options as bytes, over lists: what option.Encode and the reference's Encode compute of few options.
-/
import Derived.Lib.Hide
import Derived.Deep.DeepCutAuto
import Derived.Deep.CutBlock
import Derived.Laws.BitsLemmas
import Derived.Test.YtmbfdmceameghaaDoorMPB3
import Derived.Test.YtmbfdmceameghaaDoorMPB1

section
namespace Go.Proofs.YtmbfdmceameghaaDoor
open Go.RowKit Go.Proofs.YtmbfdmceameghaaDoor.Pr Go.Proofs.YtmbfdmceameghaaDoorW.PrintWords Go.Proofs.YtmbfdmceameghaaDoorW.PrintLast Go.Proofs.YtmbfdmceameghaaDoorW.PrintMore
set_option linter.unusedVariables false
set_option linter.unusedSimpArgs false

/-! ### what it computes -/
def pk2 (n : Int) : List Int := [n / 256 % 256, n % 256]
def pk4 (a : Int) : List Int := pk2 (a / 65536) ++ pk2 (a % 65536)
theorem short_eq (xs : List Int) (n : Int) (hl : xs.length < 1099511627776) : packet_short.f xs n = some (xs ++ pk2 n) := by
  unfold packet_short.f
  simp only [Option.bind_some]
  rw [if_pos (by simp; omega)]
  rfl
theorem and16 (a : Int) (h0 : 0 ≤ a) (h1 : a < 4294967296) : Go.bits .and .u32 a 65535 = a % 65536 :=
  bits_mask .u32 32 (by decide) (fun n h0 h1 => by rw [IntKind.wrap_u32]; omega) 16 (by decide) a h0 (by omega)
theorem long_eq (xs : List Int) (a : Int) (h0 : 0 ≤ a) (h1 : a < 4294967296) (hl : xs.length < 1000000000000) : packet_long.f xs a = some (xs ++ pk4 a) := by
  unfold packet_long.f
  have e1 : wrap64 (a / 65536) = a / 65536 := by unfold wrap64; omega
  have e2 : wrap64 (Go.bits .and .u32 a 65535) = a % 65536 := by rw [and16 a h0 h1]; unfold wrap64; omega
  rw [e1, e2, short_eq xs _ (by omega)]
  simp only [Option.bind_some]
  rw [short_eq _ _ (by simp [pk2]; omega)]
  unfold pk4
  rw [List.append_assoc]
  rfl
def pkA (a0 a1 : Int) (l8 : List Int) : List Int := [a0 % 256, 1, (l8.length : Int) % 256, 0] ++ pk4 a1
def pkB (a0 a1 a2 a3 : Int) (l8 : List Int) : List Int := pkA a0 a1 l8 ++ pk2 a2 ++ pk2 a3
def pkC (a4 a5 a6 a7 : Int) (i : Nat) : List Int := (([a4, a5, a6, a7].take i).map pk4).flatten
def pkHead (a0 a1 a2 a3 a4 a5 a6 a7 : Int) (l8 : List Int) : List Int :=
  pkB a0 a1 a2 a3 l8 ++ pkC a4 a5 a6 a7 4 ++ l8 ++ List.replicate (208 - l8.length) 0 ++ pk4 1669485411
def pkOk (a1 a4 a5 a6 a7 : Int) : Prop := (0 ≤ a1 ∧ a1 < 4294967296) ∧ (0 ≤ a4 ∧ a4 < 4294967296) ∧ (0 ≤ a5 ∧ a5 < 4294967296) ∧ (0 ≤ a6 ∧ a6 < 4294967296) ∧ (0 ≤ a7 ∧ a7 < 4294967296)
instance (a1 a4 a5 a6 a7 : Int) : Decidable (pkOk a1 a4 a5 a6 a7) := by unfold pkOk; infer_instance
abbrev OptE := S39
def packet_Encode.f (k : Nat) (a0 a1 a2 a3 a4 a5 a6 a7 : Int) (l8 : List Int) (l9 : List OptE) : Option (List Int × Int) :=
  (packet_Right.f k a0 a1 a2 a3 a4 a5 a6 a7 l8 l9).bind fun t => if t = true then ((option_Encode.f k l9).bind fun r => if r.1.length ≤ 1099511627776 ∧ l8.length ≤ 16 ∧ pkOk a1 a4 a5 a6 a7 then some (pkHead a0 a1 a2 a3 a4 a5 a6 a7 l8 ++ r.1, 0) else none) else some ([], 1)
theorem packet_Encode.mono : ∀ a0 a1 a2 a3 a4 a5 a6 a7 l8 l9 k, LeO (packet_Encode.f k a0 a1 a2 a3 a4 a5 a6 a7 l8 l9) (packet_Encode.f (k + 1) a0 a1 a2 a3 a4 a5 a6 a7 l8 l9) := by
  intro a0 a1 a2 a3 a4 a5 a6 a7 l8 l9 k
  unfold packet_Encode.f
  refine LeO.bind (packet_Right.mono _ _ _ _ _ _ _ _ _ _ k) (fun t => ?_)
  refine LeO.ite ?_ (LeO.refl _)
  exact LeO.bind (option_Encode.mono _ k) (fun _ => LeO.refl _)
theorem pk4_len (a : Int) : (pk4 a).length = 4 := rfl
theorem pkC_len (a4 a5 a6 a7 : Int) (i : Nat) : (pkC a4 a5 a6 a7 i).length ≤ 16 := by
  have : i = 0 ∨ i = 1 ∨ i = 2 ∨ i = 3 ∨ 4 ≤ i := by omega
  rcases this with rfl | rfl | rfl | rfl | h
  · simp [pkC]
  · simp [pkC, pk4_len]
  · simp [pkC, pk4_len]
  · simp [pkC, pk4_len]
  · unfold pkC; rw [List.take_of_length_le (by simpa using h)]; simp [pk4_len]

/-! ### the numbers put behind a row of the walk's own, the packet's block apart -/
section
variable {gp : Nat} {cs : Array Value} {w w1 : World} {v : Value} {xs : List Int}
theorem longK (a : Int) (h0 : 0 ≤ a) (h1 : a < 4294967296) (hl : xs.length < 1000000000000) (HB : Below w.heap.size w w1) (HO : Kd.R (Kd.int .u8) 5 w1 w.heap.size (fun _ => True) v xs) (BK : w1.heap[gp]? = some (.cells cs 28 (0, 0))) :
    Calls Tryd.prog 18 #[v, .int .u32 a] w1 fun e w2 => ∃ v2, e = .returned v2 ∧ Kd.R (Kd.int .u8) 5 w2 w.heap.size (fun _ => True) v2 (xs ++ pk4 a) ∧ w2.heap[gp]? = some (.cells cs 28 (0, 0)) ∧ Below w.heap.size w w2 := by
  refine (packet_long.calls (fun k => k ≠ gp) v xs a _ w w1 HB (Kd.R_mono (Kd.R_far1 HO rfl (Kd.R_ne HO BK (by decide))) (fun k hk => hk.2)) (long_eq xs a h0 h1 hl)).mono ?_
  rintro e w2 ⟨v2, rfl, ho, hb, hk⟩
  exact ⟨v2, rfl, Kd.R_mono ho (fun _ _ => trivial), (hk.2 gp (blk_lt BK) (by simp)).trans BK, hb⟩
theorem shortK (a : Int) (hl : xs.length < 1000000000000) (HB : Below w.heap.size w w1) (HO : Kd.R (Kd.int .u8) 5 w1 w.heap.size (fun _ => True) v xs) (BK : w1.heap[gp]? = some (.cells cs 28 (0, 0))) :
    Calls Tryd.prog 19 #[v, .int .i64 a] w1 fun e w2 => ∃ v2, e = .returned v2 ∧ Kd.R (Kd.int .u8) 5 w2 w.heap.size (fun _ => True) v2 (xs ++ pk2 a) ∧ w2.heap[gp]? = some (.cells cs 28 (0, 0)) ∧ Below w.heap.size w w2 := by
  refine (packet_short.calls (fun k => k ≠ gp) v xs a _ w w1 HB (Kd.R_mono (Kd.R_far1 HO rfl (Kd.R_ne HO BK (by decide))) (fun k hk => hk.2)) (short_eq xs a (by omega))).mono ?_
  rintro e w2 ⟨v2, rfl, ho, hb, hk⟩
  exact ⟨v2, rfl, Kd.R_mono ho (fun _ _ => trivial), (hk.2 gp (blk_lt BK) (by simp)).trans BK, hb⟩
end
/-- The i-th of an array value of four. -/
theorem idx4 (a b c d : Int) (i : Nat) (hi : i < 4) (W : World) : (Instr.index 49 (.agg #[.int .u32 a, .int .u32 b, .int .u32 c, .int .u32 d]) (.int .i64 (i : Int))).run Tryd.prog W = .ok (.int .u32 (([a, b, c, d] : List Int).getD i 0)) W := by
  have hu : Tryd.prog.underlying 49 = some (.array 4 25) := by kernel_rfl
  have hs : (Tryd.prog.info? 25).map (fun i => (i.size, i.zero)) = some (1, some (.int .u32 0)) := by kernel_rfl
  obtain ⟨i0, h0, h1⟩ := Option.map_eq_some_iff.1 hs
  simp only [Prod.mk.injEq] at h1
  obtain rfl | rfl | rfl | rfl : i = 0 ∨ i = 1 ∨ i = 2 ∨ i = 3 := by omega
  all_goals simp [Instr.index, asIntOf, run_underlying hu, sizeOf, part, typeInfo, h0, h1.1, h1.2]
set_option maxHeartbeats 1000000 in
set_option maxRecDepth 100000 in
theorem packet_Encode.calls (k : Nat) (a0 a1 a2 a3 a4 a5 a6 a7 : Int) (A8 : Option Addr) (c8 : Nat) (l8 : List Int) (A9 : Option Addr) (c9 : Nat) (l9 : List OptE) (r1 : List Int) (r2 : Int) (w : World) (hr8 : Kd.C (Kd.int .u8) w A8 l8.length l8) (hc8 : l8.length ≤ c8) (hr9 : Kd.C k39 w A9 l9.length l9) (hc9 : l9.length ≤ c9) (h : packet_Encode.f k a0 a1 a2 a3 a4 a5 a6 a7 l8 l9 = some (r1, r2)) :
    Calls Tryd.prog 10 #[.agg #[.int .i64 a0, .int .u32 a1, .int .i64 a2, .int .i64 a3, .int .u32 a4, .int .u32 a5, .int .u32 a6, .int .u32 a7, .slice A8 l8.length c8, .slice A9 l9.length c9]] w fun e w' => ∃ v0_ : Value, e = .returned (.tuple #[v0_, .int .i64 r2]) ∧ Kd.R (Kd.int .u8) 5 w' w.heap.size (fun _ => True) v0_ r1 ∧ Below w.heap.size w w' := by
  have hu27 := Tryd.underlying28
  have HR8 := Aside0.mk hr8
  have HC8 := Aside0.mk hc8
  have HR9 := Aside0.mk hr9
  have HC9 := Aside0.mk hc9
  clear hr8 hc8 hr9 hc9
  have HB := Aside0.mk (Below.refl w.heap.size w)
  unfold packet_Encode.f at h
  obtain ⟨t, ht, h⟩ := Option.bind_eq_some_iff.mp h
  have HT := Aside0.mk ht
  clear ht
  cases t with
  | false =>
    rw [if_neg (by decide)] at h
    obtain ⟨rfl, rfl⟩ := Prod.mk.inj (Option.some.inj h)
    clear h
    go_enter Tryd.func10, Tryd.ntmps10
    go_wp2_with (first
      | (go_at_call 12; (with_reducible refine (packet_Right.calls k a0 a1 a2 a3 a4 a5 a6 a7 _ _ l8 _ _ l9 false _ ?s1 ?s2 ?s3 ?s4 HT.out).mono ?_); (case s1 => exact Kd.C_alloc HR8.out _); (case s2 => exact HC8.out); (case s3 => exact Kd.C_alloc HR9.out _); (case s4 => exact HC9.out); rintro e w2 ⟨rfl, hb⟩; have n1_ := Aside0.mk (below_step (below_alloc HB.out _) hb); clear hb HB; have HB := n1_; clear n1_)
      | fail)
    go_ret2
    exact ⟨_, by first | rfl | (simp; done), Kd.R_nil _ _ _ _ _, by repeat (first | (with_reducible first | exact HB.out | apply below_alloc | apply pw_below_drewN | apply below_drew1) | exact HB.out)⟩
  | true =>
    rw [if_pos rfl] at h
    obtain ⟨r, hr, h⟩ := Option.bind_eq_some_iff.mp h
    by_cases hg : r.1.length ≤ 1099511627776 ∧ l8.length ≤ 16 ∧ pkOk a1 a4 a5 a6 a7
    case neg => rw [if_neg hg] at h; cases h
    rw [if_pos hg] at h
    obtain ⟨rfl, rfl⟩ := Prod.mk.inj (Option.some.inj h)
    clear h
    obtain ⟨hg1, hg2, hu1, hu4, hu5, hu6, hu7⟩ := hg
    obtain ⟨ro, re⟩ := r
    have HRO := Aside0.mk hr
    clear hr
    have HG1 := Aside0.mk (show ro.length ≤ 1099511627776 from hg1)
    have HG2 := Aside0.mk hg2
    have HU1 := Aside0.mk hu1
    have HU4 := Aside0.mk hu4
    have HU5 := Aside0.mk hu5
    have HU6 := Aside0.mk hu6
    have HU7 := Aside0.mk hu7
    clear hg1 hg2 hu1 hu4 hu5 hu6 hu7
    go_enter Tryd.func10, Tryd.ntmps10
    go_wp2_with (first
      | (go_at_call 12; (with_reducible refine (packet_Right.calls k a0 a1 a2 a3 a4 a5 a6 a7 _ _ l8 _ _ l9 true _ ?s1 ?s2 ?s3 ?s4 HT.out).mono ?_); (case s1 => exact Kd.C_alloc HR8.out _); (case s2 => exact HC8.out); (case s3 => exact Kd.C_alloc HR9.out _); (case s4 => exact HC9.out); rintro e w2 ⟨rfl, hb⟩; have n1_ := Aside0.mk (below_step (below_alloc HB.out _) hb); have BK := Aside0.mk (blk_below (blk_new w (.cells #[.int .i64 a0, .int .u32 a1, .int .i64 a2, .int .i64 a3, .int .u32 a4, .int .u32 a5, .int .u32 a6, .int .u32 a7, .slice A8 l8.length c8, .slice A9 l9.length c9] 28 (0, 0))) hb); have GP := Aside0.mk (Nat.le_refl w.heap.size); clear hb HB; have HB := n1_; clear n1_; generalize hgp : w.heap.size = gp at BK GP ⊢; have hp0 : w2.cell? ⟨gp, 0, none⟩ = some (.int .i64 a0) := (blk_cell BK.out 0).trans rfl; have hp8 : w2.cell? ⟨gp, 8, none⟩ = some (.slice A8 l8.length c8) := (blk_cell BK.out 8).trans rfl)
      | ((with_reducible refine gate_dst (N := 19) rfl ?_); refine Kd.R_lit (Kd.int .u8) _ 5 ?hg_2 (N := 19) ?hd_2 (xs := ([a0 % 256, 1, (l8.length : Int) % 256, 0] : List Int)) (inner := [.int .u8 (a0 % 256), .int .u8 1, .int .u8 ((l8.length : Int) % 256), .int .u8 0]) (ok := fun _ => True) (okp := fun _ => True) ?hr_2 ?hp_2 (fun _ hk => hk) trivial (Below.refl _ _) (Nat.le_refl _) (by simp) ?_; (case hd_2 => rfl); (case hg_2 => rfl); (case hr_2 => first | (go_simp; done) | (go_simp; rfl)); (case hp_2 => exact (Reps.one (show Kd.M (Kd.int .u8) _ _ _ (a0 % 256) [.int .u8 (a0 % 256)] from rfl) (Reps.one (show Kd.M (Kd.int .u8) _ _ _ 1 [.int .u8 1] from rfl) (Reps.one (show Kd.M (Kd.int .u8) _ _ _ ((l8.length : Int) % 256) [.int .u8 ((l8.length : Int) % 256)] from rfl) (Reps.one (show Kd.M (Kd.int .u8) _ _ _ 0 [.int .u8 0] from rfl) (Reps.none _ _))))));
          intro v19 w3 ho hb hg_ hnew_; clear hg_ hnew_; have HO := Aside0.mk (Kd.R_lower ho (below_size HB.out)); have n1_ := Aside0.mk (below_step HB.out hb); have n2_ := Aside0.mk (blk_below BK.out hb); clear ho hb HB BK hp0 hp8; have HB := n1_; have BK := n2_; clear n1_ n2_; have hp1 : w3.cell? ⟨gp, 1, none⟩ = some (.int .u32 a1) := (blk_cell BK.out 1).trans rfl)
      | (go_at_call 18; (with_reducible refine (longK a1 HU1.out.1 HU1.out.2 (by simp) HB.out HO.out BK.out).mono ?_); rintro e w4 ⟨v23, rfl, ho, hk, hb⟩; clear HO HB BK hp1; have HO := Aside0.mk (show Kd.R (Kd.int .u8) 5 w4 w.heap.size (fun _ => True) v23 (pkA a0 a1 l8) from ho); have HB := Aside0.mk hb; have BK := Aside0.mk hk; clear ho hb hk)
      | fail)
    have n0_ := Aside0.mk (Kd.R_drew HO.out)
    have n1_ := Aside0.mk (below_drew1 HB.out)
    have n2_ := Aside0.mk (blk_drew BK.out)
    clear HO HB BK
    have HO := n0_
    have HB := n1_
    have BK := n2_
    clear n0_ n1_ n2_
    refine start_ (n := 8) (S := fun w' => w'.cell? ⟨gp, 2, none⟩ = some (.int .i64 a2) ∧ w'.cell? ⟨gp, 3, none⟩ = some (.int .i64 a3)) (ds := []) #[false, false, false, false, false, false, false, false] (by kernel_rfl) rfl rfl (⟨(blk_cell BK.out 2).trans rfl, (blk_cell BK.out 3).trans rfl⟩) (fun hHeld => ?_)
    try clear hp2
    refine pure_ (i := 0) (N := some 24) (v := ?_) (a' := ?_) #[true, false, false, false, false, false, false, false] rfl rfl (by kernel_rfl) (fun _ _ _ h => h) (Or.inl ⟨by rfl, ?_⟩) ?_ ?_
    rotate_left
    · intro w'
      go_simp
      with_reducible rfl
    rotate_left
    · simp only [Act.put, List.setIfInBounds_toArray, List.set_cons_zero, List.set_cons_succ, i64_w, i32_w]
      rfl
    refine pure_ (i := 1) (N := some 25) (v := ?_) (a' := ?_) #[true, true, false, false, false, false, false, false] rfl rfl (by kernel_rfl) (fun _ _ _ h => h) (Or.inl ⟨by rfl, ?_⟩) ?_ ?_
    rotate_left
    · intro w'
      go_simp
      with_reducible rfl
    rotate_left
    · simp only [Act.put, List.setIfInBounds_toArray, List.set_cons_zero, List.set_cons_succ, i64_w, i32_w]
      rfl
    refine pure_ (i := 4) (N := some 28) (v := ?_) (a' := ?_) #[true, true, false, false, true, false, false, false] rfl rfl (by kernel_rfl) (fun _ _ _ h => h) (Or.inl ⟨by rfl, ?_⟩) ?_ ?_
    rotate_left
    · intro w'
      go_simp
      with_reducible rfl
    rotate_left
    · simp only [Act.put, List.setIfInBounds_toArray, List.set_cons_zero, List.set_cons_succ, i64_w, i32_w]
      rfl
    refine take_ (i := 2) (N := some 26) (v := ?_) (a' := ?_) #[true, true, true, false, true, false, false, false] rfl rfl (by kernel_rfl) (fun _ _ _ h => h) (Or.inl ⟨by rfl, ?_⟩) hHeld ?_ ?_
    rotate_left
    · rintro w' ⟨s0, s1⟩
      go_simp
      with_reducible rfl
    rotate_left
    · simp only [Act.put, List.setIfInBounds_toArray, List.set_cons_zero, List.set_cons_succ, i64_w, i32_w]
      rfl
    refine take_ (i := 5) (N := some 29) (v := ?_) (a' := ?_) #[true, true, true, false, true, true, false, false] rfl rfl (by kernel_rfl) (fun _ _ _ h => h) (Or.inl ⟨by rfl, ?_⟩) hHeld ?_ ?_
    rotate_left
    · rintro w' ⟨s0, s1⟩
      go_simp
      with_reducible rfl
    rotate_left
    · simp only [Act.put, List.setIfInBounds_toArray, List.set_cons_zero, List.set_cons_succ, i64_w, i32_w]
      rfl
    refine one_ (i := 3) (N := some 27) #[true, true, true, true, true, true, false, false] rfl rfl (by kernel_rfl) (by decide) (fun K hK => ?_)
    refine goes_ Tryd.func19 (by kernel_rfl) rfl #[v23, .int .i64 a2] (by rfl) rfl rfl (by (try simp only [List.map_toArray, List.map_cons, List.map_nil]); rfl) ?_
    with_reducible refine (shortK a2 (by simp [pkA, pk4_len]) HB.out HO.out BK.out).mono ?_
    rintro e wn ⟨v27, rfl, ho, hk, hb⟩
    refine ⟨_, rfl, ?_⟩
    have HO := Aside0.mk ho
    have HB := Aside0.mk hb
    have BK := Aside0.mk hk
    clear ho hb hk
    refine hK.out _ _ (⟨(blk_cell BK.out 2).trans rfl, (blk_cell BK.out 3).trans rfl⟩) (fun hHeld => ?_)
    clear hK K
    refine norm_ (a' := ?_) ?_ ?_
    rotate_left
    · show Act.put _ (some 27) _ = _
      simp only [Act.put, List.setIfInBounds_toArray, List.set_cons_zero, List.set_cons_succ, i64_w, i32_w]
      rfl
    refine one_ (i := 6) (N := some 30) #[true, true, true, true, true, true, true, false] rfl rfl (by kernel_rfl) (by decide) (fun K hK => ?_)
    refine goes_ Tryd.func19 (by kernel_rfl) rfl #[v27, .int .i64 a3] (by rfl) rfl rfl (by (try simp only [List.map_toArray, List.map_cons, List.map_nil]); rfl) ?_
    with_reducible refine (shortK a3 (by simp [pkA, pk4_len, pk2]) HB.out HO.out BK.out).mono ?_
    rintro e wn ⟨v30, rfl, ho, hk, hb⟩
    refine ⟨_, rfl, ?_⟩
    have HO := Aside0.mk ho
    have HB := Aside0.mk hb
    have BK := Aside0.mk hk
    clear ho hb hk
    refine hK.out _ _ (⟨(blk_cell BK.out 2).trans rfl, (blk_cell BK.out 3).trans rfl⟩) (fun hHeld => ?_)
    clear hK K
    refine norm_ (a' := ?_) ?_ ?_
    rotate_left
    · show Act.put _ (some 30) _ = _
      simp only [Act.put, List.setIfInBounds_toArray, List.set_cons_zero, List.set_cons_succ, i64_w, i32_w]
      rfl
    refine pure_ (i := 7) (N := some 4) (v := ?_) (a' := ?_) #[true, true, true, true, true, true, true, true] rfl rfl (by kernel_rfl) (fun _ _ _ h => h) (Or.inl ⟨by rfl, ?_⟩) ?_ ?_
    rotate_left
    · intro w'
      go_simp
      with_reducible rfl
    rotate_left
    · simp only [Act.put, List.setIfInBounds_toArray, List.set_cons_zero, List.set_cons_succ, i64_w, i32_w]
      rfl
    refine done_ (by kernel_rfl) ?_
    clear hHeld
    have hp4 : wn.cell? ⟨gp, 4, none⟩ = some (.int .u32 a4) := (blk_cell BK.out 4).trans rfl
    have hp5 : wn.cell? ⟨gp, 5, none⟩ = some (.int .u32 a5) := (blk_cell BK.out 5).trans rfl
    have hp6 : wn.cell? ⟨gp, 6, none⟩ = some (.int .u32 a6) := (blk_cell BK.out 6).trans rfl
    have hp7 : wn.cell? ⟨gp, 7, none⟩ = some (.int .u32 a7) := (blk_cell BK.out 7).trans rfl
    go_wp2
    clear hp4 hp5 hp6 hp7
    go_loopg [4, 6, 40] 5 (fun kq v4 v6 v40 w' => ∃ (i : Nat), v40 = .int .i64 i ∧ Aside0 (i ≤ 4 ∧ 5 ≤ kq + i) ∧ Aside0 (Kd.R (Kd.int .u8) 5 w' w.heap.size (fun _ => True) v4 (pkB a0 a1 a2 a3 l8 ++ pkC a4 a5 a6 a7 i)) ∧ Aside0 (Below w.heap.size w w') ∧ Aside0 (w'.heap[gp]? = some (.cells #[.int .i64 a0, .int .u32 a1, .int .i64 a2, .int .i64 a3, .int .u32 a4, .int .u32 a5, .int .u32 a6, .int .u32 a7, .slice A8 l8.length c8, .slice A9 l9.length c9] 28 (0, 0))))
    case atStart => exact ⟨0, rfl, ⟨by omega, by omega⟩, ⟨by have h_ := HO.out; simp only [pkC, List.take_zero, List.map_nil, List.flatten_nil, List.append_nil]; exact h_⟩, HB, BK⟩
    case round =>
      clear HO HB BK
      obtain ⟨i, hv, hi, HO, HB, BK⟩ := hrel
      obtain ⟨k2, rfl⟩ : ∃ m, gk = m + 1 := ⟨gk - 1, by have := hi.out; omega⟩
      have hi4 : i = 0 ∨ i = 1 ∨ i = 2 ∨ i = 3 ∨ i = 4 := by have := hi.out; omega
      rcases hi4 with rfl | rfl | rfl | rfl | rfl
      · replace hv : u40 = .int .i64 0 := hv
        subst hv
        have hix : ∀ W : World, (Instr.index 49 (.agg #[.int .u32 a4, .int .u32 a5, .int .u32 a6, .int .u32 a7]) (.int .i64 0)).run Tryd.prog W = .ok (.int .u32 a4) W := idx4 a4 a5 a6 a7 0 (by decide)
        go_wp2_with (first
          | (go_at_call 18; (with_reducible refine (longK a4 HU4.out.1 HU4.out.2 (by have := pkC_len a4 a5 a6 a7 0; have := HG2.out; simp [pkB, pkA, pk4_len, pk2]; omega) HB.out HO.out BK.out).mono ?_); rintro e w5 ⟨v45, rfl, ho, hk, hb⟩; clear HO HB BK; have HO := Aside0.mk ho; have HB := Aside0.mk hb; have BK := Aside0.mk hk; clear ho hb hk)
          | fail)
        go_roundg k2
        case measure => omega
        case rel => exact ⟨1, by first | rfl | (simp; done), ⟨by omega, by have := hi.out; omega⟩, ⟨by have h_ := HO.out; rw [List.append_assoc] at h_; exact h_⟩, HB, BK⟩
      · replace hv : u40 = .int .i64 1 := hv
        subst hv
        have hix : ∀ W : World, (Instr.index 49 (.agg #[.int .u32 a4, .int .u32 a5, .int .u32 a6, .int .u32 a7]) (.int .i64 1)).run Tryd.prog W = .ok (.int .u32 a5) W := idx4 a4 a5 a6 a7 1 (by decide)
        go_wp2_with (first
          | (go_at_call 18; (with_reducible refine (longK a5 HU5.out.1 HU5.out.2 (by have := pkC_len a4 a5 a6 a7 1; have := HG2.out; simp [pkB, pkA, pk4_len, pk2]; omega) HB.out HO.out BK.out).mono ?_); rintro e w5 ⟨v45, rfl, ho, hk, hb⟩; clear HO HB BK; have HO := Aside0.mk ho; have HB := Aside0.mk hb; have BK := Aside0.mk hk; clear ho hb hk)
          | fail)
        go_roundg k2
        case measure => omega
        case rel => exact ⟨2, by first | rfl | (simp; done), ⟨by omega, by have := hi.out; omega⟩, ⟨by have h_ := HO.out; rw [List.append_assoc] at h_; exact h_⟩, HB, BK⟩
      · replace hv : u40 = .int .i64 2 := hv
        subst hv
        have hix : ∀ W : World, (Instr.index 49 (.agg #[.int .u32 a4, .int .u32 a5, .int .u32 a6, .int .u32 a7]) (.int .i64 2)).run Tryd.prog W = .ok (.int .u32 a6) W := idx4 a4 a5 a6 a7 2 (by decide)
        go_wp2_with (first
          | (go_at_call 18; (with_reducible refine (longK a6 HU6.out.1 HU6.out.2 (by have := pkC_len a4 a5 a6 a7 2; have := HG2.out; simp [pkB, pkA, pk4_len, pk2]; omega) HB.out HO.out BK.out).mono ?_); rintro e w5 ⟨v45, rfl, ho, hk, hb⟩; clear HO HB BK; have HO := Aside0.mk ho; have HB := Aside0.mk hb; have BK := Aside0.mk hk; clear ho hb hk)
          | fail)
        go_roundg k2
        case measure => omega
        case rel => exact ⟨3, by first | rfl | (simp; done), ⟨by omega, by have := hi.out; omega⟩, ⟨by have h_ := HO.out; rw [List.append_assoc] at h_; exact h_⟩, HB, BK⟩
      · replace hv : u40 = .int .i64 3 := hv
        subst hv
        have hix : ∀ W : World, (Instr.index 49 (.agg #[.int .u32 a4, .int .u32 a5, .int .u32 a6, .int .u32 a7]) (.int .i64 3)).run Tryd.prog W = .ok (.int .u32 a7) W := idx4 a4 a5 a6 a7 3 (by decide)
        go_wp2_with (first
          | (go_at_call 18; (with_reducible refine (longK a7 HU7.out.1 HU7.out.2 (by have := pkC_len a4 a5 a6 a7 3; have := HG2.out; simp [pkB, pkA, pk4_len, pk2]; omega) HB.out HO.out BK.out).mono ?_); rintro e w5 ⟨v45, rfl, ho, hk, hb⟩; clear HO HB BK; have HO := Aside0.mk ho; have HB := Aside0.mk hb; have BK := Aside0.mk hk; clear ho hb hk)
          | fail)
        go_roundg k2
        case measure => omega
        case rel => exact ⟨4, by first | rfl | (simp; done), ⟨by omega, by have := hi.out; omega⟩, ⟨by have h_ := HO.out; rw [List.append_assoc] at h_; exact h_⟩, HB, BK⟩
      · replace hv : u40 = .int .i64 4 := hv
        subst hv
        go_wp2
        have n0_ := Aside0.mk (Kd.R_drew HO.out)
        have n1_ := Aside0.mk (below_drew1 HB.out)
        have n2_ := Aside0.mk (blk_drew BK.out)
        clear HO HB BK
        have HO := n0_
        have HB := n1_
        have BK := n2_
        clear n0_ n1_ n2_
        refine start_ (n := 11) (S := fun w' => w'.cell? ⟨gp, 8, none⟩ = some (.slice A8 l8.length c8)) (ds := []) #[false, false, false, false, false, false, false, false, false, false, false] (by kernel_rfl) rfl rfl ((blk_cell BK.out 8).trans rfl) (fun hHeld => ?_)
        refine pure_ (i := 0) (N := some 47) (v := ?_) (a' := ?_) #[true, false, false, false, false, false, false, false, false, false, false] rfl rfl (by kernel_rfl) (fun _ _ _ h => h) (Or.inl ⟨by rfl, ?_⟩) ?_ ?_
        rotate_left
        · intro w'
          go_simp
          with_reducible rfl
        rotate_left
        · simp only [Act.put, List.setIfInBounds_toArray, List.set_cons_zero, List.set_cons_succ, i64_w, i32_w]
          rfl
        refine pure_ (i := 1) (N := some 48) (v := ?_) (a' := ?_) #[true, true, false, false, false, false, false, false, false, false, false] rfl rfl (by kernel_rfl) (fun _ _ _ h => h) (Or.inl ⟨by rfl, ?_⟩) ?_ ?_
        rotate_left
        · intro w'
          go_simp
          with_reducible rfl
        rotate_left
        · simp only [Act.put, List.setIfInBounds_toArray, List.set_cons_zero, List.set_cons_succ, i64_w, i32_w]
          rfl
        refine pure_ (i := 4) (N := some 51) (v := ?_) (a' := ?_) #[true, true, false, false, true, false, false, false, false, false, false] rfl rfl (by kernel_rfl) (fun _ _ _ h => h) (Or.inl ⟨by rfl, ?_⟩) ?_ ?_
        rotate_left
        · intro w'
          go_simp
          with_reducible rfl
        rotate_left
        · simp only [Act.put, List.setIfInBounds_toArray, List.set_cons_zero, List.set_cons_succ, i64_w, i32_w]
          rfl
        refine take_ (i := 2) (N := some 49) (v := ?_) (a' := ?_) #[true, true, true, false, true, false, false, false, false, false, false] rfl rfl (by kernel_rfl) (fun _ _ _ h => h) (Or.inl ⟨by rfl, ?_⟩) hHeld ?_ ?_
        rotate_left
        · intro w' s0
          go_simp
          with_reducible rfl
        rotate_left
        · simp only [Act.put, List.setIfInBounds_toArray, List.set_cons_zero, List.set_cons_succ, i64_w, i32_w]
          rfl
        refine take_ (i := 5) (N := some 52) (v := ?_) (a' := ?_) #[true, true, true, false, true, true, false, false, false, false, false] rfl rfl (by kernel_rfl) (fun _ _ _ h => h) (Or.inl ⟨by rfl, ?_⟩) hHeld ?_ ?_
        rotate_left
        · intro w' s0
          go_simp
          with_reducible rfl
        rotate_left
        · simp only [Act.put, List.setIfInBounds_toArray, List.set_cons_zero, List.set_cons_succ, i64_w, i32_w]
          rfl
        refine pure_ (i := 6) (N := some 53) (v := ?_) (a' := ?_) #[true, true, true, false, true, true, true, false, false, false, false] rfl rfl (by kernel_rfl) (fun _ _ _ h => h) (Or.inl ⟨by rfl, ?_⟩) ?_ ?_
        rotate_left
        · intro w'
          go_simp
          with_reducible rfl
        rotate_left
        · simp only [Act.put, List.setIfInBounds_toArray, List.set_cons_zero, List.set_cons_succ, i64_w, i32_w]
          rfl
        refine pure_ (i := 7) (N := some 54) (v := ?_) (a' := ?_) #[true, true, true, false, true, true, true, true, false, false, false] rfl rfl (by kernel_rfl) (fun _ _ _ h => h) (Or.inl ⟨by rfl, ?_⟩) ?_ ?_
        rotate_left
        · intro w'
          go_simp
          with_reducible rfl
        rotate_left
        · simp only [Act.put, List.setIfInBounds_toArray, List.set_cons_zero, List.set_cons_succ, i64_w, i32_w]
          rfl
        refine pure_ (i := 8) (N := some 55) (v := ?_) (a' := ?_) #[true, true, true, false, true, true, true, true, true, false, false] rfl rfl (by kernel_rfl) (fun _ _ _ h => h) (Or.inl ⟨by rfl, ?_⟩) ?_ ?_
        rotate_left
        · intro w'
          go_simp
          with_reducible rfl
        rotate_left
        · simp only [Act.put, List.setIfInBounds_toArray, List.set_cons_zero, List.set_cons_succ, i64_w, i32_w]
          rfl
        refine one_ (i := 3) (N := some 50) #[true, true, true, true, true, true, true, true, true, false, false] rfl rfl (by kernel_rfl) (by decide) (fun K hK => ?_)
        refine Kd.R_append_rows_step (Kd.int .u8) (w0 := w) w.heap.size (by rfl) (.tmp 47) (.tmp 49) 22 5 (.int .u8 0) 1 rfl Tryd.underlying22 info5 rfl (by decide) (by omega) u4 (pkB a0 a1 a2 a3 l8 ++ pkC a4 a5 a6 a7 4) l8 _ _ _ (fun _ => True) (fun _ => False) rfl rfl HO.out (Kd.C_below HR8.out HB.out) (fun _ _ h => h) (fun _ h => h.elim) (fun _ _ => trivial) HB.out (below_size HB.out) (by have := HG2.out; simp [pkB, pkA, pk4_len, pk2, pkC]; omega) ?_
        intro v50 wa ho hb hg hat
        have n0_ := Aside0.mk (blk_grown BK.out hg (Kd.R_ne HO.out BK.out (by decide)))
        clear HO HB BK hg hat
        have HO := Aside0.mk ho
        have HB := Aside0.mk hb
        have BK := n0_
        clear n0_ ho hb
        refine hK.out _ _ ((blk_cell BK.out 8).trans rfl) (fun hHeld => ?_)
        clear hK K
        refine norm_ (a' := ?_) ?_ ?_
        rotate_left
        · show Act.put _ (some 50) _ = _
          simp only [Act.put, List.setIfInBounds_toArray, List.set_cons_zero, List.set_cons_succ, i64_w, i32_w]
          rfl
        refine one_ (i := 9) (N := some 56) #[true, true, true, true, true, true, true, true, true, true, false] rfl rfl (by kernel_rfl) (by decide) (fun K hK => ?_)
        refine Kd.R_append_zeros_step (Kd.int .u8) (w0 := w) w.heap.size (by rfl) (.tmp 50) (.tmp 55) 22 3 5 (.int .u8 0) 1 rfl Tryd.underlying22 Tryd.underlying3 info5 rfl (by decide) (by omega) v50 (pkB a0 a1 a2 a3 l8 ++ pkC a4 a5 a6 a7 4 ++ l8) 0 (wrap64 (wrap64 (16 - (l8.length : Int)) + 192)) (fun _ => True) rfl rfl rfl (fun _ _ => trivial) HO.out (by have := HG2.out; unfold wrap64; omega) HB.out (below_size HB.out) (by have := HG2.out; have : (wrap64 (wrap64 (16 - (l8.length : Int)) + 192)).toNat ≤ 208 := (by unfold wrap64; omega); simp [pkB, pkA, pk4_len, pk2, pkC]; omega) ?_
        intro v56 wa ho hb hg hat
        have n0_ := Aside0.mk (blk_grown BK.out hg (Kd.R_ne HO.out BK.out (by decide)))
        clear HO HB BK hg hat
        have ez : (wrap64 (wrap64 (16 - (l8.length : Int)) + 192)).toNat = 208 - l8.length := by have := HG2.out; unfold wrap64; omega
        rw [ez] at ho
        clear ez
        have HO := Aside0.mk ho
        have HB := Aside0.mk hb
        have BK := n0_
        clear n0_ ho hb
        refine hK.out _ _ ((blk_cell BK.out 8).trans rfl) (fun hHeld => ?_)
        clear hK K
        refine norm_ (a' := ?_) ?_ ?_
        rotate_left
        · show Act.put _ (some 56) _ = _
          simp only [Act.put, List.setIfInBounds_toArray, List.set_cons_zero, List.set_cons_succ, i64_w, i32_w]
          rfl
        refine pure_ (i := 10) (N := some 4) (v := ?_) (a' := ?_) #[true, true, true, true, true, true, true, true, true, true, true] rfl rfl (by kernel_rfl) (fun _ _ _ h => h) (Or.inl ⟨by rfl, ?_⟩) ?_ ?_
        rotate_left
        · intro w'
          go_simp
          with_reducible rfl
        rotate_left
        · simp only [Act.put, List.setIfInBounds_toArray, List.set_cons_zero, List.set_cons_succ, i64_w, i32_w]
          rfl
        refine done_ (by kernel_rfl) ?_
        clear hHeld
        go_wp2_with (first
          | (go_at_call 18; (with_reducible refine (longK 1669485411 (by decide) (by decide) (by have := HG2.out; simp [pkB, pkA, pk4_len, pk2, pkC]; omega) HB.out HO.out BK.out).mono ?_); rintro e w6 ⟨v58, rfl, ho, hk, hb⟩; clear HO HB BK; have HO := Aside0.mk ho; have HB := Aside0.mk hb; have BK := Aside0.mk hk; clear ho hb hk; have hp9 : w6.cell? ⟨gp, 9, none⟩ = some (.slice A9 l9.length c9) := (blk_cell BK.out 9).trans rfl)
          | (go_at_call 20; (with_reducible refine (option_Encode.calls k _ _ l9 ro re _ ?q1 ?q2 HRO.out).mono ?_); (case q1 => exact Kd.C_below HR9.out HB.out); (case q2 => exact HC9.out); rintro e w7 ⟨v62, rfl, hro, hb⟩; obtain ⟨Al, cl, rfl⟩ := Kd.R_slice hro; have HL := Aside0.mk (Kd.R_reads' hro).2.2; have n0_ := Aside0.mk (Kd.R_below HO.out hb); have n1_ := Aside0.mk (below_step HB.out hb); clear HO HB BK hp9 hro hb; have HO := n0_; have HB := n1_; clear n0_ n1_)
          | ((with_reducible refine gate_builtin (b := .append) (xs := #[.tmp 65, .tmp 66]) rfl ?_); at_builtin; refine Kd.R_append_rows (Kd.int .u8) (w0 := w) w.heap.size rfl (.tmp 65) (.tmp 66) 22 5 (.int .u8 0) 1 rfl Tryd.underlying22 info5 rfl (by decide) (by omega) v58 (pkHead a0 a1 a2 a3 a4 a5 a6 a7 l8) ro _ _ _ (fun _ => True) (fun _ => False) rfl rfl HO.out HL.out (fun _ _ h => h) (fun _ h => h.elim) (fun _ _ => trivial) HB.out (below_size HB.out) (by have := HG1.out; have := HG2.out; simp [pkHead, pkB, pkA, pk4_len, pk2, pkC]; omega) ?_; intro v67 wz ho hb hg hat; clear HO HB HL hg hat; have HO := Aside0.mk ho; have HB := Aside0.mk hb; clear ho hb)
          | fail)
        go_ret2
        exact ⟨_, by first | rfl | (simp; done), HO.out, HB.out⟩
end Go.Proofs.YtmbfdmceameghaaDoor
end

section
-- written by a program of this session (wip/tools/gen.py) over the kit's print
namespace Go.Proofs.YtmbfdmceameghaaDoor.Pr
open Go.RowKit Go.Proofs.YtmbfdmceameghaaDoorW.PrintWords Go.Proofs.YtmbfdmceameghaaDoorW.PrintLast Go.Proofs.YtmbfdmceameghaaDoorW.PrintMore
attribute [local go_sem] max2_int min2_int max_two min_two max_three min_three max_four min_four   -- for this text's walks alone
set_option linter.unusedVariables false
set_option linter.unusedSimpArgs false

/-! ### lessorref02_Encode: function 32 -/
mutual
def lessorref02_Encode.l0 : Nat → List (S39) → Int → Option (List Int × Int)
 | 0, _, _ => none
 | k + 1, x0, x4 => if x4 < (x0.length : Int) then (if 0 ≤ x4 then (if ((rd_T39 x0 x4).f0) < 1 then (some (([] : List Int), 1)) else (if ((rd_T39 x0 x4).f0) > 254 then (some (([] : List Int), 1)) else (if (((rd_T39 x0 x4).f1).length : Int) > 255 then (some (([] : List Int), 1)) else (lessorref02_Encode.l0 k x0 (wrap64 (x4 + 1)))))) else (none)) else (lessorref02_Encode.l1 k x0 ([] : List Int) 0)
def lessorref02_Encode.l1 : Nat → List (S39) → List Int → Int → Option (List Int × Int)
 | 0, _, _, _ => none
 | k + 1, x0, x5, x6 => if x6 < (x0.length : Int) then (if 0 ≤ x6 then ((some (([((rd_T39 x0 x6).f0) % 256, ((((rd_T39 x0 x6).f1).length : Int)) % 256] : List Int) : List Int)).bind fun y168 => (if x5.length + y168.length < 140737488355328 then ((some (x5 ++ y168 : List Int)).bind fun y171 => (if y171.length + ((rd_T39 x0 x6).f1).length < 140737488355328 then ((some (y171 ++ ((rd_T39 x0 x6).f1) : List Int)).bind fun y175 => (if (y175.length : Int) ≥ 1024 then (some (([] : List Int), 3)) else (lessorref02_Encode.l1 k x0 y175 (wrap64 (x6 + 1))))) else (none))) else (none))) else (none)) else (if x5.length < 140737488355328 then (some ((x5 ++ [255]), 0)) else (none))
end
def lessorref02_Encode.f (k : Nat) (l0 : List (S39)) : Option (List Int × Int) := lessorref02_Encode.l0 k l0 0
theorem lessorref02_Encode.mono_l : ∀ k, (∀ y0 y1, LeO (lessorref02_Encode.l0 k y0 y1) (lessorref02_Encode.l0 (k + 1) y0 y1)) ∧ (∀ y0 y1 y2, LeO (lessorref02_Encode.l1 k y0 y1 y2) (lessorref02_Encode.l1 (k + 1) y0 y1 y2))
 | 0 => ⟨fun _ _ r h => by simp [lessorref02_Encode.l0] at h, fun _ _ _ r h => by simp [lessorref02_Encode.l1] at h⟩
 | k + 1 => by
  obtain ⟨ih0, ih1⟩ := lessorref02_Encode.mono_l k
  refine ⟨?_, ?_⟩
  ·intro y0 y1
   unfold lessorref02_Encode.l0
   repeat' first
   | (with_reducible exact ih0 _ _)
   | (with_reducible exact ih1 _ _ _)
   | (with_reducible exact LeO.refl _)
   | (with_reducible exact LeO.none _)
   | (with_reducible refine LeO.ite ?_ ?_)
   | (with_reducible refine LeO.bind ?_ (fun _ => ?_))
   | exact ih0 _ _
   | exact ih1 _ _ _
   | exact LeO.none _
   | refine LeO.ite ?_ ?_
   | refine LeO.bind ?_ (fun _ => ?_)
  ·intro y0 y1 y2
   unfold lessorref02_Encode.l1
   repeat' first
   | (with_reducible exact ih0 _ _)
   | (with_reducible exact ih1 _ _ _)
   | (with_reducible exact LeO.refl _)
   | (with_reducible exact LeO.none _)
   | (with_reducible refine LeO.ite ?_ ?_)
   | (with_reducible refine LeO.bind ?_ (fun _ => ?_))
   | exact ih0 _ _
   | exact ih1 _ _ _
   | exact LeO.none _
   | refine LeO.ite ?_ ?_
   | refine LeO.bind ?_ (fun _ => ?_)
theorem lessorref02_Encode.mono : ∀ a0 k, LeO (lessorref02_Encode.f k a0) (lessorref02_Encode.f (k + 1) a0) := by
 intro a0 k
 obtain ⟨ih0, ih1⟩ := lessorref02_Encode.mono_l k
 unfold lessorref02_Encode.f
 repeat' first
   | (with_reducible exact ih0 _ _)
   | (with_reducible exact ih1 _ _ _)
   | (with_reducible exact LeO.refl _)
   | (with_reducible exact LeO.none _)
   | (with_reducible refine LeO.ite ?_ ?_)
   | (with_reducible refine LeO.bind ?_ (fun _ => ?_))
   | exact ih0 _ _
   | exact ih1 _ _ _
   | exact LeO.none _
   | refine LeO.ite ?_ ?_
   | refine LeO.bind ?_ (fun _ => ?_)
def lessorref02_Encode.T10 : Bool × List (List Nat × List Nat) := (true, [([], []), ([], []), ([], []), ([1, 2], [1, 2]), ([3], [3]), ([4], [4]), ([5], [5]), ([], []), ([], []), ([7, 8], [7, 8]), ([9], [9]), ([10], [10]), ([11], [11]), ([12], [12]), ([6, 13], [6, 13]), ([0, 14], [0, 14]), ([15, 15, 0, 1, 2, 3, 4, 5, 6, 7, 8, 9, 10, 11, 12, 13, 14, 15], [0, 15])])
def lessorref02_Encode.B10 : List Nat := [0, 0, 0, 6, 14, 30, 62, 0, 0, 384, 896, 1920, 3968, 8064, 16382, 32767, 65535]
theorem lessorref02_Encode.tab10 : rtab .any (opsOf Tryd.f32 10) = lessorref02_Encode.T10 := by kernel_rfl
theorem lessorref02_Encode.bits10 : waitsOk lessorref02_Encode.T10.2 lessorref02_Encode.B10 = true := by kernel_rfl
set_option maxHeartbeats 8000000 in
set_option maxRecDepth 100000 in
theorem lessorref02_Encode.calls (k : Nat) (A0 : Option Addr) (c0 : Nat) (l0 : List (S39)) (r1 : List Int) (r2 : Int) (w : World) (hr0 : Kd.C k39 w A0 l0.length l0) (hc0 : l0.length ≤ c0) (h : lessorref02_Encode.f k l0 = some (r1, r2)) :
  Calls Tryd.prog 32 #[.slice A0 l0.length c0] w fun e w' => ∃ v0_ : Value, e = .returned (.tuple #[v0_, .int .i64 r2]) ∧ Kd.R (Kd.int .u8) 5 w' w.heap.size (fun _ => True) v0_ r1 ∧ Below w.heap.size w w' := by
 have HR0 := Aside0.mk hr0
 have HC0 := Aside0.mk hc0
 clear hr0 hc0
 have HB := Aside0.mk (Below.refl w.heap.size w)
 have H : (lessorref02_Encode.l0 k l0 0) = some (r1, r2) := h
 clear h
 have H' := Aside0.mk H
 clear H
 go_enter Tryd.func32, Tryd.ntmps32
 go_wp2
 go_loopg [4] k (fun kq v4 w' => ∃ (x4_1 : Int), v4 = .int .i64 x4_1 ∧ Aside0 (lessorref02_Encode.l0 kq l0 x4_1 = some (r1, r2)) ∧ Aside0 (kq ≤ k) ∧ Aside0 (Below w.heap.size w w'))
 case atStart => exact ⟨(0), (by first | rfl | (simp; done) | (simp [*]; done)), H', ⟨Nat.le_refl _⟩, ⟨by repeat (first | (with_reducible first | exact HB.out | apply below_alloc | apply pw_below_drewN | apply below_drew1) | exact HB.out)⟩⟩
 case round =>
  clear H'
  obtain ⟨x4_1, rfl, HA, HK1, HB⟩ := hrel
  cases gk with
  | zero => exact absurd HA.out (by simp [lessorref02_Encode.l0])
  | succ k1 =>
   have H := HA.out
   clear HA
   simp only [lessorref02_Encode.l0] at H
   by_cases c2 : x4_1 < (l0.length : Int)
   ·rw [if_pos c2] at H
    have c2b0 : decide (x4_1 < (l0.length : Int)) = true := decide_eq_true c2
    clear c2
    by_cases c3 : 0 ≤ x4_1
    ·rw [if_pos c3] at H
     have c3b0 : decide (0 ≤ x4_1) = true := decide_eq_true c3
     clear c3
     by_cases c4 : ((rd_T39 l0 x4_1).f0) < 1
     ·rw [if_pos c4] at H
      have c4b0 : decide (((rd_T39 l0 x4_1).f0) < 1) = true := decide_eq_true c4
      clear c4
      simp only [Option.some.injEq, Prod.mk.injEq] at H
      obtain ⟨rfl, rfl⟩ := H
      have p163 : 0 ≤ (x4_1 : Int) := of_decide_eq_true (by first | (with_reducible assumption) | assumption)
      have q163 : x4_1 < (l0.length : Int) := of_decide_eq_true (by first | (with_reducible assumption) | assumption)
      obtain ⟨ad163, A163_1, c163_1, e163, hx163_0, hx163_1, hl163_1, hi163_1⟩ := at_T39 HR0.out x4_1 p163 q163
      cases e163
      replace hx163_0 := (HB.out.cell (World.block_lt_of_cell? w _ hx163_0)).trans hx163_0
      replace hx163_1 := (HB.out.cell (World.block_lt_of_cell? w _ hx163_1)).trans hx163_1
      have HR163_1 := Aside0.mk hi163_1
      have HC163_1 := Aside0.mk hl163_1
      clear hi163_1 hl163_1
      replace p163 := eq_true p163
      replace q163 := eq_true q163
      go_wp2
      go_ret2
      exact ⟨_, by first | rfl | (simp [errW_none, errW_some] <;> rfl) | (simp [*, errW_none, errW_some] <;> rfl), by first | exact Kd.R_nil _ _ _ _ _ | exact Kd.N_nil _ _ _ _ _ | exact Kd.V_nil _ _ _ _ _ | exact Kd.Q_nil _ _ _ _ _ | exact Kd.S_nil _ _ _ _ _, by repeat (first | (with_reducible first | exact HB.out | apply below_alloc | apply pw_below_drewN | apply below_drew1) | exact HB.out)⟩
     ·rw [if_neg c4] at H
      have c4b0 : decide (((rd_T39 l0 x4_1).f0) < 1) = false := decide_eq_false c4
      clear c4
      by_cases c5 : ((rd_T39 l0 x4_1).f0) > 254
      ·rw [if_pos c5] at H
       have c5b0 : decide (254 < ((rd_T39 l0 x4_1).f0)) = true := decide_eq_true c5
       clear c5
       simp only [Option.some.injEq, Prod.mk.injEq] at H
       obtain ⟨rfl, rfl⟩ := H
       have p163 : 0 ≤ (x4_1 : Int) := of_decide_eq_true (by first | (with_reducible assumption) | assumption)
       have q163 : x4_1 < (l0.length : Int) := of_decide_eq_true (by first | (with_reducible assumption) | assumption)
       obtain ⟨ad163, A163_1, c163_1, e163, hx163_0, hx163_1, hl163_1, hi163_1⟩ := at_T39 HR0.out x4_1 p163 q163
       cases e163
       replace hx163_0 := (HB.out.cell (World.block_lt_of_cell? w _ hx163_0)).trans hx163_0
       replace hx163_1 := (HB.out.cell (World.block_lt_of_cell? w _ hx163_1)).trans hx163_1
       have HR163_1 := Aside0.mk hi163_1
       have HC163_1 := Aside0.mk hl163_1
       clear hi163_1 hl163_1
       replace p163 := eq_true p163
       replace q163 := eq_true q163
       have p164 : 0 ≤ (x4_1 : Int) := of_decide_eq_true (by first | (with_reducible assumption) | assumption)
       have q164 : x4_1 < (l0.length : Int) := of_decide_eq_true (by first | (with_reducible assumption) | assumption)
       obtain ⟨ad164, A164_1, c164_1, e164, hx164_0, hx164_1, hl164_1, hi164_1⟩ := at_T39 HR0.out x4_1 p164 q164
       obtain rfl : ad163 = ad164 := (by injection e164)
       replace hx164_0 := (HB.out.cell (World.block_lt_of_cell? w _ hx164_0)).trans hx164_0
       replace hx164_1 := (HB.out.cell (World.block_lt_of_cell? w _ hx164_1)).trans hx164_1
       have HR164_1 := Aside0.mk hi164_1
       have HC164_1 := Aside0.mk hl164_1
       clear hi164_1 hl164_1
       replace p164 := eq_true p164
       replace q164 := eq_true q164
       have ea_ := Option.some.inj (hx163_1.symm.trans hx164_1)
       injection ea_ with ea_ en_ ec_
       subst ea_
       subst ec_
       clear en_
       go_wp2
       go_ret2
       exact ⟨_, by first | rfl | (simp [errW_none, errW_some] <;> rfl) | (simp [*, errW_none, errW_some] <;> rfl), by first | exact Kd.R_nil _ _ _ _ _ | exact Kd.N_nil _ _ _ _ _ | exact Kd.V_nil _ _ _ _ _ | exact Kd.Q_nil _ _ _ _ _ | exact Kd.S_nil _ _ _ _ _, by repeat (first | (with_reducible first | exact HB.out | apply below_alloc | apply pw_below_drewN | apply below_drew1) | exact HB.out)⟩
      ·rw [if_neg c5] at H
       have c5b0 : decide (254 < ((rd_T39 l0 x4_1).f0)) = false := decide_eq_false c5
       clear c5
       by_cases c6 : (((rd_T39 l0 x4_1).f1).length : Int) > 255
       ·rw [if_pos c6] at H
        have c6b0 : decide (255 < (((rd_T39 l0 x4_1).f1).length : Int)) = true := decide_eq_true c6
        have c6b1 : decide (255 < ((rd_T39 l0 x4_1).f1).length) = true := decide_eq_true (by omega)
        clear c6
        simp only [Option.some.injEq, Prod.mk.injEq] at H
        obtain ⟨rfl, rfl⟩ := H
        have p163 : 0 ≤ (x4_1 : Int) := of_decide_eq_true (by first | (with_reducible assumption) | assumption)
        have q163 : x4_1 < (l0.length : Int) := of_decide_eq_true (by first | (with_reducible assumption) | assumption)
        obtain ⟨ad163, A163_1, c163_1, e163, hx163_0, hx163_1, hl163_1, hi163_1⟩ := at_T39 HR0.out x4_1 p163 q163
        cases e163
        replace hx163_0 := (HB.out.cell (World.block_lt_of_cell? w _ hx163_0)).trans hx163_0
        replace hx163_1 := (HB.out.cell (World.block_lt_of_cell? w _ hx163_1)).trans hx163_1
        have HR163_1 := Aside0.mk hi163_1
        have HC163_1 := Aside0.mk hl163_1
        clear hi163_1 hl163_1
        replace p163 := eq_true p163
        replace q163 := eq_true q163
        have p164 : 0 ≤ (x4_1 : Int) := of_decide_eq_true (by first | (with_reducible assumption) | assumption)
        have q164 : x4_1 < (l0.length : Int) := of_decide_eq_true (by first | (with_reducible assumption) | assumption)
        obtain ⟨ad164, A164_1, c164_1, e164, hx164_0, hx164_1, hl164_1, hi164_1⟩ := at_T39 HR0.out x4_1 p164 q164
        obtain rfl : ad163 = ad164 := (by injection e164)
        replace hx164_0 := (HB.out.cell (World.block_lt_of_cell? w _ hx164_0)).trans hx164_0
        replace hx164_1 := (HB.out.cell (World.block_lt_of_cell? w _ hx164_1)).trans hx164_1
        have HR164_1 := Aside0.mk hi164_1
        have HC164_1 := Aside0.mk hl164_1
        clear hi164_1 hl164_1
        replace p164 := eq_true p164
        replace q164 := eq_true q164
        have ea_ := Option.some.inj (hx163_1.symm.trans hx164_1)
        injection ea_ with ea_ en_ ec_
        subst ea_
        subst ec_
        clear en_
        have p165 : 0 ≤ (x4_1 : Int) := of_decide_eq_true (by first | (with_reducible assumption) | assumption)
        have q165 : x4_1 < (l0.length : Int) := of_decide_eq_true (by first | (with_reducible assumption) | assumption)
        obtain ⟨ad165, A165_1, c165_1, e165, hx165_0, hx165_1, hl165_1, hi165_1⟩ := at_T39 HR0.out x4_1 p165 q165
        obtain rfl : ad163 = ad165 := (by injection e165)
        replace hx165_0 := (HB.out.cell (World.block_lt_of_cell? w _ hx165_0)).trans hx165_0
        replace hx165_1 := (HB.out.cell (World.block_lt_of_cell? w _ hx165_1)).trans hx165_1
        have HR165_1 := Aside0.mk hi165_1
        have HC165_1 := Aside0.mk hl165_1
        clear hi165_1 hl165_1
        replace p165 := eq_true p165
        replace q165 := eq_true q165
        have ea_ := Option.some.inj (hx163_1.symm.trans hx165_1)
        injection ea_ with ea_ en_ ec_
        subst ea_
        subst ec_
        clear en_
        go_wp2
        go_ret2
        exact ⟨_, by first | rfl | (simp [errW_none, errW_some] <;> rfl) | (simp [*, errW_none, errW_some] <;> rfl), by first | exact Kd.R_nil _ _ _ _ _ | exact Kd.N_nil _ _ _ _ _ | exact Kd.V_nil _ _ _ _ _ | exact Kd.Q_nil _ _ _ _ _ | exact Kd.S_nil _ _ _ _ _, by repeat (first | (with_reducible first | exact HB.out | apply below_alloc | apply pw_below_drewN | apply below_drew1) | exact HB.out)⟩
       ·rw [if_neg c6] at H
        have c6b0 : decide (255 < (((rd_T39 l0 x4_1).f1).length : Int)) = false := decide_eq_false c6
        have c6b1 : decide (255 < ((rd_T39 l0 x4_1).f1).length) = false := decide_eq_false (by omega)
        clear c6
        have H' := Aside0.mk H
        clear H
        have p163 : 0 ≤ (x4_1 : Int) := of_decide_eq_true (by first | (with_reducible assumption) | assumption)
        have q163 : x4_1 < (l0.length : Int) := of_decide_eq_true (by first | (with_reducible assumption) | assumption)
        obtain ⟨ad163, A163_1, c163_1, e163, hx163_0, hx163_1, hl163_1, hi163_1⟩ := at_T39 HR0.out x4_1 p163 q163
        cases e163
        replace hx163_0 := (HB.out.cell (World.block_lt_of_cell? w _ hx163_0)).trans hx163_0
        replace hx163_1 := (HB.out.cell (World.block_lt_of_cell? w _ hx163_1)).trans hx163_1
        have HR163_1 := Aside0.mk hi163_1
        have HC163_1 := Aside0.mk hl163_1
        clear hi163_1 hl163_1
        replace p163 := eq_true p163
        replace q163 := eq_true q163
        have p164 : 0 ≤ (x4_1 : Int) := of_decide_eq_true (by first | (with_reducible assumption) | assumption)
        have q164 : x4_1 < (l0.length : Int) := of_decide_eq_true (by first | (with_reducible assumption) | assumption)
        obtain ⟨ad164, A164_1, c164_1, e164, hx164_0, hx164_1, hl164_1, hi164_1⟩ := at_T39 HR0.out x4_1 p164 q164
        obtain rfl : ad163 = ad164 := (by injection e164)
        replace hx164_0 := (HB.out.cell (World.block_lt_of_cell? w _ hx164_0)).trans hx164_0
        replace hx164_1 := (HB.out.cell (World.block_lt_of_cell? w _ hx164_1)).trans hx164_1
        have HR164_1 := Aside0.mk hi164_1
        have HC164_1 := Aside0.mk hl164_1
        clear hi164_1 hl164_1
        replace p164 := eq_true p164
        replace q164 := eq_true q164
        have ea_ := Option.some.inj (hx163_1.symm.trans hx164_1)
        injection ea_ with ea_ en_ ec_
        subst ea_
        subst ec_
        clear en_
        have p165 : 0 ≤ (x4_1 : Int) := of_decide_eq_true (by first | (with_reducible assumption) | assumption)
        have q165 : x4_1 < (l0.length : Int) := of_decide_eq_true (by first | (with_reducible assumption) | assumption)
        obtain ⟨ad165, A165_1, c165_1, e165, hx165_0, hx165_1, hl165_1, hi165_1⟩ := at_T39 HR0.out x4_1 p165 q165
        obtain rfl : ad163 = ad165 := (by injection e165)
        replace hx165_0 := (HB.out.cell (World.block_lt_of_cell? w _ hx165_0)).trans hx165_0
        replace hx165_1 := (HB.out.cell (World.block_lt_of_cell? w _ hx165_1)).trans hx165_1
        have HR165_1 := Aside0.mk hi165_1
        have HC165_1 := Aside0.mk hl165_1
        clear hi165_1 hl165_1
        replace p165 := eq_true p165
        replace q165 := eq_true q165
        have ea_ := Option.some.inj (hx163_1.symm.trans hx165_1)
        injection ea_ with ea_ en_ ec_
        subst ea_
        subst ec_
        clear en_
        go_wp2
        go_roundg k1
        case measure => have := HK1.out; omega
        case rel => exact ⟨(wrap64 (x4_1 + 1)), (by first | rfl | (simp; done) | (simp [*]; done)), H', ⟨by have := HK1.out; omega⟩, ⟨by repeat (first | (with_reducible first | exact HB.out | apply below_alloc | apply pw_below_drewN | apply below_drew1) | exact HB.out)⟩⟩
    ·rw [if_neg c3] at H
     exact absurd H (by simp)
   ·rw [if_neg c2] at H
    have c2b0 : decide (x4_1 < (l0.length : Int)) = false := decide_eq_false c2
    clear c2
    have H' := Aside0.mk H
    clear H
    go_wp2
    go_loopg [5, 6] k1 (fun kq v5 v6 w' => ∃ (x5_2 : List Int) (x6_2 : Int), v6 = .int .i64 x6_2 ∧ Aside0 (lessorref02_Encode.l1 kq l0 x5_2 x6_2 = some (r1, r2)) ∧ Aside0 (kq ≤ k1) ∧ Aside0 (Kd.R (Kd.int .u8) 5 w' w.heap.size (fun _ => True) v5 x5_2) ∧ Aside0 (Below w.heap.size w w'))
    case atStart => exact ⟨(([] : List Int)), (0), (by first | rfl | (simp; done) | (simp [*]; done)), H', ⟨Nat.le_refl _⟩, ⟨by first | exact Kd.R_nil _ _ _ _ _ | exact Kd.N_nil _ _ _ _ _ | exact Kd.V_nil _ _ _ _ _ | exact Kd.Q_nil _ _ _ _ _ | exact Kd.S_nil _ _ _ _ _⟩, ⟨by repeat (first | (with_reducible first | exact HB.out | apply below_alloc | apply pw_below_drewN | apply below_drew1) | exact HB.out)⟩⟩
    case round =>
     clear H'
     try clear c1
     try clear p1
     try clear q1
     try clear hx1
     try clear c2
     try clear c2b0
     try clear p2
     try clear c3
     try clear c3b0
     try clear c4
     try clear c4b0
     try clear c5
     try clear c5b0
     try clear c6
     try clear c6b0
     try clear c6b1
     try clear p6
     try clear hx163_0
     try clear hx163_1
     try clear hx164_0
     try clear hx164_1
     try clear hx165_0
     try clear hx165_1
     try clear p163
     try clear p164
     try clear p165
     try clear q163
     try clear q164
     try clear q165
     obtain ⟨x5_2, x6_2, rfl, HA, HK2, HO_5, HB⟩ := hrel
     cases gk with
     | zero => exact absurd HA.out (by simp [lessorref02_Encode.l1])
     | succ k2 =>
      have H := HA.out
      clear HA
      simp only [lessorref02_Encode.l1] at H
      by_cases c7 : x6_2 < (l0.length : Int)
      ·rw [if_pos c7] at H
       have c7b0 : decide (x6_2 < (l0.length : Int)) = true := decide_eq_true c7
       clear c7
       by_cases c8 : 0 ≤ x6_2
       ·rw [if_pos c8] at H
        have c8b0 : decide (0 ≤ x6_2) = true := decide_eq_true c8
        clear c8
        obtain ⟨y168, hy168⟩ : ∃ y_ : List Int, y_ = (([((rd_T39 l0 x6_2).f0) % 256, ((((rd_T39 l0 x6_2).f1).length : Int)) % 256] : List Int)) := ⟨_, rfl⟩
        replace H : (if x5_2.length + y168.length < 140737488355328 then ((some (x5_2 ++ y168 : List Int)).bind fun y171 => (if y171.length + ((rd_T39 l0 x6_2).f1).length < 140737488355328 then ((some (y171 ++ ((rd_T39 l0 x6_2).f1) : List Int)).bind fun y175 => (if (y175.length : Int) ≥ 1024 then (some (([] : List Int), 3)) else (lessorref02_Encode.l1 k2 l0 y175 (wrap64 (x6_2 + 1))))) else (none))) else (none)) = some (r1, r2) := by first | (rw [hy168]; with_reducible exact H) | (have H2_ := (Option.bind_some _ _).symm.trans H; rw [hy168]; with_reducible exact H2_) | (have H2_ := (Option.bind_some _ _).symm.trans H; with_reducible exact H2_) | with_reducible exact H | (rw [hy168]; exact H) | exact H
        have Ny168 := Aside0.mk hy168
        clear hy168
        by_cases c9 : x5_2.length + y168.length < 140737488355328
        ·rw [if_pos c9] at H
         have LMc9 := Aside0.mk c9
         clear c9
         obtain ⟨y171, hy171⟩ : ∃ y_ : List Int, y_ = (x5_2 ++ y168) := ⟨_, rfl⟩
         replace H : (if y171.length + ((rd_T39 l0 x6_2).f1).length < 140737488355328 then ((some (y171 ++ ((rd_T39 l0 x6_2).f1) : List Int)).bind fun y175 => (if (y175.length : Int) ≥ 1024 then (some (([] : List Int), 3)) else (lessorref02_Encode.l1 k2 l0 y175 (wrap64 (x6_2 + 1))))) else (none)) = some (r1, r2) := by first | (rw [hy171]; with_reducible exact H) | (have H2_ := (Option.bind_some _ _).symm.trans H; rw [hy171]; with_reducible exact H2_) | (have H2_ := (Option.bind_some _ _).symm.trans H; with_reducible exact H2_) | with_reducible exact H | (rw [hy171]; exact H) | exact H
         have Ny171 := Aside0.mk hy171
         clear hy171
         by_cases c10 : y171.length + ((rd_T39 l0 x6_2).f1).length < 140737488355328
         ·rw [if_pos c10] at H
          have LMc10 := Aside0.mk c10
          clear c10
          obtain ⟨y175, hy175⟩ : ∃ y_ : List Int, y_ = (y171 ++ ((rd_T39 l0 x6_2).f1)) := ⟨_, rfl⟩
          replace H : (if (y175.length : Int) ≥ 1024 then (some (([] : List Int), 3)) else (lessorref02_Encode.l1 k2 l0 y175 (wrap64 (x6_2 + 1)))) = some (r1, r2) := by first | (rw [hy175]; with_reducible exact H) | (have H2_ := (Option.bind_some _ _).symm.trans H; rw [hy175]; with_reducible exact H2_) | (have H2_ := (Option.bind_some _ _).symm.trans H; with_reducible exact H2_) | with_reducible exact H | (rw [hy175]; exact H) | exact H
          have Ny175 := Aside0.mk hy175
          clear hy175
          by_cases c11 : (y175.length : Int) ≥ 1024
          ·rw [if_pos c11] at H
           have c11b0 : decide (1024 ≤ (y175.length : Int)) = true := decide_eq_true c11
           have c11b1 : decide (1024 ≤ y175.length) = true := decide_eq_true (by omega)
           clear c11
           simp only [Option.some.injEq, Prod.mk.injEq] at H
           obtain ⟨rfl, rfl⟩ := H
           try go_wp2
           have n0_ := Aside0.mk (Kd.R_drew HO_5.out)
           have n1_ := Aside0.mk (below_drew1 HB.out)
           clear HO_5
           clear HB
           have HO_5 := n0_
           have HB := n1_
           clear n0_ n1_
           have p166 : 0 ≤ (x6_2 : Int) := of_decide_eq_true (by first | (with_reducible assumption) | assumption)
           have q166 : x6_2 < (l0.length : Int) := of_decide_eq_true (by first | (with_reducible assumption) | assumption)
           obtain ⟨ad166, A166_1, c166_1, e166, hx166_0, hx166_1, hl166_1, hi166_1⟩ := at_T39 HR0.out x6_2 p166 q166
           have hw166_1 := hx166_1
           have hw166_0 := hx166_0
           cases e166
           replace hx166_0 := (HB.out.cell (World.block_lt_of_cell? w _ hx166_0)).trans hx166_0
           replace hx166_1 := (HB.out.cell (World.block_lt_of_cell? w _ hx166_1)).trans hx166_1
           have HR166_1 := Aside0.mk hi166_1
           have HC166_1 := Aside0.mk hl166_1
           clear hi166_1 hl166_1
           replace p166 := eq_true p166
           replace q166 := eq_true q166
           have p167 : 0 ≤ (x6_2 : Int) := of_decide_eq_true (by first | (with_reducible assumption) | assumption)
           have q167 : x6_2 < (l0.length : Int) := of_decide_eq_true (by first | (with_reducible assumption) | assumption)
           obtain ⟨ad167, A167_1, c167_1, e167, hx167_0, hx167_1, hl167_1, hi167_1⟩ := at_T39 HR0.out x6_2 p167 q167
           have hw167_1 := hx167_1
           have hw167_0 := hx167_0
           obtain rfl : ad166 = ad167 := (by injection e167)
           replace hx167_0 := (HB.out.cell (World.block_lt_of_cell? w _ hx167_0)).trans hx167_0
           replace hx167_1 := (HB.out.cell (World.block_lt_of_cell? w _ hx167_1)).trans hx167_1
           have HR167_1 := Aside0.mk hi167_1
           have HC167_1 := Aside0.mk hl167_1
           clear hi167_1 hl167_1
           replace p167 := eq_true p167
           replace q167 := eq_true q167
           have ea_ := Option.some.inj (hx166_1.symm.trans hx167_1)
           injection ea_ with ea_ en_ ec_
           subst ea_
           subst ec_
           clear en_
           refine start_ (n := 17) (S := fun w' => w'.cell? (ad166.add ((x6_2).toNat * 2)) = some (.int .i64 ((rd_T39 l0 x6_2).f0)) ∧ w'.cell? ⟨(ad166.add ((x6_2).toNat * 2)).block, (ad166.add ((x6_2).toNat * 2)).off + 1, none⟩ = some (.slice A166_1 ((rd_T39 l0 x6_2).f1).length c166_1) ∧ w'.cell? (ad166.add ((x6_2).toNat * 2)) = some (.int .i64 ((rd_T39 l0 x6_2).f0)) ∧ w'.cell? ⟨(ad166.add ((x6_2).toNat * 2)).block, (ad166.add ((x6_2).toNat * 2)).off + 1, none⟩ = some (.slice A166_1 ((rd_T39 l0 x6_2).f1).length c166_1)) (ds := []) #[false, false, false, false, false, false, false, false, false, false, false, false, false, false, false, false, false] (by kernel_rfl) rfl rfl ⟨((HB.out.cell (World.block_lt_of_cell? w _ hw166_0)).trans hw166_0), ((HB.out.cell (World.block_lt_of_cell? w _ hw166_1)).trans hw166_1), ((HB.out.cell (World.block_lt_of_cell? w _ hw167_0)).trans hw167_0), ((HB.out.cell (World.block_lt_of_cell? w _ hw167_1)).trans hw167_1)⟩ (fun hHeld => ?_); refine with_tabW lessorref02_Encode.tab10 lessorref02_Encode.bits10 (fun HT_ HW_ => ?_)
           generalize wr.drew = w12 at HO_5 HB HR166_1 HR167_1 hx166_0 hx166_1 hx167_0 hx167_1 hHeld ⊢
           refine pure_ (i := 0) (N := some 42) (v := ?_) (a' := ?_) #[true, false, false, false, false, false, false, false, false, false, false, false, false, false, false, false, false] rfl rfl (any_of HT_.out (by kernel_rfl)) (fun _ _ _ h => h) (Or.inl ⟨by rfl, ?_⟩) ?_ ?_
           rotate_left
           ·intro w'
            go_simp
            with_reducible rfl
           rotate_left
           ·simp only [Act.put, List.setIfInBounds_toArray, List.set_cons_zero, List.set_cons_succ, i64_w, i32_w]
            rfl
           refine pure_ (i := 1) (N := some 43) (v := ?_) (a' := ?_) #[true, true, false, false, false, false, false, false, false, false, false, false, false, false, false, false, false] rfl rfl (any_of HT_.out (by kernel_rfl)) (fun _ _ _ h => h) (Or.inl ⟨by rfl, ?_⟩) ?_ ?_
           rotate_left
           ·intro w'
            go_simp
            with_reducible rfl
           rotate_left
           ·simp only [Act.put, List.setIfInBounds_toArray, List.set_cons_zero, List.set_cons_succ, i64_w, i32_w]
            rfl
           refine pure_ (i := 2) (N := some 44) (v := ?_) (a' := ?_) #[true, true, true, false, false, false, false, false, false, false, false, false, false, false, false, false, false] rfl rfl (any_of HT_.out (by kernel_rfl)) (fun _ _ _ h => h) (Or.inl ⟨by rfl, ?_⟩) ?_ ?_
           rotate_left
           ·intro w'
            go_simp
            with_reducible rfl
           rotate_left
           ·simp only [Act.put, List.setIfInBounds_toArray, List.set_cons_zero, List.set_cons_succ, i64_w, i32_w]
            rfl
           refine pure_ (i := 3) (N := some 45) (v := ?_) (a' := ?_) #[true, true, true, true, false, false, false, false, false, false, false, false, false, false, false, false, false] rfl rfl (any_of HT_.out (by kernel_rfl)) (fun _ _ _ h => h) (Or.inl ⟨by rfl, ?_⟩) ?_ ?_
           rotate_left
           ·intro w'
            go_simp
            with_reducible rfl
           rotate_left
           ·simp only [Act.put, List.setIfInBounds_toArray, List.set_cons_zero, List.set_cons_succ, i64_w, i32_w]
            rfl
           refine pure_ (i := 4) (N := some 46) (v := ?_) (a' := ?_) #[true, true, true, true, true, false, false, false, false, false, false, false, false, false, false, false, false] rfl rfl (any_of HT_.out (by kernel_rfl)) (fun _ _ _ h => h) (Or.inl ⟨by rfl, ?_⟩) ?_ ?_
           rotate_left
           ·intro w'
            go_simp
            with_reducible rfl
           rotate_left
           ·simp only [Act.put, List.setIfInBounds_toArray, List.set_cons_zero, List.set_cons_succ, i64_w, i32_w]
            rfl
           refine pure_ (i := 7) (N := some 49) (v := ?_) (a' := ?_) #[true, true, true, true, true, false, false, true, false, false, false, false, false, false, false, false, false] rfl rfl (any_of HT_.out (by kernel_rfl)) (fun _ _ _ h => h) (Or.inl ⟨by rfl, ?_⟩) ?_ ?_
           rotate_left
           ·intro w'
            go_simp
            with_reducible rfl
           rotate_left
           ·simp only [Act.put, List.setIfInBounds_toArray, List.set_cons_zero, List.set_cons_succ, i64_w, i32_w]
            rfl
           refine pure_ (i := 8) (N := some 50) (v := ?_) (a' := ?_) #[true, true, true, true, true, false, false, true, true, false, false, false, false, false, false, false, false] rfl rfl (any_of HT_.out (by kernel_rfl)) (fun _ _ _ h => h) (Or.inl ⟨by rfl, ?_⟩) ?_ ?_
           rotate_left
           ·intro w'
            go_simp
            with_reducible rfl
           rotate_left
           ·simp only [Act.put, List.setIfInBounds_toArray, List.set_cons_zero, List.set_cons_succ, i64_w, i32_w]
            rfl
           refine pure_ (i := 9) (N := some 51) (v := ?_) (a' := ?_) #[true, true, true, true, true, false, false, true, true, true, false, false, false, false, false, false, false] rfl rfl (any_of HT_.out (by kernel_rfl)) (fun _ _ _ h => h) (Or.inl ⟨by rfl, ?_⟩) ?_ ?_
           rotate_left
           ·intro w'
            go_simp
            with_reducible rfl
           rotate_left
           ·simp only [Act.put, List.setIfInBounds_toArray, List.set_cons_zero, List.set_cons_succ, i64_w, i32_w]
            rfl
           refine pure_ (i := 10) (N := some 52) (v := ?_) (a' := ?_) #[true, true, true, true, true, false, false, true, true, true, true, false, false, false, false, false, false] rfl rfl (any_of HT_.out (by kernel_rfl)) (fun _ _ _ h => h) (Or.inl ⟨by rfl, ?_⟩) ?_ ?_
           rotate_left
           ·intro w'
            go_simp
            with_reducible rfl
           rotate_left
           ·simp only [Act.put, List.setIfInBounds_toArray, List.set_cons_zero, List.set_cons_succ, i64_w, i32_w]
            rfl
           refine take_ (i := 5) (N := some 47) (v := ?_) (a' := ?_) #[true, true, true, true, true, true, false, true, true, true, true, false, false, false, false, false, false] rfl rfl (take_ofW HT_.out HW_.out (by kernel_rfl)) (fun _ _ _ h => h) (Or.inl ⟨by rfl, ?_⟩) hHeld ?_ ?_
           rotate_left
           ·rintro w' ⟨s0, s1, s2, s3⟩
            go_simp
            with_reducible rfl
           rotate_left
           ·simp only [Act.put, List.setIfInBounds_toArray, List.set_cons_zero, List.set_cons_succ, i64_w, i32_w]
            rfl
           refine pure_ (i := 6) (N := some 48) (v := ?_) (a' := ?_) #[true, true, true, true, true, true, true, true, true, true, true, false, false, false, false, false, false] rfl rfl (any_of HT_.out (by kernel_rfl)) (fun _ _ _ h => h) (Or.inl ⟨by rfl, ?_⟩) ?_ ?_
           rotate_left
           ·intro w'
            go_simp
            with_reducible rfl
           rotate_left
           ·simp only [Act.put, List.setIfInBounds_toArray, List.set_cons_zero, List.set_cons_succ, i64_w, i32_w]
            rfl
           refine take_ (i := 11) (N := some 53) (v := ?_) (a' := ?_) #[true, true, true, true, true, true, true, true, true, true, true, true, false, false, false, false, false] rfl rfl (take_ofW HT_.out HW_.out (by kernel_rfl)) (fun _ _ _ h => h) (Or.inl ⟨by rfl, ?_⟩) hHeld ?_ ?_
           rotate_left
           ·rintro w' ⟨s0, s1, s2, s3⟩
            go_simp
            with_reducible rfl
           rotate_left
           ·simp only [Act.put, List.setIfInBounds_toArray, List.set_cons_zero, List.set_cons_succ, i64_w, i32_w]
            rfl
           refine pure_ (i := 12) (N := some 54) (v := ?_) (a' := ?_) #[true, true, true, true, true, true, true, true, true, true, true, true, true, false, false, false, false] rfl rfl (any_of HT_.out (by kernel_rfl)) (fun _ _ _ h => h) (Or.inl ⟨by rfl, ?_⟩) ?_ ?_
           rotate_left
           ·intro w'
            go_simp
            with_reducible rfl
           rotate_left
           ·simp only [Act.put, List.setIfInBounds_toArray, List.set_cons_zero, List.set_cons_succ, i64_w, i32_w]
            rfl
           refine pure_ (i := 13) (N := some 55) (v := ?_) (a' := ?_) #[true, true, true, true, true, true, true, true, true, true, true, true, true, true, false, false, false] rfl rfl (any_of HT_.out (by kernel_rfl)) (fun _ _ _ h => h) (Or.inl ⟨by rfl, ?_⟩) ?_ ?_
           rotate_left
           ·intro w'
            go_simp
            with_reducible rfl
           rotate_left
           ·simp only [Act.put, List.setIfInBounds_toArray, List.set_cons_zero, List.set_cons_succ, i64_w, i32_w]
            rfl
           refine one_ (i := 14) (N := some 56) #[true, true, true, true, true, true, true, true, true, true, true, true, true, true, true, false, false] rfl rfl (one_of HT_.out (by kernel_rfl)) (by decide) (fun K hK => ?_)
           refine Kd.R_lit_step (Kd.int .u8) _ 5 ?hg_1 (N := 56) ?hd_1 (xs := ([((rd_T39 l0 x6_2).f0) % 256, ((((rd_T39 l0 x6_2).f1).length : Int)) % 256] : List Int)) (inner := [.int .u8 (((rd_T39 l0 x6_2).f0) % 256), .int .u8 (((((rd_T39 l0 x6_2).f1).length : Int)) % 256)]) (ok := fun _ => True) (okp := fun _ => True) ?hr_1 ?hp_1 (fun _ hk => hk) trivial (Below.refl _ _) (Nat.le_refl _) (by simp) ?_; (case hd_1 => rfl); (case hg_1 => rfl); (case hr_1 => first | (go_simp; done) | (go_simp; rfl)); (case hp_1 => exact (Reps.one (show Kd.M (Kd.int .u8) _ _ _ (((rd_T39 l0 x6_2).f0) % 256) [.int .u8 (((rd_T39 l0 x6_2).f0) % 256)] from rfl) (Reps.one (show Kd.M (Kd.int .u8) _ _ _ (((((rd_T39 l0 x6_2).f1).length : Int)) % 256) [.int .u8 (((((rd_T39 l0 x6_2).f1).length : Int)) % 256)] from rfl) (Reps.none _ _))))
           intro v169 w13 ho14 hb hg_ hnew_
           clear hg_ hnew_
           (first | rw [← Ny168.out] at ho14 | (simp only [Int.reduceToNat] at ho14; rw [← Ny168.out] at ho14))
           have n0_ := Aside0.mk (Kd.R_elder' (by (with_reducible repeat (first | apply Kd.R_alloc | apply Kd.R_drewN | apply Kd.R_drew)); exact HO_5.out) (Kd.R_base ho14) hb)
           have n1_ := Aside0.mk (Kd.R_lower (Kd.R_new' ho14 (Kd.R_lt (by (with_reducible repeat (first | apply Kd.R_alloc | apply Kd.R_drewN | apply Kd.R_drew)); exact HO_5.out))) (below_size (by repeat (first | (with_reducible first | exact HB.out | apply below_alloc | apply pw_below_drewN | apply below_drew1) | exact HB.out))))
           have n2_ := Aside0.mk (below_step (by repeat (first | (with_reducible first | exact HB.out | apply below_alloc | apply pw_below_drewN | apply below_drew1) | exact HB.out)) hb)
           clear HO_5
           clear HB
           have HO_5 := n0_
           have HO170 := n1_
           have HB := n2_
           clear n0_ n1_ n2_
           clear hb ho14
           obtain ⟨Ao16, co16, eo16⟩ := Kd.R_slice HO170.out
           (first | subst eo16 | (injection eo16 with f1_ f2_ f3_; have f4_ := f1_.symm; have f5_ := f3_.symm; clear f1_ f2_ f3_; subst f4_; subst f5_))
           refine hK.out _ _ ⟨((HB.out.cell (World.block_lt_of_cell? w _ hw166_0)).trans hw166_0), ((HB.out.cell (World.block_lt_of_cell? w _ hw166_1)).trans hw166_1), ((HB.out.cell (World.block_lt_of_cell? w _ hw167_0)).trans hw167_0), ((HB.out.cell (World.block_lt_of_cell? w _ hw167_1)).trans hw167_1)⟩ (fun hHeld => ?_)
           clear hK K
           refine norm_ (a' := ?_) ?_ ?_
           rotate_left
           ·show Act.put _ (some 56) _ = _
            simp only [Act.put, List.setIfInBounds_toArray, List.set_cons_zero, List.set_cons_succ, i64_w, i32_w]
            rfl
           refine one_ (i := 15) (N := some 57) #[true, true, true, true, true, true, true, true, true, true, true, true, true, true, true, true, false] rfl rfl (one_of HT_.out (by kernel_rfl)) (by decide) (fun K hK => ?_)
           refine Kd.R_append_rows_step (Kd.int .u8) (w0 := w) w.heap.size (by rfl) (.tmp 42) (.tmp 56) 22 5 (.int .u8 0) 1 rfl Tryd.underlying22 info5 rfl (by decide) (by omega) u5 x5_2 y168 _ _ _ (fun k_ => some k_ ≠ (.slice Ao16 y168.length co16 : Value).ownBlock) (fun _ => False) rfl rfl ?aO_2 ?aR_2 (fun _ _ h => h) (fun _ h => h.elim) ?aF_2 ?aB_2 ?aS_2 ?aL_2 ?_
           (case aR_2 => repeat (first | exact (Kd.R_reads' HO170.out).2.2 | (with_reducible refine Kd.C_alloc ?_ _) | (with_reducible refine Kd.C_drewN ?_ _) | (with_reducible refine Kd.C_drew ?_)))
           (case aB_2 => exact (by repeat (first | (with_reducible first | exact HB.out | apply below_alloc | apply pw_below_drewN | apply below_drew1) | exact HB.out)))
           (case aF_2 => exact (fun k_ hk => Kd.fresh' (Kd.R_lt (by (with_reducible repeat (first | apply Kd.R_alloc | apply Kd.R_drewN | apply Kd.R_drew)); exact HO170.out)) k_ hk))
           (case aO_2 => exact (by (with_reducible repeat (first | apply Kd.R_alloc | apply Kd.R_drewN | apply Kd.R_drew)); exact Kd.R_mono HO_5.out (fun _ hk => hk.2)))
           (case aS_2 => exact (below_size (by repeat (first | (with_reducible first | exact HB.out | apply below_alloc | apply pw_below_drewN | apply below_drew1) | exact HB.out))))
           (case aL_2 => have := LMc9.out; omega)
           intro v172 w15 ho hb hg hat
           rw [← Ny171.out] at ho
           have n0_ := Aside0.mk (Kd.R_after (ok := (fun _ => True)) (by (with_reducible repeat (first | apply Kd.R_alloc | apply Kd.R_drewN | apply Kd.R_drew)); exact HO170.out) hg hat)
           have n1_ := Aside0.mk (hb)
           have n2_ := Aside0.mk (ho)
           clear HO170
           clear HB
           clear HO_5
           have HO170 := n0_
           have HB := n1_
           have HO173 := n2_
           clear n0_ n1_ n2_
           clear ho hb hg hat
           refine hK.out _ _ ⟨((HB.out.cell (World.block_lt_of_cell? w _ hw166_0)).trans hw166_0), ((HB.out.cell (World.block_lt_of_cell? w _ hw166_1)).trans hw166_1), ((HB.out.cell (World.block_lt_of_cell? w _ hw167_0)).trans hw167_0), ((HB.out.cell (World.block_lt_of_cell? w _ hw167_1)).trans hw167_1)⟩ (fun hHeld => ?_)
           clear hK K
           refine norm_ (a' := ?_) ?_ ?_
           rotate_left
           ·show Act.put _ (some 57) _ = _
            simp only [Act.put, List.setIfInBounds_toArray, List.set_cons_zero, List.set_cons_succ, i64_w, i32_w]
            rfl
           refine pure_ (i := 16) (N := some 5) (v := ?_) (a' := ?_) #[true, true, true, true, true, true, true, true, true, true, true, true, true, true, true, true, true] rfl rfl (any_of HT_.out (by kernel_rfl)) (fun _ _ _ h => h) (Or.inl ⟨by rfl, ?_⟩) ?_ ?_
           rotate_left
           ·intro w'
            go_simp
            with_reducible rfl
           rotate_left
           ·simp only [Act.put, List.setIfInBounds_toArray, List.set_cons_zero, List.set_cons_succ, i64_w, i32_w]
            rfl
           refine done_ (done_of HT_.out (by kernel_rfl)) ?_
           have p174 : 0 ≤ (x6_2 : Int) := of_decide_eq_true (by first | (with_reducible assumption) | assumption)
           have q174 : x6_2 < (l0.length : Int) := of_decide_eq_true (by first | (with_reducible assumption) | assumption)
           obtain ⟨ad174, A174_1, c174_1, e174, hx174_0, hx174_1, hl174_1, hi174_1⟩ := at_T39 HR0.out x6_2 p174 q174
           obtain rfl : ad166 = ad174 := (by injection e174)
           replace hx174_0 := (HB.out.cell (World.block_lt_of_cell? w _ hx174_0)).trans hx174_0
           replace hx174_1 := (HB.out.cell (World.block_lt_of_cell? w _ hx174_1)).trans hx174_1
           have HR174_1 := Aside0.mk hi174_1
           have HC174_1 := Aside0.mk hl174_1
           clear hi174_1 hl174_1
           replace p174 := eq_true p174
           replace q174 := eq_true q174
           try go_wp2_with (first | ((with_reducible refine gate_builtin (b := .append) (xs := #[.tmp 58, .tmp 63]) rfl ?_); (try (refine gate_guard (by rfl) ?_; dsimp only)); at_builtin; refine Kd.R_append_rows (Kd.int .u8) (w0 := w) w.heap.size rfl (.tmp 58) (.tmp 63) 22 5 (.int .u8 0) 1 rfl Tryd.underlying22 info5 rfl (by decide) (by omega) v172 y171 ((rd_T39 l0 x6_2).f1) _ _ _ (fun k_ => some k_ ≠ (.slice Ao16 y168.length co16 : Value).ownBlock) (fun _ => False) rfl rfl ?aO_3 ?aR_3 (fun _ _ h => h) (fun _ h => h.elim) ?aF_3 ?aB_3 ?aS_3 ?aL_3 ?_; (case aR_3 => repeat (first | exact (Kd.C_below HR174_1.out HB.out) | exact (Kd.C_below (Aside0.out (by assumption)) HB.out) | (with_reducible refine Kd.C_alloc ?_ _) | (with_reducible refine Kd.C_drewN ?_ _) | (with_reducible refine Kd.C_drew ?_))); (case aB_3 => exact (by repeat (first | (with_reducible first | exact HB.out | apply below_alloc | apply pw_below_drewN | apply below_drew1) | exact HB.out))); (case aF_3 => exact (fun k_ hk => Kd.fresh' (Kd.R_lt (by (with_reducible repeat (first | apply Kd.R_alloc | apply Kd.R_drewN | apply Kd.R_drew)); exact HO170.out)) k_ hk)); (case aO_3 => exact (by (with_reducible repeat (first | apply Kd.R_alloc | apply Kd.R_drewN | apply Kd.R_drew)); exact HO173.out)); (case aS_3 => exact (below_size (by repeat (first | (with_reducible first | exact HB.out | apply below_alloc | apply pw_below_drewN | apply below_drew1) | exact HB.out)))); (case aL_3 => have := LMc10.out; omega); intro v176 w17 ho hb hg hat; rw [← Ny175.out] at ho; have n0_ := Aside0.mk (Kd.R_after (ok := (fun _ => True)) (by (with_reducible repeat (first | apply Kd.R_alloc | apply Kd.R_drewN | apply Kd.R_drew)); exact HO170.out) hg hat); have n1_ := Aside0.mk (hb); have n2_ := Aside0.mk (ho); clear HO170; clear HB; clear HO173; have HO170 := n0_; have HB := n1_; have HO177 := n2_; clear n0_ n1_ n2_; clear ho hb hg hat; obtain ⟨Ao18, co18, eo18⟩ := Kd.R_slice HO177.out; subst eo18))
           go_ret2
           exact ⟨_, by first | rfl | (simp [errW_none, errW_some] <;> rfl) | (simp [*, errW_none, errW_some] <;> rfl), by first | exact Kd.R_nil _ _ _ _ _ | exact Kd.N_nil _ _ _ _ _ | exact Kd.V_nil _ _ _ _ _ | exact Kd.Q_nil _ _ _ _ _ | exact Kd.S_nil _ _ _ _ _, by repeat (first | (with_reducible first | exact HB.out | apply below_alloc | apply pw_below_drewN | apply below_drew1) | exact HB.out)⟩
          ·rw [if_neg c11] at H
           have c11b0 : decide (1024 ≤ (y175.length : Int)) = false := decide_eq_false c11
           have c11b1 : decide (1024 ≤ y175.length) = false := decide_eq_false (by omega)
           clear c11
           have H' := Aside0.mk H
           clear H
           try go_wp2
           have n0_ := Aside0.mk (Kd.R_drew HO_5.out)
           have n1_ := Aside0.mk (below_drew1 HB.out)
           clear HO_5
           clear HB
           have HO_5 := n0_
           have HB := n1_
           clear n0_ n1_
           have p166 : 0 ≤ (x6_2 : Int) := of_decide_eq_true (by first | (with_reducible assumption) | assumption)
           have q166 : x6_2 < (l0.length : Int) := of_decide_eq_true (by first | (with_reducible assumption) | assumption)
           obtain ⟨ad166, A166_1, c166_1, e166, hx166_0, hx166_1, hl166_1, hi166_1⟩ := at_T39 HR0.out x6_2 p166 q166
           have hw166_1 := hx166_1
           have hw166_0 := hx166_0
           cases e166
           replace hx166_0 := (HB.out.cell (World.block_lt_of_cell? w _ hx166_0)).trans hx166_0
           replace hx166_1 := (HB.out.cell (World.block_lt_of_cell? w _ hx166_1)).trans hx166_1
           have HR166_1 := Aside0.mk hi166_1
           have HC166_1 := Aside0.mk hl166_1
           clear hi166_1 hl166_1
           replace p166 := eq_true p166
           replace q166 := eq_true q166
           have p167 : 0 ≤ (x6_2 : Int) := of_decide_eq_true (by first | (with_reducible assumption) | assumption)
           have q167 : x6_2 < (l0.length : Int) := of_decide_eq_true (by first | (with_reducible assumption) | assumption)
           obtain ⟨ad167, A167_1, c167_1, e167, hx167_0, hx167_1, hl167_1, hi167_1⟩ := at_T39 HR0.out x6_2 p167 q167
           have hw167_1 := hx167_1
           have hw167_0 := hx167_0
           obtain rfl : ad166 = ad167 := (by injection e167)
           replace hx167_0 := (HB.out.cell (World.block_lt_of_cell? w _ hx167_0)).trans hx167_0
           replace hx167_1 := (HB.out.cell (World.block_lt_of_cell? w _ hx167_1)).trans hx167_1
           have HR167_1 := Aside0.mk hi167_1
           have HC167_1 := Aside0.mk hl167_1
           clear hi167_1 hl167_1
           replace p167 := eq_true p167
           replace q167 := eq_true q167
           have ea_ := Option.some.inj (hx166_1.symm.trans hx167_1)
           injection ea_ with ea_ en_ ec_
           subst ea_
           subst ec_
           clear en_
           refine start_ (n := 17) (S := fun w' => w'.cell? (ad166.add ((x6_2).toNat * 2)) = some (.int .i64 ((rd_T39 l0 x6_2).f0)) ∧ w'.cell? ⟨(ad166.add ((x6_2).toNat * 2)).block, (ad166.add ((x6_2).toNat * 2)).off + 1, none⟩ = some (.slice A166_1 ((rd_T39 l0 x6_2).f1).length c166_1) ∧ w'.cell? (ad166.add ((x6_2).toNat * 2)) = some (.int .i64 ((rd_T39 l0 x6_2).f0)) ∧ w'.cell? ⟨(ad166.add ((x6_2).toNat * 2)).block, (ad166.add ((x6_2).toNat * 2)).off + 1, none⟩ = some (.slice A166_1 ((rd_T39 l0 x6_2).f1).length c166_1)) (ds := []) #[false, false, false, false, false, false, false, false, false, false, false, false, false, false, false, false, false] (by kernel_rfl) rfl rfl ⟨((HB.out.cell (World.block_lt_of_cell? w _ hw166_0)).trans hw166_0), ((HB.out.cell (World.block_lt_of_cell? w _ hw166_1)).trans hw166_1), ((HB.out.cell (World.block_lt_of_cell? w _ hw167_0)).trans hw167_0), ((HB.out.cell (World.block_lt_of_cell? w _ hw167_1)).trans hw167_1)⟩ (fun hHeld => ?_); refine with_tabW lessorref02_Encode.tab10 lessorref02_Encode.bits10 (fun HT_ HW_ => ?_)
           generalize wr.drew = w19 at HO_5 HB HR166_1 HR167_1 hx166_0 hx166_1 hx167_0 hx167_1 hHeld ⊢
           refine pure_ (i := 0) (N := some 42) (v := ?_) (a' := ?_) #[true, false, false, false, false, false, false, false, false, false, false, false, false, false, false, false, false] rfl rfl (any_of HT_.out (by kernel_rfl)) (fun _ _ _ h => h) (Or.inl ⟨by rfl, ?_⟩) ?_ ?_
           rotate_left
           ·intro w'
            go_simp
            with_reducible rfl
           rotate_left
           ·simp only [Act.put, List.setIfInBounds_toArray, List.set_cons_zero, List.set_cons_succ, i64_w, i32_w]
            rfl
           refine pure_ (i := 1) (N := some 43) (v := ?_) (a' := ?_) #[true, true, false, false, false, false, false, false, false, false, false, false, false, false, false, false, false] rfl rfl (any_of HT_.out (by kernel_rfl)) (fun _ _ _ h => h) (Or.inl ⟨by rfl, ?_⟩) ?_ ?_
           rotate_left
           ·intro w'
            go_simp
            with_reducible rfl
           rotate_left
           ·simp only [Act.put, List.setIfInBounds_toArray, List.set_cons_zero, List.set_cons_succ, i64_w, i32_w]
            rfl
           refine pure_ (i := 2) (N := some 44) (v := ?_) (a' := ?_) #[true, true, true, false, false, false, false, false, false, false, false, false, false, false, false, false, false] rfl rfl (any_of HT_.out (by kernel_rfl)) (fun _ _ _ h => h) (Or.inl ⟨by rfl, ?_⟩) ?_ ?_
           rotate_left
           ·intro w'
            go_simp
            with_reducible rfl
           rotate_left
           ·simp only [Act.put, List.setIfInBounds_toArray, List.set_cons_zero, List.set_cons_succ, i64_w, i32_w]
            rfl
           refine pure_ (i := 3) (N := some 45) (v := ?_) (a' := ?_) #[true, true, true, true, false, false, false, false, false, false, false, false, false, false, false, false, false] rfl rfl (any_of HT_.out (by kernel_rfl)) (fun _ _ _ h => h) (Or.inl ⟨by rfl, ?_⟩) ?_ ?_
           rotate_left
           ·intro w'
            go_simp
            with_reducible rfl
           rotate_left
           ·simp only [Act.put, List.setIfInBounds_toArray, List.set_cons_zero, List.set_cons_succ, i64_w, i32_w]
            rfl
           refine pure_ (i := 4) (N := some 46) (v := ?_) (a' := ?_) #[true, true, true, true, true, false, false, false, false, false, false, false, false, false, false, false, false] rfl rfl (any_of HT_.out (by kernel_rfl)) (fun _ _ _ h => h) (Or.inl ⟨by rfl, ?_⟩) ?_ ?_
           rotate_left
           ·intro w'
            go_simp
            with_reducible rfl
           rotate_left
           ·simp only [Act.put, List.setIfInBounds_toArray, List.set_cons_zero, List.set_cons_succ, i64_w, i32_w]
            rfl
           refine pure_ (i := 7) (N := some 49) (v := ?_) (a' := ?_) #[true, true, true, true, true, false, false, true, false, false, false, false, false, false, false, false, false] rfl rfl (any_of HT_.out (by kernel_rfl)) (fun _ _ _ h => h) (Or.inl ⟨by rfl, ?_⟩) ?_ ?_
           rotate_left
           ·intro w'
            go_simp
            with_reducible rfl
           rotate_left
           ·simp only [Act.put, List.setIfInBounds_toArray, List.set_cons_zero, List.set_cons_succ, i64_w, i32_w]
            rfl
           refine pure_ (i := 8) (N := some 50) (v := ?_) (a' := ?_) #[true, true, true, true, true, false, false, true, true, false, false, false, false, false, false, false, false] rfl rfl (any_of HT_.out (by kernel_rfl)) (fun _ _ _ h => h) (Or.inl ⟨by rfl, ?_⟩) ?_ ?_
           rotate_left
           ·intro w'
            go_simp
            with_reducible rfl
           rotate_left
           ·simp only [Act.put, List.setIfInBounds_toArray, List.set_cons_zero, List.set_cons_succ, i64_w, i32_w]
            rfl
           refine pure_ (i := 9) (N := some 51) (v := ?_) (a' := ?_) #[true, true, true, true, true, false, false, true, true, true, false, false, false, false, false, false, false] rfl rfl (any_of HT_.out (by kernel_rfl)) (fun _ _ _ h => h) (Or.inl ⟨by rfl, ?_⟩) ?_ ?_
           rotate_left
           ·intro w'
            go_simp
            with_reducible rfl
           rotate_left
           ·simp only [Act.put, List.setIfInBounds_toArray, List.set_cons_zero, List.set_cons_succ, i64_w, i32_w]
            rfl
           refine pure_ (i := 10) (N := some 52) (v := ?_) (a' := ?_) #[true, true, true, true, true, false, false, true, true, true, true, false, false, false, false, false, false] rfl rfl (any_of HT_.out (by kernel_rfl)) (fun _ _ _ h => h) (Or.inl ⟨by rfl, ?_⟩) ?_ ?_
           rotate_left
           ·intro w'
            go_simp
            with_reducible rfl
           rotate_left
           ·simp only [Act.put, List.setIfInBounds_toArray, List.set_cons_zero, List.set_cons_succ, i64_w, i32_w]
            rfl
           refine take_ (i := 5) (N := some 47) (v := ?_) (a' := ?_) #[true, true, true, true, true, true, false, true, true, true, true, false, false, false, false, false, false] rfl rfl (take_ofW HT_.out HW_.out (by kernel_rfl)) (fun _ _ _ h => h) (Or.inl ⟨by rfl, ?_⟩) hHeld ?_ ?_
           rotate_left
           ·rintro w' ⟨s0, s1, s2, s3⟩
            go_simp
            with_reducible rfl
           rotate_left
           ·simp only [Act.put, List.setIfInBounds_toArray, List.set_cons_zero, List.set_cons_succ, i64_w, i32_w]
            rfl
           refine pure_ (i := 6) (N := some 48) (v := ?_) (a' := ?_) #[true, true, true, true, true, true, true, true, true, true, true, false, false, false, false, false, false] rfl rfl (any_of HT_.out (by kernel_rfl)) (fun _ _ _ h => h) (Or.inl ⟨by rfl, ?_⟩) ?_ ?_
           rotate_left
           ·intro w'
            go_simp
            with_reducible rfl
           rotate_left
           ·simp only [Act.put, List.setIfInBounds_toArray, List.set_cons_zero, List.set_cons_succ, i64_w, i32_w]
            rfl
           refine take_ (i := 11) (N := some 53) (v := ?_) (a' := ?_) #[true, true, true, true, true, true, true, true, true, true, true, true, false, false, false, false, false] rfl rfl (take_ofW HT_.out HW_.out (by kernel_rfl)) (fun _ _ _ h => h) (Or.inl ⟨by rfl, ?_⟩) hHeld ?_ ?_
           rotate_left
           ·rintro w' ⟨s0, s1, s2, s3⟩
            go_simp
            with_reducible rfl
           rotate_left
           ·simp only [Act.put, List.setIfInBounds_toArray, List.set_cons_zero, List.set_cons_succ, i64_w, i32_w]
            rfl
           refine pure_ (i := 12) (N := some 54) (v := ?_) (a' := ?_) #[true, true, true, true, true, true, true, true, true, true, true, true, true, false, false, false, false] rfl rfl (any_of HT_.out (by kernel_rfl)) (fun _ _ _ h => h) (Or.inl ⟨by rfl, ?_⟩) ?_ ?_
           rotate_left
           ·intro w'
            go_simp
            with_reducible rfl
           rotate_left
           ·simp only [Act.put, List.setIfInBounds_toArray, List.set_cons_zero, List.set_cons_succ, i64_w, i32_w]
            rfl
           refine pure_ (i := 13) (N := some 55) (v := ?_) (a' := ?_) #[true, true, true, true, true, true, true, true, true, true, true, true, true, true, false, false, false] rfl rfl (any_of HT_.out (by kernel_rfl)) (fun _ _ _ h => h) (Or.inl ⟨by rfl, ?_⟩) ?_ ?_
           rotate_left
           ·intro w'
            go_simp
            with_reducible rfl
           rotate_left
           ·simp only [Act.put, List.setIfInBounds_toArray, List.set_cons_zero, List.set_cons_succ, i64_w, i32_w]
            rfl
           refine one_ (i := 14) (N := some 56) #[true, true, true, true, true, true, true, true, true, true, true, true, true, true, true, false, false] rfl rfl (one_of HT_.out (by kernel_rfl)) (by decide) (fun K hK => ?_)
           refine Kd.R_lit_step (Kd.int .u8) _ 5 ?hg_4 (N := 56) ?hd_4 (xs := ([((rd_T39 l0 x6_2).f0) % 256, ((((rd_T39 l0 x6_2).f1).length : Int)) % 256] : List Int)) (inner := [.int .u8 (((rd_T39 l0 x6_2).f0) % 256), .int .u8 (((((rd_T39 l0 x6_2).f1).length : Int)) % 256)]) (ok := fun _ => True) (okp := fun _ => True) ?hr_4 ?hp_4 (fun _ hk => hk) trivial (Below.refl _ _) (Nat.le_refl _) (by simp) ?_; (case hd_4 => rfl); (case hg_4 => rfl); (case hr_4 => first | (go_simp; done) | (go_simp; rfl)); (case hp_4 => exact (Reps.one (show Kd.M (Kd.int .u8) _ _ _ (((rd_T39 l0 x6_2).f0) % 256) [.int .u8 (((rd_T39 l0 x6_2).f0) % 256)] from rfl) (Reps.one (show Kd.M (Kd.int .u8) _ _ _ (((((rd_T39 l0 x6_2).f1).length : Int)) % 256) [.int .u8 (((((rd_T39 l0 x6_2).f1).length : Int)) % 256)] from rfl) (Reps.none _ _))))
           intro v169 w20 ho21 hb hg_ hnew_
           clear hg_ hnew_
           (first | rw [← Ny168.out] at ho21 | (simp only [Int.reduceToNat] at ho21; rw [← Ny168.out] at ho21))
           have n0_ := Aside0.mk (Kd.R_elder' (by (with_reducible repeat (first | apply Kd.R_alloc | apply Kd.R_drewN | apply Kd.R_drew)); exact HO_5.out) (Kd.R_base ho21) hb)
           have n1_ := Aside0.mk (Kd.R_lower (Kd.R_new' ho21 (Kd.R_lt (by (with_reducible repeat (first | apply Kd.R_alloc | apply Kd.R_drewN | apply Kd.R_drew)); exact HO_5.out))) (below_size (by repeat (first | (with_reducible first | exact HB.out | apply below_alloc | apply pw_below_drewN | apply below_drew1) | exact HB.out))))
           have n2_ := Aside0.mk (below_step (by repeat (first | (with_reducible first | exact HB.out | apply below_alloc | apply pw_below_drewN | apply below_drew1) | exact HB.out)) hb)
           clear HO_5
           clear HB
           have HO_5 := n0_
           have HO170 := n1_
           have HB := n2_
           clear n0_ n1_ n2_
           clear hb ho21
           obtain ⟨Ao23, co23, eo23⟩ := Kd.R_slice HO170.out
           (first | subst eo23 | (injection eo23 with f1_ f2_ f3_; have f4_ := f1_.symm; have f5_ := f3_.symm; clear f1_ f2_ f3_; subst f4_; subst f5_))
           refine hK.out _ _ ⟨((HB.out.cell (World.block_lt_of_cell? w _ hw166_0)).trans hw166_0), ((HB.out.cell (World.block_lt_of_cell? w _ hw166_1)).trans hw166_1), ((HB.out.cell (World.block_lt_of_cell? w _ hw167_0)).trans hw167_0), ((HB.out.cell (World.block_lt_of_cell? w _ hw167_1)).trans hw167_1)⟩ (fun hHeld => ?_)
           clear hK K
           refine norm_ (a' := ?_) ?_ ?_
           rotate_left
           ·show Act.put _ (some 56) _ = _
            simp only [Act.put, List.setIfInBounds_toArray, List.set_cons_zero, List.set_cons_succ, i64_w, i32_w]
            rfl
           refine one_ (i := 15) (N := some 57) #[true, true, true, true, true, true, true, true, true, true, true, true, true, true, true, true, false] rfl rfl (one_of HT_.out (by kernel_rfl)) (by decide) (fun K hK => ?_)
           refine Kd.R_append_rows_step (Kd.int .u8) (w0 := w) w.heap.size (by rfl) (.tmp 42) (.tmp 56) 22 5 (.int .u8 0) 1 rfl Tryd.underlying22 info5 rfl (by decide) (by omega) u5 x5_2 y168 _ _ _ (fun k_ => some k_ ≠ (.slice Ao23 y168.length co23 : Value).ownBlock) (fun _ => False) rfl rfl ?aO_5 ?aR_5 (fun _ _ h => h) (fun _ h => h.elim) ?aF_5 ?aB_5 ?aS_5 ?aL_5 ?_
           (case aR_5 => repeat (first | exact (Kd.R_reads' HO170.out).2.2 | (with_reducible refine Kd.C_alloc ?_ _) | (with_reducible refine Kd.C_drewN ?_ _) | (with_reducible refine Kd.C_drew ?_)))
           (case aB_5 => exact (by repeat (first | (with_reducible first | exact HB.out | apply below_alloc | apply pw_below_drewN | apply below_drew1) | exact HB.out)))
           (case aF_5 => exact (fun k_ hk => Kd.fresh' (Kd.R_lt (by (with_reducible repeat (first | apply Kd.R_alloc | apply Kd.R_drewN | apply Kd.R_drew)); exact HO170.out)) k_ hk))
           (case aO_5 => exact (by (with_reducible repeat (first | apply Kd.R_alloc | apply Kd.R_drewN | apply Kd.R_drew)); exact Kd.R_mono HO_5.out (fun _ hk => hk.2)))
           (case aS_5 => exact (below_size (by repeat (first | (with_reducible first | exact HB.out | apply below_alloc | apply pw_below_drewN | apply below_drew1) | exact HB.out))))
           (case aL_5 => have := LMc9.out; omega)
           intro v172 w22 ho hb hg hat
           rw [← Ny171.out] at ho
           have n0_ := Aside0.mk (Kd.R_after (ok := (fun _ => True)) (by (with_reducible repeat (first | apply Kd.R_alloc | apply Kd.R_drewN | apply Kd.R_drew)); exact HO170.out) hg hat)
           have n1_ := Aside0.mk (hb)
           have n2_ := Aside0.mk (ho)
           clear HO170
           clear HB
           clear HO_5
           have HO170 := n0_
           have HB := n1_
           have HO173 := n2_
           clear n0_ n1_ n2_
           clear ho hb hg hat
           refine hK.out _ _ ⟨((HB.out.cell (World.block_lt_of_cell? w _ hw166_0)).trans hw166_0), ((HB.out.cell (World.block_lt_of_cell? w _ hw166_1)).trans hw166_1), ((HB.out.cell (World.block_lt_of_cell? w _ hw167_0)).trans hw167_0), ((HB.out.cell (World.block_lt_of_cell? w _ hw167_1)).trans hw167_1)⟩ (fun hHeld => ?_)
           clear hK K
           refine norm_ (a' := ?_) ?_ ?_
           rotate_left
           ·show Act.put _ (some 57) _ = _
            simp only [Act.put, List.setIfInBounds_toArray, List.set_cons_zero, List.set_cons_succ, i64_w, i32_w]
            rfl
           refine pure_ (i := 16) (N := some 5) (v := ?_) (a' := ?_) #[true, true, true, true, true, true, true, true, true, true, true, true, true, true, true, true, true] rfl rfl (any_of HT_.out (by kernel_rfl)) (fun _ _ _ h => h) (Or.inl ⟨by rfl, ?_⟩) ?_ ?_
           rotate_left
           ·intro w'
            go_simp
            with_reducible rfl
           rotate_left
           ·simp only [Act.put, List.setIfInBounds_toArray, List.set_cons_zero, List.set_cons_succ, i64_w, i32_w]
            rfl
           refine done_ (done_of HT_.out (by kernel_rfl)) ?_
           have p174 : 0 ≤ (x6_2 : Int) := of_decide_eq_true (by first | (with_reducible assumption) | assumption)
           have q174 : x6_2 < (l0.length : Int) := of_decide_eq_true (by first | (with_reducible assumption) | assumption)
           obtain ⟨ad174, A174_1, c174_1, e174, hx174_0, hx174_1, hl174_1, hi174_1⟩ := at_T39 HR0.out x6_2 p174 q174
           obtain rfl : ad166 = ad174 := (by injection e174)
           replace hx174_0 := (HB.out.cell (World.block_lt_of_cell? w _ hx174_0)).trans hx174_0
           replace hx174_1 := (HB.out.cell (World.block_lt_of_cell? w _ hx174_1)).trans hx174_1
           have HR174_1 := Aside0.mk hi174_1
           have HC174_1 := Aside0.mk hl174_1
           clear hi174_1 hl174_1
           replace p174 := eq_true p174
           replace q174 := eq_true q174
           try go_wp2_with (first | ((with_reducible refine gate_builtin (b := .append) (xs := #[.tmp 58, .tmp 63]) rfl ?_); (try (refine gate_guard (by rfl) ?_; dsimp only)); at_builtin; refine Kd.R_append_rows (Kd.int .u8) (w0 := w) w.heap.size rfl (.tmp 58) (.tmp 63) 22 5 (.int .u8 0) 1 rfl Tryd.underlying22 info5 rfl (by decide) (by omega) v172 y171 ((rd_T39 l0 x6_2).f1) _ _ _ (fun k_ => some k_ ≠ (.slice Ao23 y168.length co23 : Value).ownBlock) (fun _ => False) rfl rfl ?aO_6 ?aR_6 (fun _ _ h => h) (fun _ h => h.elim) ?aF_6 ?aB_6 ?aS_6 ?aL_6 ?_; (case aR_6 => repeat (first | exact (Kd.C_below HR174_1.out HB.out) | exact (Kd.C_below (Aside0.out (by assumption)) HB.out) | (with_reducible refine Kd.C_alloc ?_ _) | (with_reducible refine Kd.C_drewN ?_ _) | (with_reducible refine Kd.C_drew ?_))); (case aB_6 => exact (by repeat (first | (with_reducible first | exact HB.out | apply below_alloc | apply pw_below_drewN | apply below_drew1) | exact HB.out))); (case aF_6 => exact (fun k_ hk => Kd.fresh' (Kd.R_lt (by (with_reducible repeat (first | apply Kd.R_alloc | apply Kd.R_drewN | apply Kd.R_drew)); exact HO170.out)) k_ hk)); (case aO_6 => exact (by (with_reducible repeat (first | apply Kd.R_alloc | apply Kd.R_drewN | apply Kd.R_drew)); exact HO173.out)); (case aS_6 => exact (below_size (by repeat (first | (with_reducible first | exact HB.out | apply below_alloc | apply pw_below_drewN | apply below_drew1) | exact HB.out)))); (case aL_6 => have := LMc10.out; omega); intro v176 w24 ho hb hg hat; rw [← Ny175.out] at ho; have n0_ := Aside0.mk (Kd.R_after (ok := (fun _ => True)) (by (with_reducible repeat (first | apply Kd.R_alloc | apply Kd.R_drewN | apply Kd.R_drew)); exact HO170.out) hg hat); have n1_ := Aside0.mk (hb); have n2_ := Aside0.mk (ho); clear HO170; clear HB; clear HO173; have HO170 := n0_; have HB := n1_; have HO177 := n2_; clear n0_ n1_ n2_; clear ho hb hg hat; obtain ⟨Ao25, co25, eo25⟩ := Kd.R_slice HO177.out; subst eo25))
           go_roundg k2
           case measure => have := HK1.out; have := HK2.out; omega
           case rel => exact ⟨(y175), (wrap64 (x6_2 + 1)), (by first | rfl | (simp; done) | (simp [*]; done)), H', ⟨by have := HK1.out; have := HK2.out; omega⟩, ⟨by (with_reducible repeat (first | apply Kd.R_alloc | apply Kd.R_drewN | apply Kd.R_drew)); exact Kd.R_mono HO177.out (fun _ hk => trivial)⟩, ⟨by repeat (first | (with_reducible first | exact HB.out | apply below_alloc | apply pw_below_drewN | apply below_drew1) | exact HB.out)⟩⟩
         ·rw [if_neg c10] at H
          exact absurd H (by simp)
        ·rw [if_neg c9] at H
         exact absurd H (by simp)
       ·rw [if_neg c8] at H
        exact absurd H (by simp)
      ·rw [if_neg c7] at H
       have c7b0 : decide (x6_2 < (l0.length : Int)) = false := decide_eq_false c7
       clear c7
       by_cases c26 : x5_2.length < 140737488355328
       ·rw [if_pos c26] at H
        have LMc26 := Aside0.mk c26
        clear c26
        obtain ⟨y178, hy178⟩ : ∃ y_ : List Int, y_ = (x5_2 ++ [255]) := ⟨_, rfl⟩
        replace H : (some (y178, 0)) = some (r1, r2) := by first | (rw [hy178]; with_reducible exact H) | (have H2_ := (Option.bind_some _ _).symm.trans H; rw [hy178]; with_reducible exact H2_) | (have H2_ := (Option.bind_some _ _).symm.trans H; with_reducible exact H2_) | with_reducible exact H | (rw [hy178]; exact H) | exact H
        have Ny178 := Aside0.mk hy178
        clear hy178
        simp only [Option.some.injEq, Prod.mk.injEq] at H
        obtain ⟨rfl, rfl⟩ := H
        go_wp2_with (first | ((with_reducible refine gate_builtin (b := .append) (xs := #[.tmp 68, .tmp 69]) rfl ?_); (try (refine gate_guard (by rfl) ?_; dsimp only)); at_builtin; refine Kd.R_append (Kd.int .u8) (w0 := w) w.heap.size rfl (.tmp 68) (.tmp 69) 22 5 (.int .u8 0) 1 rfl Tryd.underlying22 info5 rfl (by decide) (by omega) u5 x5_2 255 [.int .u8 255] (fun _ => True) (fun _ => False) rfl rfl ?aP_7 (fun _ hk => hk.elim) ?aF_7 ?aO_7 ?aB_7 ?aS_7 ?aL_7 ?_; (case aP_7 => exact rfl); (case aB_7 => exact (by repeat (first | (with_reducible first | exact HB.out | apply below_alloc | apply pw_below_drewN | apply below_drew1) | exact HB.out))); (case aF_7 => exact (fun _ _ => trivial)); (case aO_7 => exact (by (with_reducible repeat (first | apply Kd.R_alloc | apply Kd.R_drewN | apply Kd.R_drew)); exact HO_5.out)); (case aS_7 => exact (below_size (by repeat (first | (with_reducible first | exact HB.out | apply below_alloc | apply pw_below_drewN | apply below_drew1) | exact HB.out)))); (case aL_7 => have := LMc26.out; omega); intro v179 w27 ho hb hg hat; rw [← Ny178.out] at ho; have n0_ := Aside0.mk (hb); have n1_ := Aside0.mk (ho); clear HB; clear HO_5; have HB := n0_; have HO180 := n1_; clear n0_ n1_; clear ho hb hg hat))
        go_ret2
        exact ⟨_, by first | rfl | (simp [errW_none, errW_some] <;> rfl) | (simp [*, errW_none, errW_some] <;> rfl), by (with_reducible repeat (first | apply Kd.R_alloc | apply Kd.R_drewN | apply Kd.R_drew)); exact HO180.out, by repeat (first | (with_reducible first | exact HB.out | apply below_alloc | apply pw_below_drewN | apply below_drew1) | exact HB.out)⟩
       ·rw [if_neg c26] at H
        exact absurd H (by simp)

end Go.Proofs.YtmbfdmceameghaaDoor.Pr
end

section
namespace Go.Proofs.YtmbfdmceameghaaDoor.PO
open Go.RowKit Go.Proofs.YtmbfdmceameghaaDoor Go.Proofs.YtmbfdmceameghaaDoor.Pr Go.Proofs.YtmbfdmceameghaaDoorW.PrintWords Go.Proofs.YtmbfdmceameghaaDoorW.PrintLast Go.Proofs.YtmbfdmceameghaaDoorW.PrintMore
set_option linter.unusedVariables false
set_option linter.unusedSimpArgs false

abbrev Opt := S39
theorem wrapO {x : Int} (h0 : 0 ≤ x) (h1 : x < 9223372036854775808) : wrap64 x = x := by unfold wrap64; omega
theorem rd_at (l : List Opt) {i : Nat} (h : i < l.length) : rd_T39 l (i : Int) = l[i] := by
  unfold rd_T39
  rw [Int.toNat_natCast, List.getD_eq_getElem?_getD, List.getElem?_eq_getElem h]
  rfl

def okOpt (x : Opt) : Prop := 1 ≤ x.f0 ∧ x.f0 ≤ 254 ∧ x.f1.length ≤ 255
instance (x : Opt) : Decidable (okOpt x) := by unfold okOpt; infer_instance
def enc1 (x : Opt) : List Int := [x.f0 % 256, (x.f1.length : Int) % 256] ++ x.f1
def enc (l : List Opt) : List Int := (l.map enc1).flatten
def encR (l : List Opt) : List Int × Int := if ∀ x ∈ l, okOpt x then (if 1024 ≤ (enc l).length then ([], 3) else (enc l ++ [255], 0)) else ([], 1)
def few (l : List Opt) : Prop := l.length ≤ 2000 ∧ ∀ x ∈ l, x.f1.length ≤ 1000
theorem enc_append (l m : List Opt) : enc (l ++ m) = enc l ++ enc m := by simp [enc]
theorem enc_one (x : Opt) : enc [x] = enc1 x := by simp [enc]
theorem enc1_len (x : Opt) : (enc1 x).length = x.f1.length + 2 := by simp [enc1]
theorem enc_len_le : ∀ (l : List Opt), (∀ x ∈ l, x.f1.length ≤ 1000) → (enc l).length ≤ l.length * 1002 := by
  intro l
  induction l with
  | nil => intro _; simp [enc]
  | cons x l ih =>
    intro h
    have h1 := ih (fun y hy => h y (by simp [hy]))
    have h2 := h x (by simp)
    have e : enc (x :: l) = enc1 x ++ enc l := by simp [enc]
    rw [e, List.length_append, enc1_len, List.length_cons]
    omega
theorem enc_take_le (l : List Opt) (i : Nat) : (enc (l.take i)).length ≤ (enc l).length := by
  have : enc l = enc (l.take i) ++ enc (l.drop i) := by rw [← enc_append, List.take_append_drop]
  rw [this, List.length_append]; omega

/-! ### option.Encode -/
theorem odd_eq (x : Opt) : option_Encode_1.f x.f0 x.f1 = some (!decide (okOpt x)) := by
  unfold option_Encode_1.f
  by_cases ok : okOpt x
  · rw [decide_eq_true ok]
    unfold okOpt at ok
    rw [if_neg (by omega), if_neg (by omega), decide_eq_false (by omega)]
    rfl
  · rw [decide_eq_false ok]
    unfold okOpt at ok
    split
    · rfl
    · split
      · rfl
      · rw [decide_eq_true (by omega)]
        rfl
theorem index_spec (l : List Opt) (hl : l.length ≤ 1000000) : ∀ (d i k : Nat), l.length ≤ i + d → i ≤ l.length → d < k →
    ∃ r : Int, slices_IndexFunc.l0 k l (l.length : Int) (i : Int) = some r ∧ ((0 ≤ r ∧ ∃ x ∈ l.drop i, ¬ okOpt x) ∨ (r < 0 ∧ ∀ x ∈ l.drop i, okOpt x)) := by
  intro d
  induction d with
  | zero =>
    intro i k h1 h2 hk
    obtain ⟨k, rfl⟩ : ∃ m, k = m + 1 := ⟨k - 1, by omega⟩
    refine ⟨-1, ?_, .inr ⟨by omega, ?_⟩⟩
    · simp only [slices_IndexFunc.l0]; rw [if_neg (by omega)]
    · rw [List.drop_of_length_le (by omega)]; simp
  | succ d ih =>
    intro i k h1 h2 hk
    obtain ⟨k, rfl⟩ : ∃ m, k = m + 1 := ⟨k - 1, by omega⟩
    by_cases h : i < l.length
    · simp only [slices_IndexFunc.l0]
      rw [if_pos (by omega), if_pos (by omega), if_pos (by omega), rd_at l h, odd_eq]
      simp only [Option.bind_some]
      rw [List.drop_eq_getElem_cons h]
      by_cases ok : okOpt l[i]
      · rw [decide_eq_true ok, wrapO (by omega) (by omega)]
        obtain ⟨r, hr, hs⟩ := ih (i + 1) k (by omega) (by omega) (by omega)
        refine ⟨r, by simpa using (show slices_IndexFunc.l0 k l (l.length : Int) ((i : Int) + 1) = some r from hr), ?_⟩
        rcases hs with ⟨a, x, hx, b⟩ | ⟨a, b⟩
        · exact .inl ⟨a, x, List.mem_cons_of_mem _ hx, b⟩
        · exact .inr ⟨a, fun x hx => by
            rcases List.mem_cons.1 hx with rfl | hx
            · exact ok
            · exact b x hx⟩
      · rw [decide_eq_false ok]
        exact ⟨i, by simp, .inl ⟨by omega, l[i], List.mem_cons_self, ok⟩⟩
    · refine ⟨-1, ?_, .inr ⟨by omega, ?_⟩⟩
      · simp only [slices_IndexFunc.l0]; rw [if_neg (by omega)]
      · rw [List.drop_of_length_le (by omega)]; simp
theorem contains_eq (l : List Opt) (hl : l.length ≤ 1000000) (a : Int) (k : Nat) (hk : l.length < k) : slices_ContainsFunc.f k l a = some (!decide (∀ x ∈ l, okOpt x)) := by
  obtain ⟨r, hr, hs⟩ := index_spec l hl l.length 0 k (by omega) (by omega) hk
  unfold slices_ContainsFunc.f slices_IndexFunc.f
  rw [show ((0 : Nat) : Int) = 0 from rfl] at hr
  rw [hr]
  simp only [Option.bind_some]
  rw [List.drop_zero] at hs
  rcases hs with ⟨h1, x, hx, h2⟩ | ⟨h1, h2⟩
  · rw [decide_eq_true (by omega), decide_eq_false (fun h => h2 (h x hx))]; rfl
  · rw [decide_eq_false (by omega), decide_eq_true h2]; rfl
theorem encode_loop (l : List Opt) (hf : few l) : ∀ (d i k : Nat), l.length ≤ i + d → i ≤ l.length → d < k →
    option_Encode.l0 k (enc (l.take i)) l (l.length : Int) (i : Int) = some (if 1024 ≤ (enc l).length then ([], 3) else (enc l ++ [255], 0)) := by
  obtain ⟨hn, hx⟩ := hf
  have hel := enc_len_le l hx
  have hel' : (enc l).length ≤ 2004000 := by omega
  intro d
  induction d with
  | zero =>
    intro i k h1 h2 hk
    obtain ⟨k, rfl⟩ : ∃ m, k = m + 1 := ⟨k - 1, by omega⟩
    simp only [option_Encode.l0]
    rw [if_neg (by omega), List.take_of_length_le (by omega), if_pos (by omega)]
    simp only [Option.bind_some]
    by_cases c : 1024 ≤ (enc l).length
    · rw [if_pos (by simp; omega), if_pos c]
    · rw [if_neg (by simp; omega), if_neg c]
  | succ d ih =>
    intro i k h1 h2 hk
    obtain ⟨k, rfl⟩ : ∃ m, k = m + 1 := ⟨k - 1, by omega⟩
    by_cases h : i < l.length
    · simp only [option_Encode.l0]
      have ht := enc_take_le l i
      have ht1 := enc_take_le l (i + 1)
      have hx1 := hx l[i] (List.getElem_mem h)
      rw [if_pos (by omega), if_pos (by omega), if_pos (by omega), rd_at l h]
      simp only [Option.bind_some]
      rw [if_pos (by simp; omega), if_pos (by simp; omega), wrapO (by omega) (by omega)]
      have e : enc (l.take i) ++ [l[i].f0 % 256, (l[i].f1.length : Int) % 256] ++ l[i].f1 = enc (l.take (i + 1)) := by
        rw [List.take_succ_eq_append_getElem h, enc_append, enc_one, enc1, List.append_assoc]
      rw [e]
      exact ih (i + 1) k (by omega) (by omega) (by omega)
    · obtain rfl : i = l.length := by omega
      simp only [option_Encode.l0]
      rw [if_neg (by omega), List.take_of_length_le (by omega), if_pos (by omega)]
      simp only [Option.bind_some]
      by_cases c : 1024 ≤ (enc l).length
      · rw [if_pos (by simp; omega), if_pos c]
      · rw [if_neg (by simp; omega), if_neg c]
theorem encode_eq (l : List Opt) (hf : few l) (k : Nat) (hk : 2001 ≤ k) : option_Encode.f k l = some (encR l) := by
  have hn := hf.1
  unfold option_Encode.f encR
  rw [contains_eq l (by omega) _ k (by omega)]
  simp only [Option.bind_some]
  by_cases ok : ∀ x ∈ l, okOpt x
  · rw [decide_eq_true ok, if_neg (by decide), if_pos ok]
    exact encode_loop l hf l.length 0 k (by omega) (by omega) (by omega)
  · rw [decide_eq_false ok, if_pos (by decide), if_neg ok]

/-! ### the reference's -/
theorem ref_encode1 (l : List Opt) (hf : few l) : ∀ (d i k : Nat), l.length ≤ i + d → i ≤ l.length → d < k → ((enc (l.take i)).length < 1024) →
    lessorref02_Encode.l1 k l (enc (l.take i)) (i : Int) = some (if 1024 ≤ (enc l).length then ([], 3) else (enc l ++ [255], 0)) := by
  obtain ⟨hn, hx⟩ := hf
  intro d
  induction d with
  | zero =>
    intro i k h1 h2 hk hs
    obtain ⟨k, rfl⟩ : ∃ m, k = m + 1 := ⟨k - 1, by omega⟩
    rw [List.take_of_length_le (by omega)] at hs ⊢
    simp only [lessorref02_Encode.l1]
    rw [if_neg (by omega), if_pos (by omega), if_neg (by omega)]
  | succ d ih =>
    intro i k h1 h2 hk hs
    obtain ⟨k, rfl⟩ : ∃ m, k = m + 1 := ⟨k - 1, by omega⟩
    by_cases h : i < l.length
    · simp only [lessorref02_Encode.l1]
      have ht1 := enc_take_le l (i + 1)
      have hx1 := hx l[i] (List.getElem_mem h)
      rw [if_pos (by omega), if_pos (by omega), rd_at l h]
      simp only [Option.bind_some]
      rw [if_pos (by simp; omega), if_pos (by simp; omega)]
      have e : enc (l.take i) ++ [l[i].f0 % 256, (l[i].f1.length : Int) % 256] ++ l[i].f1 = enc (l.take (i + 1)) := by
        rw [List.take_succ_eq_append_getElem h, enc_append, enc_one, enc1, List.append_assoc]
      rw [e]
      by_cases c : 1024 ≤ (enc (l.take (i + 1))).length
      · rw [if_pos (by omega), if_pos (by omega)]
      · rw [if_neg (by omega), wrapO (by omega) (by omega)]
        exact ih (i + 1) k (by omega) (by omega) (by omega) (by omega)
    · obtain rfl : i = l.length := by omega
      rw [List.take_of_length_le (by omega)] at hs ⊢
      simp only [lessorref02_Encode.l1]
      rw [if_neg (by omega), if_pos (by omega), if_neg (by omega)]
theorem ref_encode0 (l : List Opt) (hf : few l) : ∀ (d i k : Nat), l.length ≤ i + d → i ≤ l.length → d + 2001 < k → (∀ x ∈ l.take i, okOpt x) →
    lessorref02_Encode.l0 k l (i : Int) = some (encR l) := by
  have hn := hf.1
  have fin : ∀ k, 2001 < k → (∀ x ∈ l, okOpt x) → lessorref02_Encode.l0 k l (l.length : Int) = some (encR l) := by
    intro k hk ok
    obtain ⟨k, rfl⟩ : ∃ m, k = m + 1 := ⟨k - 1, by omega⟩
    simp only [lessorref02_Encode.l0]
    rw [if_neg (by omega)]
    unfold encR
    rw [if_pos ok]
    exact ref_encode1 l hf l.length 0 k (by omega) (by omega) (by omega) (by simp [enc])
  intro d
  induction d with
  | zero =>
    intro i k h1 h2 hk ho
    obtain rfl : i = l.length := by omega
    rw [List.take_length] at ho
    exact fin k (by omega) ho
  | succ d ih =>
    intro i k h1 h2 hk ho
    by_cases h : i < l.length
    · obtain ⟨k, rfl⟩ : ∃ m, k = m + 1 := ⟨k - 1, by omega⟩
      simp only [lessorref02_Encode.l0]
      rw [if_pos (by omega), if_pos (by omega), rd_at l h]
      have bad : ¬ okOpt l[i] → encR l = ([], 1) := fun hb => by unfold encR; rw [if_neg (fun h' => hb (h' _ (List.getElem_mem h)))]
      by_cases c1 : l[i].f0 < 1
      · rw [if_pos c1, bad (by unfold okOpt; omega)]
      · rw [if_neg c1]
        by_cases c2 : l[i].f0 > 254
        · rw [if_pos c2, bad (by unfold okOpt; omega)]
        · rw [if_neg c2]
          by_cases c3 : (l[i].f1.length : Int) > 255
          · rw [if_pos c3, bad (by unfold okOpt; omega)]
          · rw [if_neg c3, wrapO (by omega) (by omega)]
            refine ih (i + 1) k (by omega) (by omega) (by omega) ?_
            rw [List.take_succ_eq_append_getElem h]
            intro x hx
            rcases List.mem_append.1 hx with hx | hx
            · exact ho x hx
            · rw [List.mem_singleton.1 hx]; exact ⟨by omega, by omega, by omega⟩
    · obtain rfl : i = l.length := by omega
      rw [List.take_length] at ho
      exact fin k (by omega) ho
theorem ref_encode_eq (l : List Opt) (hf : few l) (k : Nat) (hk : 4010 ≤ k) : lessorref02_Encode.f k l = some (encR l) := by
  have hn := hf.1
  unfold lessorref02_Encode.f
  exact ref_encode0 l hf l.length 0 k (by omega) (by omega) (by omega) (by simp)

/-! ### few -/
end Go.Proofs.YtmbfdmceameghaaDoor.PO
end
