/-
  route.Encode: the data of routes.
-/
import Derived.Lib.Hide
import Derived.Deep.DeepCutAuto
import Derived.Deep.CutBlock
import Derived.Test.YteniakelhalojaaHBytes
import Derived.Test.YteniakelhalojaaPnF12
import Derived.Test.YteniakelhalojaaPnF24
namespace Go.Proofs.Yteniakelhalojaa
open Go.RowKit Go.Proofs.Yteniakelhalojaa.Pn Go.Proofs.YteniakelhalojaaW.PrintWords Go.Proofs.YteniakelhalojaaW.PrintLast Go.Proofs.YteniakelhalojaaW.PrintMore
set_option linter.unusedVariables false
set_option linter.unusedSimpArgs false

/-! ### what it computes -/
abbrev RtE := S32
def rt4 (a : Int) : List Int := [rtB a 0, rtB a 1, rtB a 2, rtB a 3]
def rtOct (b : Int) : Nat := ((b + 7) / 8).toNat
def rtEnc1 (x : RtE) : List Int := [x.f1 % 256] ++ (rt4 x.f0).take (rtOct x.f1) ++ rt4 x.f2
def rtEnc (l : List RtE) : List Int := (l.map rtEnc1).flatten
def rtWf (x : RtE) : Prop := (0 ≤ x.f0 ∧ x.f0 < 4294967296) ∧ (0 ≤ x.f2 ∧ x.f2 < 4294967296)
instance (x : RtE) : Decidable (rtWf x) := by unfold rtWf; infer_instance
def rtRight (x : RtE) : Bool := (route_Right.f x.f0 x.f1 x.f2).getD false
theorem rtRight_bits {x : RtE} (h : rtRight x = true) : 0 ≤ x.f1 ∧ x.f1 ≤ 32 := by
  unfold rtRight route_Right.f at h
  by_cases c : x.f1 ≥ 0
  · by_cases d : x.f1 ≤ 32
    · exact ⟨c, d⟩
    · simp [if_pos c, if_neg d] at h
  · simp [if_neg c] at h
theorem right_total (x : RtE) : route_Right.f x.f0 x.f1 x.f2 = some (rtRight x) := by
  unfold rtRight route_Right.f
  by_cases c : x.f1 ≥ 0
  · by_cases d : x.f1 ≤ 32
    · rw [if_pos c, if_pos d]
      unfold route_mask.f
      rw [if_pos (by unfold wrap64; omega)]
      rfl
    · simp [if_pos c, if_neg d]
  · simp [if_neg c]
theorem oct_eq (b : Int) (h0 : 0 ≤ b) (h1 : b ≤ 32) : route_octets.f b = some (rtOct b : Int) := by
  unfold route_octets.f rtOct
  have e1 : wrap64 (b + 7) = b + 7 := by unfold wrap64; omega
  simp only [e1]
  rw [Int.tdiv_eq_ediv_of_nonneg (by omega)]
  congr 1
  unfold wrap64; omega
def route_Encode.f (l : List RtE) : Option (List Int × Int) :=
  if l.length ≤ 1099511627776 ∧ ∀ x ∈ l, rtWf x then
    some (if ∀ x ∈ l, rtRight x = true then (if 255 < (rtEnc l).length then ([], 3) else (rtEnc l, 0)) else ([], 1))
  else none
theorem rd_rte (l : List RtE) {i : Nat} (h : i < l.length) : rd_T32 l (i : Int) = l[i] := by
  unfold rd_T32
  rw [Int.toNat_natCast, List.getD_eq_getElem?_getD, List.getElem?_eq_getElem h]
  rfl
theorem rtEnc_succ (l : List RtE) {i : Nat} (h : i < l.length) : rtEnc (l.take (i + 1)) = rtEnc (l.take i) ++ [l[i].f1 % 256] ++ (rt4 l[i].f0).take (rtOct l[i].f1) ++ rt4 l[i].f2 := by
  unfold rtEnc
  rw [List.take_succ_eq_append_getElem h, List.map_append, List.flatten_append, List.map_cons, List.map_nil, List.flatten_cons, List.flatten_nil, List.append_nil]
  unfold rtEnc1
  simp only [List.append_assoc]
theorem rtEnc_len : ∀ (l : List RtE), (rtEnc l).length ≤ 9 * l.length := by
  intro l
  induction l with
  | nil => simp [rtEnc]
  | cons x l ih =>
    have e : rtEnc (x :: l) = rtEnc1 x ++ rtEnc l := by simp [rtEnc]
    have e1 : (rtEnc1 x).length ≤ 9 := by simp [rtEnc1, rt4]; omega
    rw [e, List.length_append, List.length_cons]; omega
/-- An array of four bytes, as a row. -/
theorem arr4 {w : World} {g : Nat} {a b c d : Int} (h : w.heap[g]? = some (.cells #[.int .u8 a, .int .u8 b, .int .u8 c, .int .u8 d] 43 (0, 0))) : (Kd.int .u8).C w (some ⟨g, 0, none⟩) ([a, b, c, d] : List Int).length [a, b, c, d] := by
  refine ⟨rfl, by simp, fun _ => ⟨_, rfl, fun j p hj => ⟨[.int .u8 p], rfl, rfl, fun i u hu => ?_⟩⟩⟩
  have hj4 : j < 4 := by
    have := (List.getElem?_eq_some_iff.1 hj).1
    simpa using this
  obtain rfl : i = 0 := by
    have := (List.getElem?_eq_some_iff.1 hu).1
    simp only [List.length_cons, List.length_nil] at this; omega
  simp only [List.getElem?_cons_zero, Option.some.injEq] at hu
  subst hu
  have hsz : (Kd.int .u8).sz = 1 := rfl
  rw [hsz, Nat.mul_one, Nat.add_zero]
  have ea : (⟨g, 0, none⟩ : Addr).add j = ⟨g, j, none⟩ := by simp [Addr.add]; omega
  rw [ea, blk_cell h j]
  obtain rfl | rfl | rfl | rfl : j = 0 ∨ j = 1 ∨ j = 2 ∨ j = 3 := by omega
  all_goals (simp only [List.getElem?_cons_zero, List.getElem?_cons_succ, Option.some.injEq] at hj; subst hj; simp)
theorem arr4t {w : World} {g : Nat} {a b c d : Int} (h : w.heap[g]? = some (.cells #[.int .u8 a, .int .u8 b, .int .u8 c, .int .u8 d] 43 (0, 0))) (m : Nat) (hm : m ≤ 4) : (Kd.int .u8).C w (some ⟨g, 0, none⟩) m (([a, b, c, d] : List Int).take m) := by
  have h1 := Kd.C_take (m := m) (arr4 h) (by simpa using hm)
  have hl : (([a, b, c, d] : List Int).take m).length = m := by rw [List.length_take]; simp; omega
  rw [hl] at h1
  exact h1
theorem slice_net (g m : Nat) (hm : m ≤ 4) (W : World) : (Instr.sliceAt 43 (.pointer (some ⟨g, 0, none⟩)) none (some (.int .i64 (m : Int))) none).run Try.prog W = .ok (.slice (some ⟨g, 0, none⟩) m 4) W := by
  have hl : Try.prog.arrayLen 43 = 4 := by kernel_rfl
  have ht : Try.prog.underlying 43 = some (.array (Try.prog.arrayLen 43) (Try.prog.elem 43)) := by kernel_rfl
  have he : Try.prog.elem 43 = 5 := by kernel_rfl
  rw [run_sliceAt_array_h W 43 ⟨g, 0, none⟩ ht .i64 (m : Int) (by omega) (by rw [hl]; omega), hl, he]
  simp [slicedAt, Addr.add, info5, sizeOf, go_sem]
set_option maxHeartbeats 1000000 in
set_option maxRecDepth 100000 in
theorem route_Encode.calls (A0 : Option Addr) (c0 : Nat) (l0 : List RtE) (r1 : List Int) (r2 : Int) (w : World) (hr0 : Kd.C k32 w A0 l0.length l0) (hc0 : l0.length ≤ c0) (h : route_Encode.f l0 = some (r1, r2)) :
    Calls Try.prog 10 #[.slice A0 l0.length c0] w fun e w' => ∃ v0_ : Value, e = .returned (.tuple #[v0_, .int .i64 r2]) ∧ Kd.R (Kd.int .u8) 5 w' w.heap.size (fun _ => True) v0_ r1 ∧ Below w.heap.size w w' := by
  have hu32 := Try.underlying32
  have HR0 := Aside0.mk hr0
  have HC0 := Aside0.mk hc0
  clear hr0 hc0
  have HB := Aside0.mk (Below.refl w.heap.size w)
  unfold route_Encode.f at h
  by_cases hg : l0.length ≤ 1099511627776 ∧ ∀ x ∈ l0, rtWf x
  case neg => rw [if_neg hg] at h; cases h
  rw [if_pos hg] at h
  obtain ⟨hbig, hwf⟩ := hg
  have H := Aside0.mk (Option.some.inj h)
  clear h
  have HBIG := Aside0.mk hbig
  have HWF := Aside0.mk hwf
  clear hbig hwf
  go_enter Try.func10, Try.ntmps10
  go_wp2
  go_loopg [4, 11] (l0.length + 1) (fun kq v4 v11 w' => ∃ (i : Nat), v11 = .int .i64 i ∧ Aside0 (i ≤ l0.length ∧ l0.length + 1 ≤ kq + i) ∧ Aside0 (∀ x ∈ l0.take i, rtRight x = true) ∧ Aside0 (Kd.R (Kd.int .u8) 5 w' w.heap.size (fun _ => True) v4 (rtEnc (l0.take i))) ∧ Aside0 (Below w.heap.size w w'))
  case atStart => exact ⟨0, rfl, ⟨by omega, by omega⟩, ⟨by simp⟩, ⟨by simp only [List.take_zero]; exact Kd.R_nil _ _ _ _ _⟩, ⟨by repeat (first | (with_reducible first | exact HB.out | apply below_alloc | apply pw_below_drewN | apply below_drew1) | exact HB.out)⟩⟩
  case round =>
    obtain ⟨i, rfl, hi, HOK, HO, HB⟩ := hrel
    obtain ⟨k2, rfl⟩ : ∃ m, gk = m + 1 := ⟨gk - 1, by have := hi.out; omega⟩
    by_cases c : i < l0.length
    · have cb : decide ((i : Int) < (l0.length : Int)) = true := decide_eq_true (by omega)
      have p1 : 0 ≤ (i : Int) := by omega
      have q1 : (i : Int) < (l0.length : Int) := by omega
      obtain ⟨ad, e, hx0, hx1, hx2⟩ := at_T32 HR0.out i p1 q1
      cases e
      rw [rd_rte l0 c] at hx0 hx1 hx2
      rw [Int.toNat_natCast] at hx0 hx1 hx2
      obtain ⟨x, hxe⟩ : ∃ x, x = l0[i] := ⟨_, rfl⟩
      rw [← hxe] at hx0 hx1 hx2
      have hxm := HWF.out l0[i] (List.getElem_mem c)
      rw [← hxe] at hxm
      have HX := Aside0.mk hxe
      clear hxe
      have HXM := Aside0.mk (show (0 ≤ x.f0 ∧ x.f0 < 4294967296) ∧ (0 ≤ x.f2 ∧ x.f2 < 4294967296) from hxm)
      clear hxm
      replace hx0 := (HB.out.cell (World.block_lt_of_cell? w _ hx0)).trans hx0
      replace hx1 := (HB.out.cell (World.block_lt_of_cell? w _ hx1)).trans hx1
      replace hx2 := (HB.out.cell (World.block_lt_of_cell? w _ hx2)).trans hx2
      replace p1 := eq_true p1
      replace q1 := eq_true q1
      by_cases r : rtRight x = true
      · have hR := Aside0.mk (show route_Right.f x.f0 x.f1 x.f2 = some true by rw [right_total, r])
        have hbd := Aside0.mk (rtEnc_len (l0.take i))
        go_wp2_with (first
          | (go_at_call 12; (with_reducible refine (route_Right.calls x.f0 x.f1 x.f2 true _ hR.out).mono ?_); rintro e w2 ⟨rfl, hb⟩; have n0_ := Aside0.mk (Kd.R_below (Kd.R_alloc HO.out _) hb); have n1_ := Aside0.mk (below_step (below_alloc HB.out _) hb); have BK6 := Aside0.mk (blk_below (blk_new wr (.cells #[.int .u32 x.f0, .int .i64 x.f1, .int .u32 x.f2] 32 (0, 0))) hb); have GE6 := Aside0.mk (below_size HB.out); clear hb HO HB; have HO := n0_; have HB := n1_; clear n0_ n1_; generalize wr.heap.size = g6 at BK6 GE6 ⊢; have h60 : w2.cell? ⟨g6, 0, none⟩ = some (.int .u32 x.f0) := (blk_cell BK6.out 0).trans rfl; have h62 : w2.cell? ⟨g6, 2, none⟩ = some (.int .u32 x.f2) := (blk_cell BK6.out 2).trans rfl)
          | (go_at_call 23; (with_reducible refine (bytes_calls x.f0 _ HXM.out.1.1 HXM.out.1.2).mono ?_); rintro e w3 ⟨rfl, hb⟩; have n0_ := Aside0.mk (Kd.R_below HO.out hb); have n1_ := Aside0.mk (below_step HB.out hb); have n2_ := Aside0.mk (blk_below BK6.out hb); clear hb HO HB BK6 h60 h62; have HO := n0_; have HB := n1_; have BK6 := n2_; clear n0_ n1_ n2_; have h62 : ∀ o, (w3.alloc o).cell? ⟨g6, 2, none⟩ = some (.int .u32 x.f2) := fun o => (blk_cell (blk_alloc BK6.out o) 2).trans rfl)
          | (go_at_call 23; (with_reducible refine (bytes_calls x.f2 _ HXM.out.2.1 HXM.out.2.2).mono ?_); rintro e w4 ⟨rfl, hb⟩; have n0_ := Aside0.mk (Kd.R_below (Kd.R_alloc HO.out _) hb); have n1_ := Aside0.mk (below_step (below_alloc HB.out _) hb); have n2_ := Aside0.mk (blk_below (blk_alloc BK6.out _) hb); have BK7 := Aside0.mk (blk_below (blk_new w3 (.cells #[.int .u8 (rtB x.f0 0), .int .u8 (rtB x.f0 1), .int .u8 (rtB x.f0 2), .int .u8 (rtB x.f0 3)] 43 (0, 0))) hb); clear hb HO HB BK6 h62; have HO := n0_; have HB := n1_; have BK6 := n2_; clear n0_ n1_ n2_; generalize w3.heap.size = g7 at BK7 ⊢)
          | fail)
        have n0_ := Aside0.mk (Kd.R_drew (Kd.R_alloc HO.out (.cells #[.int .u8 (rtB x.f2 0), .int .u8 (rtB x.f2 1), .int .u8 (rtB x.f2 2), .int .u8 (rtB x.f2 3)] 43 (0, 0))))
        have n1_ := Aside0.mk (below_drew1 (below_alloc HB.out (.cells #[.int .u8 (rtB x.f2 0), .int .u8 (rtB x.f2 1), .int .u8 (rtB x.f2 2), .int .u8 (rtB x.f2 3)] 43 (0, 0))))
        have n2_ := Aside0.mk (blk_drew (blk_alloc BK6.out (.cells #[.int .u8 (rtB x.f2 0), .int .u8 (rtB x.f2 1), .int .u8 (rtB x.f2 2), .int .u8 (rtB x.f2 3)] 43 (0, 0))))
        have n3_ := Aside0.mk (blk_drew (blk_alloc BK7.out (.cells #[.int .u8 (rtB x.f2 0), .int .u8 (rtB x.f2 1), .int .u8 (rtB x.f2 2), .int .u8 (rtB x.f2 3)] 43 (0, 0))))
        have BK8 := Aside0.mk (blk_drew (blk_new w4 (.cells #[.int .u8 (rtB x.f2 0), .int .u8 (rtB x.f2 1), .int .u8 (rtB x.f2 2), .int .u8 (rtB x.f2 3)] 43 (0, 0))))
        clear HO HB BK6 BK7
        have HO := n0_
        have HB := n1_
        have BK6 := n2_
        have BK7 := n3_
        clear n0_ n1_ n2_ n3_
        refine start_ (n := 12) (S := fun w' => w'.cell? ⟨g6, 1, none⟩ = some (.int .i64 x.f1)) (ds := []) #[false, false, false, false, false, false, false, false, false, false, false, false] (by kernel_rfl) rfl rfl ((blk_cell BK6.out 1).trans rfl) (fun hHeld => ?_)
        generalize w4.heap.size = g8 at BK8 ⊢
        generalize (w4.alloc (.cells #[.int .u8 (rtB x.f2 0), .int .u8 (rtB x.f2 1), .int .u8 (rtB x.f2 2), .int .u8 (rtB x.f2 3)] 43 (0, 0))).drew = w5 at HO HB BK6 BK7 BK8 hHeld ⊢
        have hoct := Aside0.mk (oct_eq x.f1 (rtRight_bits r).1 (rtRight_bits r).2)
        have hln := Aside0.mk (show rtOct x.f1 ≤ 4 by have := rtRight_bits r; unfold rtOct; omega)
        have hbd := Aside0.mk (show (rtEnc (l0.take i)).length ≤ 9895604649984 by have := hbd.out; have := HBIG.out; simp only [List.length_take] at *; omega)
        refine pure_ (i := 0) (N := some 24) (v := ?_) (a' := ?_) #[true, false, false, false, false, false, false, false, false, false, false, false] rfl rfl (by kernel_rfl) (fun _ _ _ h => h) (Or.inl ⟨by rfl, ?_⟩) ?_ ?_
        rotate_left
        · intro w'
          go_simp
          with_reducible rfl
        rotate_left
        · simp only [Act.put, List.setIfInBounds_toArray, List.set_cons_zero, List.set_cons_succ, i64_w, i32_w]
          rfl
        refine pure_ (i := 1) (N := some 25) (v := ?_) (a' := ?_) #[true, true, false, false, false, false, false, false, false, false, false, false] rfl rfl (by kernel_rfl) (fun _ _ _ h => h) (Or.inl ⟨by rfl, ?_⟩) ?_ ?_
        rotate_left
        · intro w'
          go_simp
          with_reducible rfl
        rotate_left
        · simp only [Act.put, List.setIfInBounds_toArray, List.set_cons_zero, List.set_cons_succ, i64_w, i32_w]
          rfl
        refine pure_ (i := 6) (N := some 30) (v := ?_) (a' := ?_) #[true, true, false, false, false, false, true, false, false, false, false, false] rfl rfl (by kernel_rfl) (fun _ _ _ h => h) (Or.inl ⟨by rfl, ?_⟩) ?_ ?_
        rotate_left
        · intro w'
          go_simp
          with_reducible rfl
        rotate_left
        · simp only [Act.put, List.setIfInBounds_toArray, List.set_cons_zero, List.set_cons_succ, i64_w, i32_w]
          rfl
        refine take_ (i := 2) (N := some 26) (v := ?_) (a' := ?_) #[true, true, true, false, false, false, true, false, false, false, false, false] rfl rfl (by kernel_rfl) (fun _ _ _ h => h) (Or.inl ⟨by rfl, ?_⟩) hHeld ?_ ?_
        rotate_left
        · intro w' s0
          go_simp
          with_reducible rfl
        rotate_left
        · simp only [Act.put, List.setIfInBounds_toArray, List.set_cons_zero, List.set_cons_succ, i64_w, i32_w]
          rfl
        refine pure_ (i := 3) (N := some 27) (v := ?_) (a' := ?_) #[true, true, true, true, false, false, true, false, false, false, false, false] rfl rfl (by kernel_rfl) (fun _ _ _ h => h) (Or.inl ⟨by rfl, ?_⟩) ?_ ?_
        rotate_left
        · intro w'
          go_simp
          with_reducible rfl
        rotate_left
        · simp only [Act.put, List.setIfInBounds_toArray, List.set_cons_zero, List.set_cons_succ, i64_w, i32_w]
          rfl
        refine take_ (i := 7) (N := some 31) (v := ?_) (a' := ?_) #[true, true, true, true, false, false, true, true, false, false, false, false] rfl rfl (by kernel_rfl) (fun _ _ _ h => h) (Or.inl ⟨by rfl, ?_⟩) hHeld ?_ ?_
        rotate_left
        · intro w' s0
          go_simp
          with_reducible rfl
        rotate_left
        · simp only [Act.put, List.setIfInBounds_toArray, List.set_cons_zero, List.set_cons_succ, i64_w, i32_w]
          rfl
        refine one_ (i := 4) (N := some 28) #[true, true, true, true, true, false, true, true, false, false, false, false] rfl rfl (by kernel_rfl) (by decide) (fun K hK => ?_)
        refine Kd.R_lit_step (Kd.int .u8) _ 5 ?hg_3 (N := 28) ?hd_3 (xs := ([x.f1 % 256] : List Int)) (inner := [.int .u8 (x.f1 % 256)]) (ok := fun _ => True) (okp := fun _ => True) ?hr_3 ?hp_3 (fun _ hk => hk) trivial (Below.refl _ _) (Nat.le_refl _) (by simp) ?_; (case hd_3 => rfl); (case hg_3 => rfl); (case hr_3 => first | (go_simp; done) | (go_simp; rfl)); (case hp_3 => exact (Reps.one (show Kd.M (Kd.int .u8) _ _ _ (x.f1 % 256) [.int .u8 (x.f1 % 256)] from rfl) (Reps.none _ _)))
        intro vl wl hol hb hg_ hnew_
        clear hg_ hnew_
        have HO := Aside0.mk (Kd.R_below HO.out hb)
        have BK6 := Aside0.mk (blk_below BK6.out hb)
        have BK7 := Aside0.mk (blk_below BK7.out hb)
        have BK8 := Aside0.mk (blk_below BK8.out hb)
        have HB := Aside0.mk (below_step HB.out hb)
        obtain ⟨Al, cl, rfl⟩ := Kd.R_slice hol
        have HL := Aside0.mk (Kd.R_reads' hol).2.2
        clear hol hb
        refine hK.out _ _ ((blk_cell BK6.out 1).trans rfl) (fun hHeld => ?_)
        clear hK K hHeld
        have hHeld := (blk_cell BK6.out 1).trans (rfl : _ = some (Value.int .i64 x.f1))
        refine norm_ (a' := ?_) ?_ ?_
        rotate_left
        · show Act.put _ (some 28) _ = _
          simp only [Act.put, List.setIfInBounds_toArray, List.set_cons_zero, List.set_cons_succ, i64_w, i32_w]
          rfl
        refine one_ (i := 5) (N := some 29) #[true, true, true, true, true, true, true, true, false, false, false, false] rfl rfl (by kernel_rfl) (by decide) (fun K hK => ?_)
        refine Kd.R_append_rows_step (Kd.int .u8) (w0 := w) w.heap.size (by rfl) (.tmp 24) (.tmp 28) 24 5 (.int .u8 0) 1 rfl Try.underlying24 info5 rfl (by decide) (by omega) u4 (rtEnc (l0.take i)) [x.f1 % 256] _ _ _ (fun _ => True) (fun _ => False) rfl rfl HO.out HL.out (fun _ _ h => h) (fun _ h => h.elim) (fun _ _ => trivial) HB.out (below_size HB.out) (by have := hbd.out; simp; omega) ?_
        intro v29 wa ho hb hg hat
        have BK6 := Aside0.mk (blk_grown BK6.out hg (Kd.R_ne HO.out BK6.out (by decide)))
        have BK7 := Aside0.mk (blk_grown BK7.out hg (Kd.R_ne HO.out BK7.out (by decide)))
        have BK8 := Aside0.mk (blk_grown BK8.out hg (Kd.R_ne HO.out BK8.out (by decide)))
        have HO := Aside0.mk ho
        have HB := Aside0.mk hb
        clear ho hb hg hat
        clear HL
        refine hK.out _ _ ((blk_cell BK6.out 1).trans rfl) (fun hHeld => ?_)
        clear hK K hHeld
        have hHeld := (blk_cell BK6.out 1).trans (rfl : _ = some (Value.int .i64 x.f1))
        refine norm_ (a' := ?_) ?_ ?_
        rotate_left
        · show Act.put _ (some 29) _ = _
          simp only [Act.put, List.setIfInBounds_toArray, List.set_cons_zero, List.set_cons_succ, i64_w, i32_w]
          rfl
        refine one_ (i := 8) (N := some 32) #[true, true, true, true, true, true, true, true, true, false, false, false] rfl rfl (by kernel_rfl) (by decide) (fun K hK => ?_)
        refine goes_ Try.func24 (by kernel_rfl) rfl #[.int .i64 x.f1] (by rfl) rfl rfl (by (try simp only [List.map_toArray, List.map_cons, List.map_nil]); rfl) ?_
        refine (route_octets.calls x.f1 (rtOct x.f1 : Int) _ hoct.out).mono ?_
        rintro e wo ⟨rfl, hd⟩
        have hb : Below _ _ wo := hd.below
        refine ⟨_, rfl, ?_⟩
        have HO := Aside0.mk (Kd.R_below HO.out hb)
        have BK6 := Aside0.mk (blk_below BK6.out hb)
        have BK7 := Aside0.mk (blk_below BK7.out hb)
        have BK8 := Aside0.mk (blk_below BK8.out hb)
        have HB := Aside0.mk (below_step HB.out hb)
        clear hb hd
        refine hK.out _ _ ((blk_cell BK6.out 1).trans rfl) (fun hHeld => ?_)
        clear hK K hHeld
        have hHeld := (blk_cell BK6.out 1).trans (rfl : _ = some (Value.int .i64 x.f1))
        refine norm_ (a' := ?_) ?_ ?_
        rotate_left
        · show Act.put _ (some 32) _ = _
          simp only [Act.put, List.setIfInBounds_toArray, List.set_cons_zero, List.set_cons_succ, i64_w, i32_w]
          rfl
        refine pure_ (i := 9) (N := some 33) (v := .slice (some ⟨g7, 0, none⟩) (rtOct x.f1) 4) (a' := ?_) #[true, true, true, true, true, true, true, true, true, true, false, false] rfl rfl (by kernel_rfl) (fun _ _ _ h => h) (Or.inl ⟨by rfl, ?_⟩) ?_ ?_
        · intro w'
          go_simp
          rw [slice_net g7 _ hln.out w']
          rfl
        rotate_left
        · simp only [Act.put, List.setIfInBounds_toArray, List.set_cons_zero, List.set_cons_succ, i64_w, i32_w]
          rfl
        refine one_ (i := 10) (N := some 34) #[true, true, true, true, true, true, true, true, true, true, true, false] rfl rfl (by kernel_rfl) (by decide) (fun K hK => ?_)
        refine Kd.R_append_rows_step (Kd.int .u8) (w0 := w) w.heap.size (by rfl) (.tmp 29) (.tmp 33) 24 5 (.int .u8 0) 1 rfl Try.underlying24 info5 rfl (by decide) (by omega) v29 (rtEnc (l0.take i) ++ [x.f1 % 256]) ((rt4 x.f0).take (rtOct x.f1)) _ _ _ (fun _ => True) (fun _ => False) rfl rfl HO.out (arr4t BK7.out _ hln.out) (fun _ _ h => h) (fun _ h => h.elim) (fun _ _ => trivial) HB.out (below_size HB.out) (by have := hbd.out; have := hln.out; simp only [List.length_append, List.length_singleton]; omega) ?_
        intro v34 wa ho hb hg hat
        have BK6 := Aside0.mk (blk_grown BK6.out hg (Kd.R_ne HO.out BK6.out (by decide)))
        have BK7 := Aside0.mk (blk_grown BK7.out hg (Kd.R_ne HO.out BK7.out (by decide)))
        have BK8 := Aside0.mk (blk_grown BK8.out hg (Kd.R_ne HO.out BK8.out (by decide)))
        have HO := Aside0.mk ho
        have HB := Aside0.mk hb
        clear ho hb hg hat
        refine hK.out _ _ ((blk_cell BK6.out 1).trans rfl) (fun hHeld => ?_)
        clear hK K hHeld
        have hHeld := (blk_cell BK6.out 1).trans (rfl : _ = some (Value.int .i64 x.f1))
        refine norm_ (a' := ?_) ?_ ?_
        rotate_left
        · show Act.put _ (some 34) _ = _
          simp only [Act.put, List.setIfInBounds_toArray, List.set_cons_zero, List.set_cons_succ, i64_w, i32_w]
          rfl
        refine pure_ (i := 11) (N := some 4) (v := ?_) (a' := ?_) #[true, true, true, true, true, true, true, true, true, true, true, true] rfl rfl (by kernel_rfl) (fun _ _ _ h => h) (Or.inl ⟨by rfl, ?_⟩) ?_ ?_
        rotate_left
        · intro w'
          go_simp
          with_reducible rfl
        rotate_left
        · simp only [Act.put, List.setIfInBounds_toArray, List.set_cons_zero, List.set_cons_succ, i64_w, i32_w]
          rfl
        refine done_ (by kernel_rfl) ?_
        clear hHeld
        go_wp2_with (first
          | ((with_reducible refine gate_builtin (b := .append) (xs := #[.tmp 35, .tmp 36]) rfl ?_); at_builtin; refine Kd.R_append_rows (Kd.int .u8) (w0 := w) w.heap.size rfl (.tmp 35) (.tmp 36) 24 5 (.int .u8 0) 1 rfl Try.underlying24 info5 rfl (by decide) (by omega) v34 (rtEnc (l0.take i) ++ [x.f1 % 256] ++ (rt4 x.f0).take (rtOct x.f1)) (rt4 x.f2) _ _ _ (fun _ => True) (fun _ => False) rfl rfl HO.out (arr4 BK8.out) (fun _ _ h => h) (fun _ h => h.elim) (fun _ _ => trivial) HB.out (below_size HB.out) (by have := hbd.out; have := hln.out; simp only [List.length_append, List.length_singleton, List.length_take]; omega) ?_; intro v37 wz ho hb hg hat; clear HO HB BK6 BK7 BK8 hg hat; have HO := Aside0.mk ho; have HB := Aside0.mk hb; clear ho hb)
          | fail)
        go_roundg k2
        case measure => omega
        case rel =>
          refine ⟨i + 1, ?_, ⟨by omega, by have := hi.out; omega⟩, ⟨?_⟩, ⟨?_⟩, HB⟩
          · have := HBIG.out
            have e : wrap64 ((i : Int) + 1) = ((i + 1 : Nat) : Int) := by unfold wrap64; omega
            first | rw [e] | (simp only [i64_w]; rw [e])
          · intro y hy
            rw [List.take_succ_eq_append_getElem c, List.mem_append, List.mem_singleton] at hy
            rcases hy with hy | rfl
            · exact HOK.out y hy
            · rw [← HX.out]; exact r
          · rw [rtEnc_succ l0 c, ← HX.out]
            exact HO.out
      · have hR := Aside0.mk (show route_Right.f x.f0 x.f1 x.f2 = some false by rw [right_total, Bool.eq_false_iff.mpr r])
        go_wp2_with (first
          | (go_at_call 12; (with_reducible refine (route_Right.calls x.f0 x.f1 x.f2 false _ hR.out).mono ?_); rintro e w2 ⟨rfl, hb⟩; have n1_ := Aside0.mk (below_step (below_alloc HB.out _) hb); clear hb HB; have HB := n1_; clear n1_)
          | fail)
        have h := H.out
        rw [if_neg (fun hall => r (by rw [HX.out]; exact hall _ (List.getElem_mem c)))] at h
        obtain ⟨rfl, rfl⟩ := Prod.mk.inj h
        go_ret2
        exact ⟨_, by first | rfl | (simp; done), Kd.R_nil _ _ _ _ _, by repeat (first | (with_reducible first | exact HB.out | apply below_alloc | apply pw_below_drewN | apply below_drew1) | exact HB.out)⟩
    · have cb : decide ((i : Int) < (l0.length : Int)) = false := decide_eq_false (by omega)
      have ei : i = l0.length := by have := hi.out; omega
      have ht : l0.take i = l0 := by rw [ei, List.take_length]
      rw [ht] at HO HOK
      have h := H.out
      rw [if_pos HOK.out] at h
      by_cases c2 : 255 < (rtEnc l0).length
      · rw [if_pos c2] at h
        obtain ⟨rfl, rfl⟩ := Prod.mk.inj h
        have cb0 : decide (255 < ((rtEnc l0).length : Int)) = true := decide_eq_true (by omega)
        have cb1 : decide (255 < (rtEnc l0).length) = true := decide_eq_true c2
        obtain ⟨Ao, co, eo⟩ := Kd.R_slice HO.out
        subst eo
        go_wp2
        go_ret2
        exact ⟨_, by first | rfl | (simp; done), Kd.R_nil _ _ _ _ _, by repeat (first | (with_reducible first | exact HB.out | apply below_alloc | apply pw_below_drewN | apply below_drew1) | exact HB.out)⟩
      · rw [if_neg c2] at h
        obtain ⟨rfl, rfl⟩ := Prod.mk.inj h
        have cb0 : decide (255 < ((rtEnc l0).length : Int)) = false := decide_eq_false (by omega)
        have cb1 : decide (255 < (rtEnc l0).length) = false := decide_eq_false c2
        obtain ⟨Ao, co, eo⟩ := Kd.R_slice HO.out
        subst eo
        go_wp2
        go_ret2
        exact ⟨_, by first | rfl | (simp; done), by (with_reducible repeat (first | apply Kd.R_alloc | apply Kd.R_drewN | apply Kd.R_drew)); exact HO.out, by repeat (first | (with_reducible first | exact HB.out | apply below_alloc | apply pw_below_drewN | apply below_drew1) | exact HB.out)⟩
end Go.Proofs.Yteniakelhalojaa
