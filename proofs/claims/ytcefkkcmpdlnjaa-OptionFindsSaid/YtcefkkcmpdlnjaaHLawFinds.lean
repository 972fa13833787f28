/-
  OptionFinds: what was put is found, just once, and all others are as they were. No condition.
-/
import Derived.Test.YtcefkkcmpdlnjaaHLawPuts
namespace Go.Proofs.Ytcefkkcmpdlnjaa
open Go.RowKit Go.Proofs.Ytcefkkcmpdlnjaa.Pr Go.Proofs.Ytcefkkcmpdlnjaa.PO Go.Proofs.Ytcefkkcmpdlnjaa.PF Go.Proofs.YtcefkkcmpdlnjaaW.PrintWords Go.Proofs.YtcefkkcmpdlnjaaW.PrintLast Go.Proofs.YtcefkkcmpdlnjaaW.PrintMore
attribute [local go_sem] max2_int min2_int max_two min_two max_three min_three max_four min_four
set_option linter.unusedVariables false
set_option linter.unusedSimpArgs false

/-! ### what a put makes -/
theorem opPut_nil (code : Int) (data : List Int) : opPut [] code data = [⟨code, data⟩] := by simp [opPut, ixOf]
theorem opPut_cons (y : OptF) (l : List OptF) (code : Int) (data : List Int) : opPut (y :: l) code data = if y.f0 = code then ⟨code, data⟩ :: l.filter (fun x => !(x.f0 == code)) else y :: opPut l code data := by
  by_cases h : y.f0 = code
  · have e : ixOf (fun x : OptF => x.f0 == code) (y :: l) = 0 := by
      unfold ixOf
      rw [List.findIdx_cons]
      simp [h]
    rw [if_pos h]
    unfold opPut
    rw [e, if_pos (by decide)]
    simp
  · rw [if_neg h]
    have hb : (y.f0 == code) = false := beq_eq_false_iff_ne.2 h
    unfold opPut ixOf
    rw [List.findIdx_cons]
    simp only [hb, cond_false, List.length_cons]
    by_cases hlt : l.findIdx (fun x => x.f0 == code) < l.length
    · rw [if_pos (by omega), if_pos hlt, if_pos (by omega), if_pos (by omega)]
      rw [show ((l.findIdx (fun x => x.f0 == code) + 1 : Nat) : Int).toNat = l.findIdx (fun x => x.f0 == code) + 1 from by omega, Int.toNat_natCast]
      simp
    · rw [if_neg (by omega), if_neg hlt, if_neg (by decide)]
      simp
def notA (a : Int) (l : List OptF) : List OptF := l.filter (fun x => !(x.f0 == a))
def howA (a : Int) (l : List OptF) : Nat := (l.filter (fun x => x.f0 == a)).length
theorem put_others (a : Int) (data : List Int) : ∀ l : List OptF, notA a (opPut l a data) = notA a l
  | [] => by simp [notA, opPut_nil]
  | y :: l => by
    rw [opPut_cons]
    have ih := put_others a data l
    unfold notA at ih ⊢
    by_cases h : y.f0 = a
    · rw [if_pos h]; simp [h]
    · rw [if_neg h]; simp [h, ih]
theorem put_once (a : Int) (data : List Int) : ∀ l : List OptF, howA a (opPut l a data) = 1
  | [] => by simp [howA, opPut_nil]
  | y :: l => by
    rw [opPut_cons]
    have ih := put_once a data l
    unfold howA at ih ⊢
    by_cases h : y.f0 = a
    · rw [if_pos h]
      simp [List.filter_filter]
    · rw [if_neg h]; simp [h, ih]
theorem put_found (a : Int) (data : List Int) : ∀ l : List OptF, opFind (opPut l a data) a = (data, true)
  | [] => by simp [opFind, opPut_nil]
  | y :: l => by
    rw [opPut_cons]
    have ih := put_found a data l
    unfold opFind at ih ⊢
    by_cases h : y.f0 = a
    · rw [if_pos h]; simp
    · rw [if_neg h, List.find?_cons, show (y.f0 == a) = false from beq_eq_false_iff_ne.2 h]; exact ih
theorem find_filter (a b : Int) (h : b ≠ a) : ∀ l : List OptF, (l.filter (fun x => !(x.f0 == a))).find? (fun x => x.f0 == b) = l.find? (fun x => x.f0 == b)
  | [] => rfl
  | y :: l => by
    have ih := find_filter a b h l
    by_cases h1 : y.f0 = a
    · have e1 : (y.f0 == a) = true := beq_iff_eq.2 h1
      have e2 : (y.f0 == b) = false := beq_eq_false_iff_ne.2 (by rw [h1]; exact Ne.symm h)
      simp [e1, e2, ih]
    · have e1 : (y.f0 == a) = false := beq_eq_false_iff_ne.2 h1
      rw [List.filter_cons_of_pos (by simp [h1]), List.find?_cons, List.find?_cons, ih]
theorem put_other (a b : Int) (h : b ≠ a) (data : List Int) : ∀ l : List OptF, opFind (opPut l a data) b = opFind l b := by
  have key : ∀ l : List OptF, (opPut l a data).find? (fun x => x.f0 == b) = l.find? (fun x => x.f0 == b) := by
    intro l
    have hb : (a == b) = false := beq_eq_false_iff_ne.2 (Ne.symm h)
    induction l with
    | nil => rw [opPut_nil, List.find?_cons]; simp [hb]
    | cons y l ih =>
      rw [opPut_cons]
      by_cases h1 : y.f0 = a
      · rw [if_pos h1, List.find?_cons, List.find?_cons, find_filter a b h]
        simp [h1, hb]
      · rw [if_neg h1, List.find?_cons, List.find?_cons, ih]
  intro l
  unfold opFind
  rw [key]
theorem notA_succ (a : Int) {l : List OptF} {k : Nat} (h : k < l.length) : notA a (l.take (k + 1)) = if l[k].f0 = a then notA a (l.take k) else notA a (l.take k) ++ [l[k]] := by
  unfold notA
  rw [List.take_succ_eq_append_getElem h, List.filter_append]
  by_cases c : l[k].f0 = a
  · rw [if_pos c]; simp [c]
  · rw [if_neg c]; simp [c]
theorem howA_succ (a : Int) {l : List OptF} {k : Nat} (h : k < l.length) : howA a (l.take (k + 1)) = if l[k].f0 = a then howA a (l.take k) + 1 else howA a (l.take k) := by
  unfold howA
  rw [List.take_succ_eq_append_getElem h, List.filter_append]
  by_cases c : l[k].f0 = a
  · rw [if_pos c]; simp [c]
  · rw [if_neg c]; simp [c]
theorem notA_len (a : Int) (l : List OptF) (k : Nat) : (notA a (l.take k)).length ≤ l.length := by
  have := List.length_filter_le (fun x : OptF => !(x.f0 == a)) (l.take k)
  rw [List.length_take] at this
  unfold notA
  omega
theorem put_bytes {l : List OptF} {code : Int} {data : List Int} (hl : ∀ x ∈ l, x.f1.length ≤ 1000) (hd : data.length ≤ 1000) : ∀ x ∈ opPut l code data, x.f1.length ≤ 1000 := by
  intro x hx
  unfold opPut at hx
  split at hx
  · rcases List.mem_append.1 hx with hx | hx
    · rcases List.mem_append.1 hx with hx | hx
      · exact hl x (List.mem_of_mem_take hx)
      · rw [List.mem_singleton.1 hx]; exact hd
    · exact hl x (List.mem_of_mem_drop (List.mem_filter.1 hx).1)
  · rcases List.mem_append.1 hx with hx | hx
    · exact hl x hx
    · rw [List.mem_singleton.1 hx]; exact hd

set_option maxHeartbeats 16000000 in
set_option maxRecDepth 100000 in
theorem OptionFinds_calls (A : Option Addr) (c : Nat) (l : List OptF) (a b : Int) (D : Option Addr) (cd : Nat) (data : List Int) (w : World) (hC : Kd.C k40 w A l.length l) (hc : l.length ≤ c) (hD : (Kd.int .u8).C w D data.length data) (hcd : data.length ≤ cd) :
    Calls Try.prog 6 #[.slice A l.length c, .agg #[.int .i64 a, .int .i64 b], .slice D data.length cd] w fun e w' => e = .returned (.bool true) ∧ Below w.heap.size w w' := by
  have HC := Lib.hid hC
  have HD := Lib.hid hD
  have HCC := Lib.hid hc
  have HCD := Lib.hid hcd
  have hdl : data.length ≤ 9223372036854775807 := hD.2.1
  have hll : l.length ≤ 9223372036854775807 := hC.2.1
  obtain ⟨bf, hb, hfew⟩ := few_eq l 500 (by omega)
  have HB := Lib.hid hb
  have HFW := Lib.hid hfew
  clear hC hD hc hcd hb hfew
  obtain ⟨gx, hgx⟩ : ∃ g, w.heap.size = g := ⟨_, rfl⟩
  obtain ⟨W0, hW0⟩ : ∃ W, w.alloc (.cells #[.int .i64 a, .int .i64 b] 38) = W := ⟨_, rfl⟩
  have X0 : Hid (W0.heap[gx]? = some (.cells #[.int .i64 a, .int .i64 b] 38 (0, 0))) := by show _ = _; rw [← hW0, ← hgx]; exact blk_new _ _
  have B0 : Hid (Below w.heap.size w W0) := by show Below _ _ _; rw [← hW0]; exact below_alloc (Below.refl _ _) _
  go_enter Try.func6, Try.ntmps6
  go_upto_region 1 with fail
  clear hW0 hgx
  go_wp2_with fail
  refine (lessorlaw02_awake.calls 20 true _ law_awake).mono ?_
  rintro e w1 ⟨rfl, b1⟩
  have X1 := Lib.hid (blk_below X0.out b1)
  have B1 := Lib.hid (B0.out.trans (b1.mono B0.out.size))
  clear b1 X0 B0
  go_wp2_with fail
  refine (lessorref02_Few.calls 500 A c l bf _ (Kd.C_below HC.out B1.out) HCC.out HB.out).mono ?_
  rintro e w2 ⟨rfl, d2⟩
  have X2 := Lib.hid (blk_below X1.out d2.below)
  have B2 := Lib.hid (B1.out.trans (d2.below.mono B1.out.size))
  clear d2 B1 X1
  cases bf with
  | false =>
    go_wp2_with fail
    go_ret
    exact ⟨rfl, B2.out⟩
  | true =>
    have HF := Lib.hid (HFW.out.1 rfl)
    clear HFW HB
    by_cases big : (data.length : Int) > 1000
    · go_wp2_with fail
      go_ret
      exact ⟨rfl, B2.out⟩
    · have HDL : Hid (data.length ≤ 1000) := by show _ ≤ _; omega
      have e0 : w2.cell? ⟨gx, 0, none⟩ = some (.int .i64 a) := (blk_cell X2.out 0).trans rfl
      go_wp2_with fail
      refine (put_calls A c l a D cd data _ (Kd.C_F opt_heap (Kd.C_below HC.out B2.out)) HCC.out (by have := HF.out.1; omega) (fun x hx => by have := HF.out.2 x hx; omega) (Kd.C_below HD.out B2.out) HCD.out (by have := HDL.out; omega)).mono ?_
      rintro e w3 ⟨v3, rfl, h3, b3⟩
      obtain ⟨m, hm⟩ : ∃ m, m = opPut l a data := ⟨_, rfl⟩
      rw [← hm] at h3
      have HM := Lib.hid hm
      have HML : Hid (m.length ≤ 101) := by show _ ≤ _; rw [hm]; have := opPut_len l a data; have := HF.out.1; omega
      have HMB : Hid (∀ x ∈ m, x.f1.length ≤ 1000) := by show ∀ x ∈ m, _; rw [hm]; exact put_bytes HF.out.2 HDL.out
      obtain ⟨A3, c3, rfl⟩ := Kd.N_slice h3
      have N3 := Lib.hid h3
      have X3 := Lib.hid (blk_below X2.out b3)
      have B3 := Lib.hid (B2.out.trans (b3.mono B2.out.size))
      clear h3 b3 hm e0 X2 B2
      have e0 : w3.cell? ⟨gx, 0, none⟩ = some (.int .i64 a) := (blk_cell X3.out 0).trans rfl
      go_wp2_with fail
      refine (option_Find.calls A3 c3 m a data true _ (Kd.N_reads' N3.out).2.2 (Kd.N_reads' N3.out).2.1 (by rw [find_eq HMB.out a, HM.out, put_found])).mono ?_
      rintro e w4 ⟨v4, rfl, h4, b4⟩
      obtain ⟨A4, c4, rfl⟩ := Kd.R_slice h4
      have R4 := Lib.hid h4
      have N4 := Lib.hid (Kd.N_below N3.out b4)
      have X4 := Lib.hid (blk_below X3.out b4)
      have B4 := Lib.hid (B3.out.trans (b4.mono B3.out.size))
      clear h4 b4 e0 X3 B3 N3
      obtain ⟨fd, fb, hfd⟩ : ∃ fd fb, opFind m b = (fd, fb) := ⟨_, _, rfl⟩
      have HFD := Lib.hid hfd
      have e1 : w4.cell? ⟨gx, 1, none⟩ = some (.int .i64 b) := (blk_cell X4.out 1).trans rfl
      clear hfd
      go_wp2_with fail
      refine (option_Find.calls A3 c3 m b fd fb _ (Kd.N_reads' N4.out).2.2 (Kd.N_reads' N4.out).2.1 (by rw [find_eq HMB.out b, HFD.out])).mono ?_
      rintro e w5 ⟨v5, rfl, h5, b5⟩
      obtain ⟨A5, c5, rfl⟩ := Kd.R_slice h5
      have R5 := Lib.hid h5
      have R4b := Lib.hid (Kd.R_below R4.out b5)
      have N5 := Lib.hid (Kd.N_below N4.out b5)
      have X5 := Lib.hid (blk_below X4.out b5)
      have B5 := Lib.hid (B4.out.trans (b5.mono B4.out.size))
      clear h5 b5 e1 X4 B4 N4 R4
      obtain ⟨gd, gb, hgd⟩ : ∃ gd gb, opFind l b = (gd, gb) := ⟨_, _, rfl⟩
      have HGD := Lib.hid hgd
      have e1 : w5.cell? ⟨gx, 1, none⟩ = some (.int .i64 b) := (blk_cell X5.out 1).trans rfl
      clear hgd
      go_wp2_with fail
      refine (option_Find.calls A c l b gd gb _ (Kd.C_below HC.out B5.out) HCC.out (by rw [find_eq HF.out.2 b, HGD.out])).mono ?_
      rintro e w6 ⟨v6, rfl, h6, b6⟩
      obtain ⟨A6, c6, rfl⟩ := Kd.R_slice h6
      have R6 := Lib.hid h6
      have R5b := Lib.hid (Kd.R_below R5.out b6)
      have R4c := Lib.hid (Kd.R_below R4b.out b6)
      have N6 := Lib.hid (Kd.N_below N5.out b6)
      have X6 := Lib.hid (blk_below X5.out b6)
      have B6 := Lib.hid (B5.out.trans (b6.mono B5.out.size))
      clear h6 b6 e1 X5 B5 N5 R5 R4b
      have FL := Lib.hid (Kd.C_F opt_heap (Kd.C_below HC.out B6.out))
      go_wp2_with fail
      go_loopw [16, 19] (fun v i wr => ∃ k : Nat, k ≤ l.length ∧ i = .int .i64 k ∧ Hid (ON wr w6.heap.size (fun _ => True) v (notA a (l.take k))) ∧ Hid (Below w6.heap.size w6 wr)) (fun _ i _ => l.length - (intOf i).toNat)
      case atStart => exact ⟨0, Nat.zero_le _, rfl, Kd.N_nil _ _ _ _ _, Below.refl _ _⟩
      case round =>
        obtain ⟨k, hk, rfl, HN1, HB1⟩ := hrel
        by_cases hlt : k < l.length
        · obtain ⟨ad, cs, e_ad, hcs, hK, hcc, _⟩ := Kd.F_get FL.out ⟨0, []⟩ (k : Int) (by omega) (by omega)
          subst e_ad
          rw [Int.toNat_natCast] at hK hcc
          obtain ⟨x, hx⟩ : ∃ x, x = l[k] := ⟨_, rfl⟩
          rw [show l.getD k ⟨0, []⟩ = x from by rw [List.getD_eq_getElem?_getD, List.getElem?_eq_getElem hlt, hx]; rfl] at hK
          obtain ⟨Ai, ci, rfl, _, _⟩ := k40_openF hK
          have y0 : w6.cell? (ad.add (k * 2)) = some (.int .i64 x.f0) := hcc 0 _ rfl
          have y1 : w6.cell? ⟨(ad.add (k * 2)).block, (ad.add (k * 2)).off + 1, none⟩ = some (.slice Ai x.f1.length ci) := by rw [← add_succ]; exact hcc 1 _ rfl
          replace y0 := (HB1.out.cell (World.block_lt_of_cell? w6 _ y0)).trans y0
          replace y1 := (HB1.out.cell (World.block_lt_of_cell? w6 _ y1)).trans y1
          have HK := Lib.hid hK
          have e0 : wr.cell? ⟨gx, 0, none⟩ = some (.int .i64 a) := (blk_cell (blk_below X6.out HB1.out) 0).trans rfl
          have HS : Hid (notA a (l.take (k + 1)) = if x.f0 = a then notA a (l.take k) else notA a (l.take k) ++ [x]) := by show _ = _; rw [notA_succ a hlt, hx]
          have HNL : Hid ((notA a (l.take k)).length ≤ l.length) := notA_len a l k
          skip
          have p1 : (0 ≤ (k : Int)) = True := eq_true (by omega)
          have p2 : ((k : Int) < (l.length : Int)) = True := eq_true (by omega)
          clear hK hcc hcs hx
          go_wp2_with fail
          refine start_ (n := 8) (S := fun w' => w'.cell? (ad.add (k * 2)) = some (.int .i64 x.f0) ∧ w'.cell? ⟨gx, 0, none⟩ = some (.int .i64 a)) (ds := []) #[false, false, false, false, false, false, false, false] (by kernel_rfl) rfl rfl ⟨y0, e0⟩ (fun hHeld => ?_)
          refine pure_ (i := 0) (N := some 70) (v := ?_) (a' := ?_) #[true, false, false, false, false, false, false, false] rfl rfl (by kernel_rfl) (fun _ _ _ h => h) (Or.inl ⟨by rfl, ?_⟩) ?_ ?_
          rotate_left
          · intro w'
            go_simp
            with_reducible rfl
          rotate_left
          · simp only [Act.put, List.setIfInBounds_toArray, List.set_cons_zero, List.set_cons_succ, i64_w, i32_w]
            rfl
          refine pure_ (i := 1) (N := some 71) (v := ?_) (a' := ?_) #[true, true, false, false, false, false, false, false] rfl rfl (by kernel_rfl) (fun _ _ _ h => h) (Or.inl ⟨by rfl, ?_⟩) ?_ ?_
          rotate_left
          · intro w'
            go_simp
            with_reducible rfl
          rotate_left
          · simp only [Act.put, List.setIfInBounds_toArray, List.set_cons_zero, List.set_cons_succ, i64_w, i32_w]
            rfl
          refine pure_ (i := 2) (N := some 72) (v := ?_) (a' := ?_) #[true, true, true, false, false, false, false, false] rfl rfl (by kernel_rfl) (fun _ _ _ h => h) (Or.inl ⟨by rfl, ?_⟩) ?_ ?_
          rotate_left
          · intro w'
            go_simp
            with_reducible rfl
          rotate_left
          · simp only [Act.put, List.setIfInBounds_toArray, List.set_cons_zero, List.set_cons_succ, i64_w, i32_w]
            rfl
          refine pure_ (i := 3) (N := some 73) (v := ?_) (a' := ?_) #[true, true, true, true, false, false, false, false] rfl rfl (by kernel_rfl) (fun _ _ _ h => h) (Or.inl ⟨by rfl, ?_⟩) ?_ ?_
          rotate_left
          · intro w'
            go_simp
            with_reducible rfl
          rotate_left
          · simp only [Act.put, List.setIfInBounds_toArray, List.set_cons_zero, List.set_cons_succ, i64_w, i32_w]
            rfl
          refine pure_ (i := 5) (N := some 75) (v := ?_) (a' := ?_) #[true, true, true, true, false, true, false, false] rfl rfl (by kernel_rfl) (fun _ _ _ h => h) (Or.inl ⟨by rfl, ?_⟩) ?_ ?_
          rotate_left
          · intro w'
            go_simp
            with_reducible rfl
          rotate_left
          · simp only [Act.put, List.setIfInBounds_toArray, List.set_cons_zero, List.set_cons_succ, i64_w, i32_w]
            rfl
          refine take_ (i := 4) (N := some 74) (v := ?_) (a' := ?_) #[true, true, true, true, true, true, false, false] rfl rfl (by kernel_rfl) (fun _ _ _ h => h) (Or.inl ⟨by rfl, ?_⟩) hHeld ?_ ?_
          rotate_left
          · rintro w' ⟨s0, s1⟩
            go_simp
            with_reducible rfl
          rotate_left
          · simp only [Act.put, List.setIfInBounds_toArray, List.set_cons_zero, List.set_cons_succ, i64_w, i32_w]
            rfl
          refine take_ (i := 6) (N := some 76) (v := ?_) (a' := ?_) #[true, true, true, true, true, true, true, false] rfl rfl (by kernel_rfl) (fun _ _ _ h => h) (Or.inl ⟨by rfl, ?_⟩) hHeld ?_ ?_
          rotate_left
          · rintro w' ⟨s0, s1⟩
            go_simp
            with_reducible rfl
          rotate_left
          · simp only [Act.put, List.setIfInBounds_toArray, List.set_cons_zero, List.set_cons_succ, i64_w, i32_w]
            rfl
          refine pure_ (i := 7) (N := some 77) (v := ?_) (a' := ?_) #[true, true, true, true, true, true, true, true] rfl rfl (by kernel_rfl) (fun _ _ _ h => h) (Or.inl ⟨by rfl, ?_⟩) ?_ ?_
          rotate_left
          · intro w'
            go_simp
            with_reducible rfl
          rotate_left
          · simp only [Act.put, List.setIfInBounds_toArray, List.set_cons_zero, List.set_cons_succ, i64_w, i32_w]
            rfl
          refine done_ (by kernel_rfl) ?_
          have HNd := Lib.hid (Kd.N_drew HN1.out)
          have HBd := Lib.hid (below_drew HB1.out)
          clear HN1 HB1
          by_cases hcode : x.f0 = a
          · have q1 : (x.f0 == a) = true := beq_iff_eq.2 hcode
            have q2 : (x.f0 != a) = false := by rw [bne, q1]; rfl
            rw [if_pos hcode] at HS
            skip
            clear hcode
            go_wp2_with fail
            go_roundw
            case rel =>
              have r0 := HNd.out
              rw [← HS.out] at r0
              have r1 := Lib.hid r0
              first
                | exact ⟨k + 1, by omega, by go_num, r1, HBd⟩
                | ((repeat apply Exists.intro); exact ⟨⟨k + 1, by omega, by go_num, r1, HBd⟩, rfl⟩)
            case measure => simp [intOf]; omega
          · have q1 : (x.f0 == a) = false := beq_eq_false_iff_ne.2 hcode
            have q2 : (x.f0 != a) = true := by rw [bne, q1]; rfl
            rw [if_neg hcode] at HS
            skip
            clear hcode
            go_wp2_with (first
              | ((with_reducible refine gate_builtin (b := .append) (xs := #[.tmp 78, .tmp 83]) rfl ?_); (try (refine gate_guard (by rfl) ?_; dsimp only)); at_builtin; refine Kd.N_append k40 (w0 := w6) w6.heap.size rfl (.tmp 78) (.tmp 83) 22 40 (.agg #[.int .i64 0, .slice none 0 0]) 32 rfl Try.underlying22 oinfo rfl (by decide) (by decide) _ (notA a (l.take k)) x [.int .i64 x.f0, .slice Ai x.f1.length ci] (fun _ => True) (fun k => k < w6.heap.size) rfl rfl ?ap1 ?aok1 ?afr1 HNd.out HBd.out HBd.out.size ?al1 ?_; (case ap1 => exact Kd.FK_below HK.out HBd.out); (case aok1 => exact fun j hj => ⟨trivial, fun e => by have := Kd.N_base HNd.out j e.symm; omega⟩); (case afr1 => exact fun _ _ => trivial); (case al1 => have := HNL.out; have := HF.out.1; omega); intro v7 w7 n7 b7 g7 at7; have HN7 := Lib.hid n7; have HB7 := Lib.hid b7; clear n7 b7 g7 at7)
              | fail)
            go_roundw
            case rel =>
              have r1 : Hid (ON w7 w6.heap.size (fun _ => True) v7 (notA a (l.take (k + 1)))) := by rw [HS.out]; exact HN7.out
              first
                | exact ⟨k + 1, by omega, by go_num, r1, HB7⟩
                | ((repeat apply Exists.intro); exact ⟨⟨k + 1, by omega, by go_num, r1, HB7⟩, rfl⟩)
            case measure => simp [intOf]; omega
        · obtain rfl : k = l.length := by omega
          have p2 : ((l.length : Int) < (l.length : Int)) = False := eq_false (by omega)
          rw [List.take_length] at HN1
          obtain ⟨A7, c7, rfl⟩ := Kd.N_slice HN1.out
          obtain ⟨w8, hw8⟩ : ∃ W, W = wr := ⟨_, rfl⟩
          rw [← hw8] at HN1 HB1 ⊢
          clear hw8
          have X8 := Lib.hid (blk_below X6.out HB1.out)
          have FM := Lib.hid (N_Fb (Kd.N_below N6.out HB1.out))
          go_wp2_with fail
          go_loopw [17, 18, 20] (fun v q i wr => ∃ k : Nat, k ≤ m.length ∧ i = .int .i64 k ∧ q = .int .i64 (howA a (m.take k) : Nat) ∧ Hid (ON wr w8.heap.size (fun _ => True) v (notA a (m.take k))) ∧ Hid (Below w8.heap.size w8 wr)) (fun _ _ i _ => m.length - (intOf i).toNat)
          case atStart => exact ⟨0, Nat.zero_le _, rfl, rfl, Kd.N_nil _ _ _ _ _, Below.refl _ _⟩
          case round =>
            obtain ⟨k, hk, rfl, rfl, HN2, HB2⟩ := hrel
            by_cases hlt : k < m.length
            · obtain ⟨ad, cs, e_ad, hcs, hK, hcc, _⟩ := Kd.F_get FM.out ⟨0, []⟩ (k : Int) (by omega) (by omega)
              obtain ⟨e_ad2⟩ : A3 = some ad := e_ad
              try subst e_ad2
              rw [Int.toNat_natCast] at hK hcc
              obtain ⟨x, hx⟩ : ∃ x, x = m[k] := ⟨_, rfl⟩
              rw [show m.getD k ⟨0, []⟩ = x from by rw [List.getD_eq_getElem?_getD, List.getElem?_eq_getElem hlt, hx]; rfl] at hK
              obtain ⟨Ai, ci, rfl, _, _⟩ := k40_openF hK
              have y0 : w8.cell? (ad.add (k * 2)) = some (.int .i64 x.f0) := hcc 0 _ rfl
              have y1 : w8.cell? ⟨(ad.add (k * 2)).block, (ad.add (k * 2)).off + 1, none⟩ = some (.slice Ai x.f1.length ci) := by rw [← add_succ]; exact hcc 1 _ rfl
              replace y0 := (HB2.out.cell (World.block_lt_of_cell? w8 _ y0)).trans y0
              replace y1 := (HB2.out.cell (World.block_lt_of_cell? w8 _ y1)).trans y1
              have HK := Lib.hid hK
              have e0 : wr.cell? ⟨gx, 0, none⟩ = some (.int .i64 a) := (blk_cell (blk_below X8.out HB2.out) 0).trans rfl
              have HS : Hid (notA a (m.take (k + 1)) = if x.f0 = a then notA a (m.take k) else notA a (m.take k) ++ [x]) := by show _ = _; rw [notA_succ a hlt, hx]
              have HNL : Hid ((notA a (m.take k)).length ≤ m.length) := notA_len a m k
              have HQ : Hid (howA a (m.take (k + 1)) = if x.f0 = a then howA a (m.take k) + 1 else howA a (m.take k)) := by show _ = _; rw [howA_succ a hlt, hx]
              obtain ⟨nq, hnq⟩ : ∃ n, n = howA a (m.take k) := ⟨_, rfl⟩
              have HNQ : Hid (nq ≤ k) := by show _ ≤ _; rw [hnq]; unfold howA; have := List.length_filter_le (fun x : OptF => x.f0 == a) (m.take k); rw [List.length_take] at this; omega
              have hnq2 : nq ≤ 200 := by have := HNQ.out; have := HML.out; omega
              have hk2 : k ≤ 200 := by have := HML.out; omega
              rw [← hnq] at HQ ⊢
              clear hnq
              have p1 : (0 ≤ (k : Int)) = True := eq_true (by omega)
              have p2 : ((k : Int) < (m.length : Int)) = True := eq_true (by omega)
              clear hK hcc hcs hx
              go_wp2_with fail
              refine start_ (n := 8) (S := fun w' => w'.cell? (ad.add (k * 2)) = some (.int .i64 x.f0) ∧ w'.cell? ⟨gx, 0, none⟩ = some (.int .i64 a)) (ds := []) #[false, false, false, false, false, false, false, false] (by kernel_rfl) rfl rfl ⟨y0, e0⟩ (fun hHeld => ?_)
              refine pure_ (i := 0) (N := some 91) (v := ?_) (a' := ?_) #[true, false, false, false, false, false, false, false] rfl rfl (by kernel_rfl) (fun _ _ _ h => h) (Or.inl ⟨by rfl, ?_⟩) ?_ ?_
              rotate_left
              · intro w'
                go_simp
                with_reducible rfl
              rotate_left
              · simp only [Act.put, List.setIfInBounds_toArray, List.set_cons_zero, List.set_cons_succ, i64_w, i32_w]
                rfl
              refine pure_ (i := 1) (N := some 92) (v := ?_) (a' := ?_) #[true, true, false, false, false, false, false, false] rfl rfl (by kernel_rfl) (fun _ _ _ h => h) (Or.inl ⟨by rfl, ?_⟩) ?_ ?_
              rotate_left
              · intro w'
                go_simp
                with_reducible rfl
              rotate_left
              · simp only [Act.put, List.setIfInBounds_toArray, List.set_cons_zero, List.set_cons_succ, i64_w, i32_w]
                rfl
              refine pure_ (i := 2) (N := some 93) (v := ?_) (a' := ?_) #[true, true, true, false, false, false, false, false] rfl rfl (by kernel_rfl) (fun _ _ _ h => h) (Or.inl ⟨by rfl, ?_⟩) ?_ ?_
              rotate_left
              · intro w'
                go_simp
                with_reducible rfl
              rotate_left
              · simp only [Act.put, List.setIfInBounds_toArray, List.set_cons_zero, List.set_cons_succ, i64_w, i32_w]
                rfl
              refine pure_ (i := 3) (N := some 94) (v := ?_) (a' := ?_) #[true, true, true, true, false, false, false, false] rfl rfl (by kernel_rfl) (fun _ _ _ h => h) (Or.inl ⟨by rfl, ?_⟩) ?_ ?_
              rotate_left
              · intro w'
                go_simp
                with_reducible rfl
              rotate_left
              · simp only [Act.put, List.setIfInBounds_toArray, List.set_cons_zero, List.set_cons_succ, i64_w, i32_w]
                rfl
              refine pure_ (i := 5) (N := some 96) (v := ?_) (a' := ?_) #[true, true, true, true, false, true, false, false] rfl rfl (by kernel_rfl) (fun _ _ _ h => h) (Or.inl ⟨by rfl, ?_⟩) ?_ ?_
              rotate_left
              · intro w'
                go_simp
                with_reducible rfl
              rotate_left
              · simp only [Act.put, List.setIfInBounds_toArray, List.set_cons_zero, List.set_cons_succ, i64_w, i32_w]
                rfl
              refine take_ (i := 4) (N := some 95) (v := ?_) (a' := ?_) #[true, true, true, true, true, true, false, false] rfl rfl (by kernel_rfl) (fun _ _ _ h => h) (Or.inl ⟨by rfl, ?_⟩) hHeld ?_ ?_
              rotate_left
              · rintro w' ⟨s0, s1⟩
                go_simp
                with_reducible rfl
              rotate_left
              · simp only [Act.put, List.setIfInBounds_toArray, List.set_cons_zero, List.set_cons_succ, i64_w, i32_w]
                rfl
              refine take_ (i := 6) (N := some 97) (v := ?_) (a' := ?_) #[true, true, true, true, true, true, true, false] rfl rfl (by kernel_rfl) (fun _ _ _ h => h) (Or.inl ⟨by rfl, ?_⟩) hHeld ?_ ?_
              rotate_left
              · rintro w' ⟨s0, s1⟩
                go_simp
                with_reducible rfl
              rotate_left
              · simp only [Act.put, List.setIfInBounds_toArray, List.set_cons_zero, List.set_cons_succ, i64_w, i32_w]
                rfl
              refine pure_ (i := 7) (N := some 98) (v := ?_) (a' := ?_) #[true, true, true, true, true, true, true, true] rfl rfl (by kernel_rfl) (fun _ _ _ h => h) (Or.inl ⟨by rfl, ?_⟩) ?_ ?_
              rotate_left
              · intro w'
                go_simp
                with_reducible rfl
              rotate_left
              · simp only [Act.put, List.setIfInBounds_toArray, List.set_cons_zero, List.set_cons_succ, i64_w, i32_w]
                rfl
              refine done_ (by kernel_rfl) ?_
              have HNd := Lib.hid (Kd.N_drew HN2.out)
              have HBd := Lib.hid (below_drew HB2.out)
              clear HN2 HB2
              by_cases hcode : x.f0 = a
              · have q1 : (x.f0 == a) = true := beq_iff_eq.2 hcode
                have q2 : (x.f0 != a) = false := by rw [bne, q1]; rfl
                rw [if_pos hcode] at HS
                rw [if_pos hcode] at HQ
                clear hcode
                go_wp2_with fail
                go_roundw
                case rel =>
                  have r0 := HNd.out
                  rw [← HS.out] at r0
                  have r1 := Lib.hid r0
                  first
                    | exact ⟨k + 1, by omega, by go_num, (by rw [HQ.out]; go_num), r1, HBd⟩
                    | ((repeat apply Exists.intro); exact ⟨⟨k + 1, by omega, by go_num, (by rw [HQ.out]; go_num), r1, HBd⟩, rfl⟩)
                case measure => simp [intOf]; omega
              · have q1 : (x.f0 == a) = false := beq_eq_false_iff_ne.2 hcode
                have q2 : (x.f0 != a) = true := by rw [bne, q1]; rfl
                rw [if_neg hcode] at HS
                rw [if_neg hcode] at HQ
                clear hcode
                go_wp2_with (first
                  | ((with_reducible refine gate_builtin (b := .append) (xs := #[.tmp 99, .tmp 104]) rfl ?_); (try (refine gate_guard (by rfl) ?_; dsimp only)); at_builtin; refine Kd.N_append k40 (w0 := w8) w8.heap.size rfl (.tmp 99) (.tmp 104) 22 40 (.agg #[.int .i64 0, .slice none 0 0]) 32 rfl Try.underlying22 oinfo rfl (by decide) (by decide) _ (notA a (m.take k)) x [.int .i64 x.f0, .slice Ai x.f1.length ci] (fun _ => True) (fun k => k < w8.heap.size) rfl rfl ?ap2 ?aok2 ?afr2 HNd.out HBd.out HBd.out.size ?al2 ?_; (case ap2 => exact Kd.FK_below HK.out HBd.out); (case aok2 => exact fun j hj => ⟨trivial, fun e => by have := Kd.N_base HNd.out j e.symm; omega⟩); (case afr2 => exact fun _ _ => trivial); (case al2 => have := HNL.out; have := HML.out; omega); intro v7 w7 n7 b7 g7 at7; have HN7 := Lib.hid n7; have HB7 := Lib.hid b7; clear n7 b7 g7 at7)
                  | fail)
                go_roundw
                case rel =>
                  have r1 : Hid (ON w7 w8.heap.size (fun _ => True) v7 (notA a (m.take (k + 1)))) := by rw [HS.out]; exact HN7.out
                  first
                    | exact ⟨k + 1, by omega, by go_num, (by rw [HQ.out]), r1, HB7⟩
                    | ((repeat apply Exists.intro); exact ⟨⟨k + 1, by omega, by go_num, (by rw [HQ.out]), r1, HB7⟩, rfl⟩)
                case measure => simp [intOf]; omega
            · obtain rfl : k = m.length := by omega
              have p2 : ((m.length : Int) < (m.length : Int)) = False := eq_false (by omega)
              rw [List.take_length] at HN2 ⊢
              have HS1 : Hid (notA a m = notA a l) := by show _ = _; rw [HM.out]; exact put_others a data l
              rw [HS1.out] at HN2
              have HQ1 : Hid (howA a m = 1) := by show _ = _; rw [HM.out]; exact put_once a data l
              have hq1 : ((howA a m : Nat) : Int) = 1 := by rw [HQ1.out]; rfl
              obtain ⟨A8, c8, rfl⟩ := Kd.N_slice HN2.out
              have N1 := Lib.hid (Kd.N_below HN1.out HB2.out)
              have HB3 := Lib.hid (HB1.out.trans (HB2.out.mono HB1.out.size))
              have s4 : ∀ W, Below w6.heap.size w6 W → (convert 25 9 (.slice A4 data.length c4)).run Try.prog W = .ok (.string (strOfNums data)) W := fun W hW => opt_str (Kd.R_reads' (Kd.R_below R4c.out hW)).2.2
              have s5 : ∀ W, Below w6.heap.size w6 W → (convert 25 9 (.slice A5 fd.length c5)).run Try.prog W = .ok (.string (strOfNums fd)) W := fun W hW => opt_str (Kd.R_reads' (Kd.R_below R5b.out hW)).2.2
              have s6 : ∀ W, Below w6.heap.size w6 W → (convert 25 9 (.slice A6 gd.length c6)).run Try.prog W = .ok (.string (strOfNums gd)) W := fun W hW => opt_str (Kd.R_reads' (Kd.R_below R6.out hW)).2.2
              have s7 : ∀ W, Below w6.heap.size w6 W → (convert 25 9 (.slice D data.length cd)).run Try.prog W = .ok (.string (strOfNums data)) W := fun W hW => opt_str (Kd.C_below HD.out (B6.out.trans (hW.mono B6.out.size)))
              have S4 := Lib.hid s4
              have S7 := Lib.hid s7
              have t5 := s5 wr HB3.out
              have t6 := s6 wr HB3.out
              have e0 : wr.cell? ⟨gx, 0, none⟩ = some (.int .i64 a) := (blk_cell (blk_below X6.out HB3.out) 0).trans rfl
              have e1 : wr.cell? ⟨gx, 1, none⟩ = some (.int .i64 b) := (blk_cell (blk_below X6.out HB3.out) 1).trans rfl
              have HSM := Lib.hid (lessorref02_Same.calls 500 A7 c7 (notA a l) A8 c8 (notA a l) true wr (Kd.N_reads' N1.out).2.2 (Kd.N_reads' N1.out).2.1 (Kd.N_reads' HN2.out).2.2 (Kd.N_reads' HN2.out).2.1 (same_refl _ (by have := notA_len a l l.length; rw [List.take_length] at this; have := HF.out.1; omega) 500 (by have := notA_len a l l.length; rw [List.take_length] at this; have := HF.out.1; omega)))
              have HBW : Hid (∀ W, Below wr.heap.size wr W → Below w.heap.size w W) := fun W hW => B6.out.trans ((HB3.out.trans (hW.mono HB3.out.size)).mono B6.out.size)
              clear s4 s5 s6 s7 HB2 HN2 N1 HN1 HB1
              rw [hq1]
              clear hq1
              by_cases hab : a = b
              · subst hab
                go_upto_region 23 with fail
                go_wp2_with fail
                refine HSM.out.mono ?_
                rintro e w9 ⟨rfl, d9⟩
                have t4 := S4.out w9 (HB3.out.trans (d9.below.mono HB3.out.size))
                have t7 := S7.out w9 (HB3.out.trans (d9.below.mono HB3.out.size))
                have HB9 := Lib.hid (HBW.out w9 d9.below)
                clear d9 t5 t6 e0 e1
                go_wp2_with fail
                go_ret
                exact ⟨rfl, HB9.out⟩
              · have q1 : (a == b) = false := beq_eq_false_iff_ne.2 hab
                obtain ⟨rfl, rfl⟩ : fd = gd ∧ fb = gb := by
                  have h1 := HFD.out
                  rw [HM.out, put_other a b (Ne.symm hab), HGD.out] at h1
                  exact ⟨(congrArg Prod.fst h1).symm, (congrArg Prod.snd h1).symm⟩
                clear hab
                cases fb
                all_goals
                  go_upto_region 23 with fail
                  go_wp2_with fail
                  refine HSM.out.mono ?_
                  rintro e w9 ⟨rfl, d9⟩
                  have t4 := S4.out w9 (HB3.out.trans (d9.below.mono HB3.out.size))
                  have t7 := S7.out w9 (HB3.out.trans (d9.below.mono HB3.out.size))
                  have HB9 := Lib.hid (HBW.out w9 d9.below)
                  clear d9 t5 t6 e0 e1
                  go_wp2_with fail
                  go_ret
                  exact ⟨rfl, HB9.out⟩

def lessorlaw02_OptionFinds.f (l0 : List OptF) (a1 a2 : Int) (l2 : List Int) : Option Bool := some true
theorem lessorlaw02_OptionFinds.calls (A0 : Option Addr) (c0 : Nat) (l0 : List OptF) (a1 a2 : Int) (A2 : Option Addr) (c2 : Nat) (l2 : List Int) (r : Bool) (w : World) (hr0 : Kd.C k40 w A0 l0.length l0) (hc0 : l0.length ≤ c0) (hr2 : (Kd.int .u8).C w A2 l2.length l2) (hc2 : l2.length ≤ c2) (h : lessorlaw02_OptionFinds.f l0 a1 a2 l2 = some r) :
    Calls Try.prog 6 #[.slice A0 l0.length c0, .agg #[.int .i64 a1, .int .i64 a2], .slice A2 l2.length c2] w fun e w' => e = .returned (.bool r) ∧ Below w.heap.size w w' := by
  obtain rfl : true = r := Option.some.inj h
  exact OptionFinds_calls A0 c0 l0 a1 a2 A2 c2 l2 w hr0 hc0 hr2 hc2
end Go.Proofs.Ytcefkkcmpdlnjaa
