/-
  option.Put: an option put in the place of those of its code, or behind all. Conditions: no more than half a million, fewer than 2^47 bytes of data each.
-/
import Derived.Test.YtcefkkcmpdlnjaaHOpt3
namespace Go.Proofs.Ytcefkkcmpdlnjaa
open Go.RowKit Go.Proofs.Ytcefkkcmpdlnjaa.Pr Go.Proofs.YtcefkkcmpdlnjaaW.PrintWords Go.Proofs.YtcefkkcmpdlnjaaW.PrintLast Go.Proofs.YtcefkkcmpdlnjaaW.PrintMore
attribute [local go_sem] max2_int min2_int max_two min_two max_three min_three max_four min_four
set_option linter.unusedVariables false
set_option linter.unusedSimpArgs false

/-- One option in a box, as a row. -/
theorem F_one {w : World} {b : Nat} {code : Int} {data : List Int} {A : Option Addr} {c : Nat} {t : TypeId} {ok : Nat → Prop} (hb : w.heap[b]? = some (.cells #[.int .i64 code, .slice A data.length c] t (0, 0))) (hc : data.length ≤ c) (hF : Kd.F (Kd.int .u8) w ok A data.length data) :
    Kd.F k40 w (fun k => k = b ∨ ok k) (some ⟨b, 0, none⟩) 1 [(⟨code, data⟩ : OptF)] := by
  intro W hW
  have hb2 : W.heap[b]? = some (.cells #[.int .i64 code, .slice A data.length c] t (0, 0)) := (hW b (.inl rfl) (blk_lt hb)).trans hb
  refine ⟨rfl, by decide, fun _ => ⟨_, rfl, fun j p hj => ?_⟩⟩
  have hj1 : j < 1 := (List.getElem?_eq_some_iff.1 hj).1
  obtain rfl : j = 0 := by omega
  obtain rfl : (⟨code, data⟩ : OptF) = p := Option.some.inj hj
  refine ⟨[.int .i64 code, .slice A data.length c], rfl, k40_mk W ⟨code, data⟩ hc (hF W (fun k hk hlt => hW k (.inr hk) hlt)), fun i u hu => ?_⟩
  have hi2 : i < 2 := (List.getElem?_eq_some_iff.1 hu).1
  obtain rfl | rfl : i = 0 ∨ i = 1 := by omega
  · obtain rfl := Option.some.inj hu
    exact (blk_cell hb2 0).trans rfl
  · obtain rfl := Option.some.inj hu
    exact (blk_cell hb2 1).trans rfl
/-- Three rows of options, in a box, as a row. -/
theorem F_three {w : World} {h : Nat} {l0 l1 l2 : List OptF} {A0 A1 A2 : Option Addr} {c0 c1 c2 : Nat} {t : TypeId} (hb : w.heap[h]? = some (.cells #[.slice A0 l0.length c0, .slice A1 l1.length c1, .slice A2 l2.length c2] t (0, 0))) (n0 : l0.length ≤ c0) (n1 : l1.length ≤ c1) (n2 : l2.length ≤ c2)
    (h0 : Kd.F k40 w (fun k => k < w.heap.size) A0 l0.length l0) (h1 : Kd.F k40 w (fun k => k < w.heap.size) A1 l1.length l1) (h2 : Kd.F k40 w (fun k => k < w.heap.size) A2 l2.length l2) :
    Kd.F (Kd.slice 40 k40) w (fun k => k < w.heap.size) (some ⟨h, 0, none⟩) 3 [l0, l1, l2] := by
  intro W hW
  have hb2 := (hW h (blk_lt hb) (blk_lt hb)).trans hb
  refine ⟨rfl, by decide, fun _ => ⟨_, rfl, fun j p hj => ?_⟩⟩
  have hj1 : j < 3 := (List.getElem?_eq_some_iff.1 hj).1
  obtain rfl | rfl | rfl : j = 0 ∨ j = 1 ∨ j = 2 := by omega
  · obtain rfl : l0 = p := Option.some.inj hj
    refine ⟨[.slice A0 l0.length c0], rfl, ⟨A0, c0, rfl, n0, h0 W hW⟩, fun i u hu => ?_⟩
    have hi : i < 1 := (List.getElem?_eq_some_iff.1 hu).1
    obtain rfl : i = 0 := by omega
    obtain rfl := Option.some.inj hu
    exact (blk_cell hb2 0).trans rfl
  · obtain rfl : l1 = p := Option.some.inj hj
    refine ⟨[.slice A1 l1.length c1], rfl, ⟨A1, c1, rfl, n1, h1 W hW⟩, fun i u hu => ?_⟩
    have hi : i < 1 := (List.getElem?_eq_some_iff.1 hu).1
    obtain rfl : i = 0 := by omega
    obtain rfl := Option.some.inj hu
    exact (blk_cell hb2 1).trans rfl
  · obtain rfl : l2 = p := Option.some.inj hj
    refine ⟨[.slice A2 l2.length c2], rfl, ⟨A2, c2, rfl, n2, h2 W hW⟩, fun i u hu => ?_⟩
    have hi : i < 1 := (List.getElem?_eq_some_iff.1 hu).1
    obtain rfl : i = 0 := by omega
    obtain rfl := Option.some.inj hu
    exact (blk_cell hb2 2).trans rfl
theorem N_Fb {w : World} {base : Nat} {A : Option Addr} {n c : Nat} {l : List OptF} (h : ON w base (fun _ => True) (.slice A n c) l) : Kd.F k40 w (fun k => k < w.heap.size) A l.length l := by
  have := Kd.F_mono (ok' := fun k => k < w.heap.size) (Kd.F_bound (Kd.N_F h)) (fun k hk => hk.2)
  rwa [(Kd.N_reads' h).1] at this

theorem owx {w W : World} (_h : Below w.heap.size w W) : ∃ Wn, Wn = W := ⟨_, rfl⟩
theorem osize {w W : World} (_h : Below w.heap.size w W) : ∃ b, b = W.heap.size := ⟨_, rfl⟩
theorem blk_new_o {w W : World} (_h : Below w.heap.size w W) (o : Obj) : (W.alloc o).heap[W.heap.size]? = some o := blk_new W o
theorem below_alloc_o {w W : World} (_h : Below w.heap.size w W) (o : Obj) : Below W.heap.size W (W.alloc o) := below_alloc (Below.refl _ _) o
/-! ### what it computes -/
def opPut (l : List OptF) (code : Int) (data : List Int) : List OptF :=
  if 0 ≤ ixOf (fun x => x.f0 == code) l then l.take (ixOf (fun x => x.f0 == code) l).toNat ++ [⟨code, data⟩] ++ (l.drop ((ixOf (fun x => x.f0 == code) l).toNat + 1)).filter (fun x => !(x.f0 == code)) else l ++ [⟨code, data⟩]

set_option maxHeartbeats 8000000 in
set_option maxRecDepth 100000 in
theorem put_calls (A : Option Addr) (c : Nat) (l : List OptF) (code : Int) (D : Option Addr) (cd : Nat) (data : List Int) (w : World) (hF : Kd.F k40 w (fun k => k < w.heap.size) A l.length l) (hc : l.length ≤ c) (hl : l.length ≤ 500000) (hd : ∀ x ∈ l, x.f1.length < 140737488355328)
    (hD : (Kd.int .u8).C w D data.length data) (hcd : data.length ≤ cd) (hdl : data.length < 140737488355328) :
    Calls Try.prog 18 #[.slice A l.length c, .int .i64 code, .slice D data.length cd] w fun e w' => ∃ v, e = .returned v ∧ ON w' w.heap.size (fun _ => True) v (opPut l code data) ∧ Below w.heap.size w w' := by
  have HF := Lib.hid hF
  have HD := Lib.hid hD
  have HDD := Lib.hid hd
  clear hF hD hd
  go_enter Try.func18, Try.ntmps18
  go_wp2_with fail
  refine (owned_calls A c l _ HF.out hc (by omega) HDD.out).mono ?_
  rintro e w1 ⟨v1, rfl, hn1, hb1⟩
  obtain ⟨Av, cv, rfl⟩ := Kd.N_slice hn1
  have HN1 := Lib.hid hn1
  have HB1 := Lib.hid hb1
  clear hn1 hb1
  go_wp2_with fail
  refine (clone_calls D cd data _ (Kd.C_below HD.out HB1.out) hcd hdl).mono ?_
  rintro e w2 ⟨v2, rfl, hv2, hb2⟩
  obtain ⟨A2, c2, rfl⟩ := Kd.R_slice hv2
  have HN2 := Lib.hid (Kd.N_below HN1.out hb2)
  have HB2 := Lib.hid (HB1.out.trans (hb2.mono HB1.out.size))
  have HV2 := Lib.hid (Kd.R_tight rfl hv2)
  have HV2L : Hid (∀ k, (Value.slice A2 data.length c2).ownBlock = some k → w1.heap.size ≤ k ∧ k < w2.heap.size) := fun k hk => ⟨Kd.R_base hv2 k hk, Kd.R_lt hv2 k hk⟩
  clear hv2 hb2 HN1 HB1
  obtain ⟨bx, hbx⟩ : ∃ b, w2.heap.size = b := ⟨_, rfl⟩
  obtain ⟨w3, hw3⟩ : ∃ W, w2.alloc (.cells #[.int .i64 code, .slice A2 data.length c2] 40) = W := ⟨_, rfl⟩
  have HBX3 : Hid (Boxed2 w3 bx code (.slice A2 data.length c2)) := by show _ = _; rw [← hw3, ← hbx]; exact blk_new _ _
  have hb3 : Below w2.heap.size w2 w3 := by rw [← hw3]; exact below_alloc (Below.refl _ _) _
  have HN3 := Lib.hid (Kd.N_below HN2.out hb3)
  have HB3 := Lib.hid (HB2.out.trans (hb3.mono HB2.out.size))
  have HV3 := Lib.hid (Kd.R_below HV2.out hb3)
  have HV3L : Hid (∀ k, (Value.slice A2 data.length c2).ownBlock = some k → k < bx) := fun k hk => by have := (HV2L.out k hk).2; omega
  have HBXL : Hid (w.heap.size ≤ bx) := by show _ ≤ _; rw [← hbx]; exact HB2.out.size
  clear HV2 HV2L HN2 HB2 hb3
  go_upto_region 3 with fail
  clear hw3 hbx
  go_wp2_with fail
  refine (of_calls code _).mono ?_
  rintro e w4 ⟨rfl, rfl⟩
  obtain ⟨bc, hbc⟩ : ∃ b, w3.heap.size = b := ⟨_, rfl⟩
  obtain ⟨w4, hw4⟩ : ∃ W, w3.alloc (.cells #[.int .i64 code] 3) = W := ⟨_, rfl⟩
  have HC4 : Hid (Boxed w4 bc 3 (.int .i64 code)) := by show Boxed _ _ _ _; rw [← hw4, ← hbc]; exact Boxed.new _ _ _
  have hb4 : Below w3.heap.size w3 w4 := by rw [← hw4]; exact below_alloc (Below.refl _ _) _
  have HN4 := Lib.hid (Kd.N_below HN3.out hb4)
  have HB4 := Lib.hid (HB3.out.trans (hb4.mono HB3.out.size))
  have HV4 := Lib.hid (Kd.R_below HV3.out hb4)
  have HBX4 : Hid (Boxed2 w4 bx code (.slice A2 data.length c2)) := (hb4.block bx (blk_lt HBX3.out)).trans HBX3.out
  rw [hw4, hbc]
  clear hw4 hbc hb4 HN3 HB3 HV3 HBX3
  have HIX := Lib.hid (ix_calls (fun x => x.f0 == code) _ #[.pointer (some ⟨bc, 0, none⟩)] enters_of Av cv l w4 (Kd.N_reads' HN4.out).2.2 (Kd.N_reads' HN4.out).2.1 (fun k hk A1 c1 W hW => of1_calls bc code _ A1 _ c1 W ((hW.block _ HC4.out.lt).trans HC4.out)))
  obtain ⟨ix, hix⟩ : ∃ ix, ixOf (fun x : OptF => x.f0 == code) l = ix := ⟨_, rfl⟩
  rw [hix] at HIX
  go_wp2_with fail
  refine HIX.out.mono ?_
  rintro e w5 ⟨rfl, hb5⟩
  have HN5 := Lib.hid (Kd.N_below HN4.out hb5)
  have HB5 := Lib.hid (HB4.out.trans (hb5.mono HB4.out.size))
  have HV5 := Lib.hid (Kd.R_below HV4.out hb5)
  have HBX5 : Hid (Boxed2 w5 bx code (.slice A2 data.length c2)) := (hb5.block bx (blk_lt HBX4.out)).trans HBX4.out
  clear hb5 HN4 HB4 HV4 HBX4 HIX HC4
  by_cases hneg : ix < 0
  · have HP : Hid (opPut l code data = l ++ [⟨code, data⟩]) := by
      show _ = _
      unfold opPut
      rw [if_neg (by rw [hix]; omega)]
    have e0 := (blk_cell HBX5.out 0).trans rfl
    have e1 := (blk_cell HBX5.out 1).trans rfl
    clear hix
    go_wp2_with fail
    refine start_ (n := 6) (S := fun w' => w'.cell? ⟨bx, 0, none⟩ = some (.int .i64 code) ∧ w'.cell? ⟨bx, 1, none⟩ = some (.slice A2 data.length c2)) (ds := []) #[false, false, false, false, false, false] (by kernel_rfl) rfl rfl ⟨e0, e1⟩ (fun hHeld => ?_)
    obtain ⟨W2, hW2⟩ : ∃ W2, w5.drew = W2 := ⟨_, rfl⟩
    have hbw : Below w5.heap.size w5 W2 := by rw [← hW2]; exact below_drew (Below.refl _ _)
    rw [hW2] at hHeld ⊢
    clear hW2
    have HBW := Lib.hid hbw
    have HW := Lib.hid (Below.refl W2.heap.size W2)
    have HNW := Lib.hid (Kd.N_below HN5.out hbw)
    have HBXW : Hid (Boxed2 W2 bx code (.slice A2 data.length c2)) := (hbw.block bx (blk_lt HBX5.out)).trans HBX5.out
    have HVW := Lib.hid (Kd.R_below HV5.out hbw)
    clear hbw
    refine pure_ (i := 0) (N := some 22) (v := ?_) (a' := ?_) #[true, false, false, false, false, false] rfl rfl (by kernel_rfl) (fun _ _ _ h => h) (Or.inl ⟨by rfl, ?_⟩) ?_ ?_
    rotate_left
    · intro w'
      go_simp
      with_reducible rfl
    rotate_left
    · simp only [Act.put, List.setIfInBounds_toArray, List.set_cons_zero, List.set_cons_succ, i64_w, i32_w]
      rfl
    refine take_ (i := 2) (N := some 24) (v := .agg #[.int .i64 code, .slice A2 data.length c2]) (a' := ?_) #[true, false, true, false, false, false] rfl rfl (by kernel_rfl) (fun _ _ _ h => h) (Or.inl ⟨by rfl, ?_⟩) hHeld ?_ ?_
    · rintro w' ⟨s0, s1⟩
      go_simp
      try (with_reducible rfl)
    rotate_left
    · simp only [Act.put, List.setIfInBounds_toArray, List.set_cons_zero, List.set_cons_succ, i64_w, i32_w]
      rfl
    refine join_ (σ := Value × Nat) 2 #[true, true, true, true, false, false] (fun s => [(23, s.1), (25, .slice (some ⟨s.2, 0, none⟩) 1 1)]) (fun s w' => (w'.cell? ⟨bx, 0, none⟩ = some (.int .i64 code) ∧ w'.cell? ⟨bx, 1, none⟩ = some (.slice A2 data.length c2)) ∧ Below W2.heap.size W2 w' ∧ ON w' W2.heap.size (fun _ => True) s.1 l ∧ Boxed2 w' s.2 code (.slice A2 data.length c2) ∧ some s.2 ≠ s.1.ownBlock) ?_ ?_
    rotate_left
    · intro hCont
      refine two_ (i := 1) (j := 3) (Ni := some 23) (Nj := some 25) #[true, true, true, false, false, false] #[true, false, true, true, false, false] rfl rfl rfl rfl (by kernel_rfl) (by decide) (by decide) (fun K hK => ?_) (fun K hK => ?_)
      · skip
        refine goes_ Try.func26 (by kernel_rfl) rfl #[.slice Av l.length cv] (by rfl) rfl rfl (by (try simp only [List.map_toArray, List.map_cons, List.map_nil]); rfl) ?_
        have hNow := Kd.N_below HNW.out HW.out
        obtain ⟨Wn, hWn⟩ := owx HW.out
        rw [← hWn] at hNow ⊢
        refine (oclone_calls Av cv l Wn (N_Fb hNow) (Kd.N_reads' hNow).2.1 (by omega)).mono ?_
        rintro e w7 ⟨v23, rfl, hn7, hb7⟩
        rw [hWn] at hb7 hn7
        have t1 := Lib.hid (HW.out.trans (hb7.mono HW.out.size))
        have HO5 := Lib.hid (Kd.N_lower hn7 HW.out.size)
        try (have HNE : Hid (some b6 ≠ v23.ownBlock) := fun e => by have := Kd.N_base hn7 b6 e.symm; have := blk_lt HB6.out; omega)
        try (have t3 : Hid (Boxed2 w7 b6 code (.slice A2 data.length c2)) := (hb7.block b6 (blk_lt HB6.out)).trans HB6.out; clear HB6; have HB6 := t3; clear t3)
        clear HW hn7 hb7 hNow hWn hHeld
        have HW := t1
        clear t1
        refine ⟨_, rfl, ?_⟩
        refine hK.out _ _ ⟨(blk_cell ((HW.out.block bx (blk_lt HBXW.out)).trans HBXW.out) 0).trans rfl, (blk_cell ((HW.out.block bx (blk_lt HBXW.out)).trans HBXW.out) 1).trans rfl⟩ (fun hHeld => ?_)
        clear hK K
        refine norm_ (a' := ?_) ?_ ?_
        rotate_left
        · first | (show Act.put _ (some 23) _ = _; simp only [Act.put, List.setIfInBounds_toArray, List.set_cons_zero, List.set_cons_succ, i64_w, i32_w]; rfl) | rfl
        refine one_ (i := 3) (N := some 25) #[true, true, true, true, false, false] rfl rfl (by kernel_rfl) (by decide) (fun K hK => ?_)
        go_simp
        clear hHeld
        have HB6 := Lib.hid (blk_new_o HW.out (.cells #[.int .i64 code, .slice A2 data.length c2] 40))
        have BN := Lib.hid (below_alloc_o HW.out (.cells #[.int .i64 code, .slice A2 data.length c2] 40))
        obtain ⟨b6, hb6⟩ := osize HW.out
        rw [← hb6] at HB6 ⊢
        have t1 := Lib.hid (below_alloc HW.out (.cells #[.int .i64 code, .slice A2 data.length c2] 40))
        try (have HNE : Hid (some b6 ≠ v23.ownBlock) := fun e => by have := Kd.N_lt HO5.out b6 e.symm; omega)
        try (have t3 := Lib.hid (Kd.N_below HO5.out BN.out); clear HO5; have HO5 := t3; clear t3)
        clear HW
        have HW := t1
        clear BN t1 hb6
        refine hK.out _ _ ⟨(blk_cell ((HW.out.block bx (blk_lt HBXW.out)).trans HBXW.out) 0).trans rfl, (blk_cell ((HW.out.block bx (blk_lt HBXW.out)).trans HBXW.out) 1).trans rfl⟩ (fun hHeld => ?_)
        clear hK K
        refine norm_ (a' := ?_) ?_ ?_
        rotate_left
        · first | (show Act.put _ (some 25) _ = _; simp only [Act.put, List.setIfInBounds_toArray, List.set_cons_zero, List.set_cons_succ, i64_w, i32_w]; rfl) | rfl
        exact norm_ (by simp only [putAll, Act.put, List.setIfInBounds_toArray, List.set_cons_zero, List.set_cons_succ]) (hCont (v23, b6) _ ⟨hHeld, HW.out, HO5.out, HB6.out, HNE.out⟩)
      · skip
        go_simp
        clear hHeld
        have HB6 := Lib.hid (blk_new_o HW.out (.cells #[.int .i64 code, .slice A2 data.length c2] 40))
        have BN := Lib.hid (below_alloc_o HW.out (.cells #[.int .i64 code, .slice A2 data.length c2] 40))
        obtain ⟨b6, hb6⟩ := osize HW.out
        rw [← hb6] at HB6 ⊢
        have t1 := Lib.hid (below_alloc HW.out (.cells #[.int .i64 code, .slice A2 data.length c2] 40))
        try (have HNE : Hid (some b6 ≠ v23.ownBlock) := fun e => by have := Kd.N_lt HO5.out b6 e.symm; omega)
        try (have t3 := Lib.hid (Kd.N_below HO5.out BN.out); clear HO5; have HO5 := t3; clear t3)
        clear HW
        have HW := t1
        clear BN t1 hb6
        refine hK.out _ _ ⟨(blk_cell ((HW.out.block bx (blk_lt HBXW.out)).trans HBXW.out) 0).trans rfl, (blk_cell ((HW.out.block bx (blk_lt HBXW.out)).trans HBXW.out) 1).trans rfl⟩ (fun hHeld => ?_)
        clear hK K
        refine norm_ (a' := ?_) ?_ ?_
        rotate_left
        · first | (show Act.put _ (some 25) _ = _; simp only [Act.put, List.setIfInBounds_toArray, List.set_cons_zero, List.set_cons_succ, i64_w, i32_w]; rfl) | rfl
        refine one_ (i := 1) (N := some 23) #[true, true, true, true, false, false] rfl rfl (by kernel_rfl) (by decide) (fun K hK => ?_)
        refine goes_ Try.func26 (by kernel_rfl) rfl #[.slice Av l.length cv] (by rfl) rfl rfl (by (try simp only [List.map_toArray, List.map_cons, List.map_nil]); rfl) ?_
        have hNow := Kd.N_below HNW.out HW.out
        obtain ⟨Wn, hWn⟩ := owx HW.out
        rw [← hWn] at hNow ⊢
        refine (oclone_calls Av cv l Wn (N_Fb hNow) (Kd.N_reads' hNow).2.1 (by omega)).mono ?_
        rintro e w7 ⟨v23, rfl, hn7, hb7⟩
        rw [hWn] at hb7 hn7
        have t1 := Lib.hid (HW.out.trans (hb7.mono HW.out.size))
        have HO5 := Lib.hid (Kd.N_lower hn7 HW.out.size)
        try (have HNE : Hid (some b6 ≠ v23.ownBlock) := fun e => by have := Kd.N_base hn7 b6 e.symm; have := blk_lt HB6.out; omega)
        try (have t3 : Hid (Boxed2 w7 b6 code (.slice A2 data.length c2)) := (hb7.block b6 (blk_lt HB6.out)).trans HB6.out; clear HB6; have HB6 := t3; clear t3)
        clear HW hn7 hb7 hNow hWn hHeld
        have HW := t1
        clear t1
        refine ⟨_, rfl, ?_⟩
        refine hK.out _ _ ⟨(blk_cell ((HW.out.block bx (blk_lt HBXW.out)).trans HBXW.out) 0).trans rfl, (blk_cell ((HW.out.block bx (blk_lt HBXW.out)).trans HBXW.out) 1).trans rfl⟩ (fun hHeld => ?_)
        clear hK K
        refine norm_ (a' := ?_) ?_ ?_
        rotate_left
        · first | (show Act.put _ (some 23) _ = _; simp only [Act.put, List.setIfInBounds_toArray, List.set_cons_zero, List.set_cons_succ, i64_w, i32_w]; rfl) | rfl
        exact norm_ (by simp only [putAll, Act.put, List.setIfInBounds_toArray, List.set_cons_zero, List.set_cons_succ]) (hCont (v23, b6) _ ⟨hHeld, HW.out, HO5.out, HB6.out, HNE.out⟩)
    rintro ⟨u3, b6⟩ w' ⟨hHeld, hw_, ho5, hb6, hn5⟩
    dsimp only at ho5 hb6 hn5
    have HW := Lib.hid hw_
    have HO5 := Lib.hid ho5
    have HB6 := Lib.hid hb6
    have HN6 := Lib.hid hn5
    clear hw_ ho5 hb6 hn5
    refine norm_ (a' := ?_) ?_ ?_
    rotate_left
    focus (simp only [putAll, Act.put, List.setIfInBounds_toArray, List.set_cons_zero, List.set_cons_succ]; rfl)
    refine one_ (i := 4) (N := some 26) #[true, true, true, true, true, false] rfl rfl (by kernel_rfl) (by decide) (fun K hK => ?_)
    refine Kd.N_append_rows_step k40 (w0 := W2) W2.heap.size (by rfl) (.tmp 23) (.tmp 25) 22 40 (.agg #[.int .i64 0, .slice none 0 0]) 32 rfl Try.underlying22 oinfo rfl (by decide) (by decide) u3 l [⟨code, data⟩] (some ⟨b6, 0, none⟩) 1 1 (fun _ => True) (fun k => k = b6 ∨ some k = (Value.slice A2 data.length c2).ownBlock) rfl rfl HO5.out (F_one HB6.out (Kd.R_reads' HVW.out).2.1 (Kd.R_F (Kd.R_below HVW.out HW.out))) (fun k hk => ⟨trivial, ?_⟩) (fun _ _ => trivial) HW.out HW.out.size (by omega) ?_
    · rcases hk with rfl | hk
      · exact HN6.out
      · intro e
        have h1 := Kd.N_base HO5.out k e.symm
        have h2 := HV3L.out k hk.symm
        have h3 := blk_lt HBXW.out
        omega
    intro v9 w9 ho9 hb9 _ _
    have HO9 := Lib.hid ho9
    have HB9 := Lib.hid (HB5.out.trans ((HBW.out.trans (hb9.mono HBW.out.size)).mono HB5.out.size))
    have HW9 := Lib.hid hb9
    clear ho9 hb9 hHeld
    refine hK.out _ _ ⟨(blk_cell ((HW9.out.block bx (blk_lt HBXW.out)).trans HBXW.out) 0).trans rfl, (blk_cell ((HW9.out.block bx (blk_lt HBXW.out)).trans HBXW.out) 1).trans rfl⟩ (fun hHeld => ?_)
    clear hK K
    refine norm_ (a' := ?_) ?_ ?_
    rotate_left
    · show Act.put _ (some 26) _ = _
      simp only [Act.put, List.setIfInBounds_toArray, List.set_cons_zero, List.set_cons_succ, i64_w, i32_w]
      rfl
    refine pure_ (i := 5) (N := some 6) (v := ?_) (a' := ?_) #[true, true, true, true, true, true] rfl rfl (by kernel_rfl) (fun _ _ _ h => h) (Or.inl ⟨by rfl, ?_⟩) ?_ ?_
    rotate_left
    · intro w'
      go_simp
      with_reducible rfl
    rotate_left
    · simp only [Act.put, List.setIfInBounds_toArray, List.set_cons_zero, List.set_cons_succ, i64_w, i32_w]
      rfl
    refine done_ (by kernel_rfl) ?_
    go_wp2_with fail
    go_ret
    exact ⟨v9, rfl, by rw [HP.out]; exact Kd.N_lower HO9.out (Nat.le_trans HB5.out.size HBW.out.size), HB9.out⟩
  · obtain ⟨k, hk, rfl⟩ : ∃ (k : Nat), k < l.length ∧ ix = (k : Int) := by
      rcases ix_split (fun x : OptF => x.f0 == code) l with ⟨h, _⟩ | ⟨k, hk, h, _⟩
      · rw [h] at hix; omega
      · exact ⟨k, hk, hix.symm.trans h⟩
    obtain ⟨lk, hlk⟩ : ∃ lk, lk = l.take k := ⟨_, rfl⟩
    obtain ⟨lr, hlr⟩ : ∃ lr, lr = l.drop (k + 1) := ⟨_, rfl⟩
    obtain ⟨lf, hlf⟩ : ∃ lf, lf = lr.filter (fun x => !(x.f0 == code)) := ⟨_, rfl⟩
    have HP : Hid (opPut l code data = lk ++ [⟨code, data⟩] ++ lf) := by
      show _ = _
      unfold opPut
      rw [if_pos (by rw [hix]; omega), hix, Int.toNat_natCast, hlf, hlr, hlk]
    have elk : lk.length = k := by rw [hlk, List.length_take]; omega
    have elr : lr.length = l.length - (k + 1) := by rw [hlr, List.length_drop]
    have elf : lf.length ≤ lr.length := by rw [hlf]; exact List.length_filter_le _ _
    have HELK := Lib.hid elk
    have HELR := Lib.hid elr
    have HELF := Lib.hid elf
    have HLF := Lib.hid hlf
    obtain ⟨i0, hinf, hzz⟩ := Option.map_eq_some_iff.1 oinfo
    simp only [Prod.mk.injEq] at hzz
    obtain ⟨_, hcv, _⟩ := Kd.N_reads' HN5.out
    have HCV := Lib.hid hcv
    have r1 := cut_from (P := Try.prog) 22 40 .i64 Try.underlying22 hinf 2 hzz.2.1 Av l.length cv ((k : Int) + 1) (by omega) (by omega)
    rw [show ((k : Int) + 1).toNat = k + 1 from by omega, ← elr] at r1
    obtain ⟨A6, hA6⟩ : ∃ A6, A6 = (if cv = k + 1 then Av else Av.map (·.add ((k + 1) * 2))) := ⟨_, rfl⟩
    obtain ⟨c6, hc6⟩ : ∃ c6, c6 = cv - (k + 1) := ⟨_, rfl⟩
    rw [← hA6, ← hc6] at r1
    have HF6 : Hid (Kd.F k40 w5 (fun k => k < w5.heap.size) A6 lr.length lr) := by
      show Kd.F _ _ _ _ _ _
      rw [hA6, hlr]
      exact Kd.F_imp (N_Fb HN5.out) (fun W' h => Kd.C_drop h (by omega) hcv)
    have HC6 : Hid (lr.length ≤ c6) := by show _ ≤ _; omega
    have r2 := cut_to (P := Try.prog) 22 40 .i64 Try.underlying22 hinf Av l.length cv (k : Int) (by omega) (by omega) hcv
    rw [Int.toNat_natCast, ← elk] at r2
    have HTK : Hid (∀ W, ON W w.heap.size (fun _ => True) (.slice Av l.length cv) l → ON W w.heap.size (fun _ => True) (.slice Av lk.length cv) lk) := fun W h => by rw [elk, hlk]; exact Kd.N_take h (by omega)
    rw [elk] at r2
    have p1 : ((k : Int) < 0) = False := eq_false (by omega)
    have hkl : (k : Int) + 1 ≤ 500000 := by omega
    clear hix hlk hlr hlf elk elr elf hinf hzz hcv hA6 hc6 hneg
    go_wp2_with fail
    refine (oclone_calls A6 c6 lr _ HF6.out HC6.out (by have := HELR.out; omega)).mono ?_
    rintro e w7 ⟨v7, rfl, hn7, hb7⟩
    have HN7 := Lib.hid hn7
    have HB7 := Lib.hid hb7
    clear hn7 hb7
    go_wp2_with fail
    refine (of_calls code _).mono ?_
    rintro e w8 ⟨rfl, rfl⟩
    obtain ⟨bc2, hbc⟩ : ∃ b, w7.heap.size = b := ⟨_, rfl⟩
    obtain ⟨w8, hw8⟩ : ∃ W, w7.alloc (.cells #[.int .i64 code] 3) = W := ⟨_, rfl⟩
    have HC8 : Hid (Boxed w8 bc2 3 (.int .i64 code)) := by show Boxed _ _ _ _; rw [← hw8, ← hbc]; exact Boxed.new _ _ _
    have hb8 : Below w7.heap.size w7 w8 := by rw [← hw8]; exact below_alloc (Below.refl _ _) _
    have HL7 : Hid (∀ j, v7.ownBlock = some j → w5.heap.size ≤ j ∧ j < bc2) := fun j hj => ⟨Kd.N_base HN7.out j hj, by have := Kd.N_lt HN7.out j hj; omega⟩
    have HN8 := Lib.hid (Kd.N_below HN7.out hb8)
    have HB8 := Lib.hid (HB7.out.trans (hb8.mono HB7.out.size))
    rw [hw8, hbc]
    clear hw8 hbc hb8 HN7 HB7
    have HDEL := Lib.hid (del_calls (fun x => x.f0 == code) _ #[.pointer (some ⟨bc2, 0, none⟩)] enters_of v7 lr w8 w5.heap.size HN8.out (by have := HELR.out; omega) (fun x A1 c1 W hW => of1_calls bc2 code _ A1 _ c1 W ((hW.block bc2 HC8.out.lt (fun e => by have := (HL7.out bc2 e).2; omega)).trans HC8.out)))
    rw [← HLF.out] at HDEL
    go_wp2_with fail
    refine HDEL.out.mono ?_
    rintro e w9 ⟨v9, rfl, hn9, hf9⟩
    obtain ⟨A9, c9, rfl⟩ := Kd.N_slice hn9
    have HB59 : Hid (Below w5.heap.size w5 w9) := HB8.out.trans (hf9.to_below HB8.out.size (fun j hj => (HL7.out j hj).1))
    have HN9 := Lib.hid (Kd.N_below HN5.out HB59.out)
    have HM9 := Lib.hid hn9
    have HB9 := Lib.hid (HB5.out.trans (HB59.out.mono HB5.out.size))
    have HV9 := Lib.hid (Kd.R_below HV5.out HB59.out)
    have HBX9 : Hid (Boxed2 w9 bx code (.slice A2 data.length c2)) := (HB59.out.block bx (blk_lt HBX5.out)).trans HBX5.out
    clear hn9 hf9 HDEL HN8 HB8 HC8 HL7 HF6 HC6 r1 HN5 HB5 HV5 HBX5
    have e0 := (blk_cell HBX9.out 0).trans rfl
    have e1 := (blk_cell HBX9.out 1).trans rfl
    go_wp2_with fail
    refine start_ (n := 9) (S := fun w' => w'.cell? ⟨bx, 0, none⟩ = some (.int .i64 code) ∧ w'.cell? ⟨bx, 1, none⟩ = some (.slice A2 data.length c2)) (ds := []) #[false, false, false, false, false, false, false, false, false] (by kernel_rfl) rfl rfl ⟨e0, e1⟩ (fun hHeld => ?_)
    obtain ⟨W2, hW2⟩ : ∃ W2, w9.drew = W2 := ⟨_, rfl⟩
    have hbw : Below w9.heap.size w9 W2 := by rw [← hW2]; exact below_drew (Below.refl _ _)
    rw [hW2] at hHeld ⊢
    clear hW2
    have HBW := Lib.hid hbw
    have HW := Lib.hid (Below.refl W2.heap.size W2)
    have HNW := Lib.hid (Kd.N_below HN9.out hbw)
    have HMW := Lib.hid (Kd.N_below HM9.out hbw)
    have HBXW : Hid (Boxed2 W2 bx code (.slice A2 data.length c2)) := (hbw.block bx (blk_lt HBX9.out)).trans HBX9.out
    have HVW := Lib.hid (Kd.R_below HV9.out hbw)
    clear hbw
    refine pure_ (i := 0) (N := some 35) (v := ?_) (a' := ?_) #[true, false, false, false, false, false, false, false, false] rfl rfl (by kernel_rfl) (fun _ _ _ h => h) (Or.inl ⟨by rfl, ?_⟩) ?_ ?_
    rotate_left
    · intro w'
      go_simp
      with_reducible rfl
    rotate_left
    · simp only [Act.put, List.setIfInBounds_toArray, List.set_cons_zero, List.set_cons_succ, i64_w, i32_w]
      rfl
    refine pure_ (i := 1) (N := some 36) (v := ?_) (a' := ?_) #[true, true, false, false, false, false, false, false, false] rfl rfl (by kernel_rfl) (fun _ _ _ h => h) (Or.inl ⟨by rfl, ?_⟩) ?_ ?_
    rotate_left
    · intro w'
      go_simp
      with_reducible rfl
    rotate_left
    · simp only [Act.put, List.setIfInBounds_toArray, List.set_cons_zero, List.set_cons_succ, i64_w, i32_w]
      rfl
    refine pure_ (i := 2) (N := some 37) (v := .slice Av k cv) (a' := ?_) #[true, true, true, false, false, false, false, false, false] rfl rfl (by kernel_rfl) (fun _ _ _ h => h) (Or.inl ⟨by rfl, ?_⟩) ?_ ?_
    · intro w'
      go_simp
      try (with_reducible rfl)
    rotate_left
    · simp only [Act.put, List.setIfInBounds_toArray, List.set_cons_zero, List.set_cons_succ, i64_w, i32_w]
      rfl
    refine pure_ (i := 5) (N := some 40) (v := ?_) (a' := ?_) #[true, true, true, false, false, true, false, false, false] rfl rfl (by kernel_rfl) (fun _ _ _ h => h) (Or.inl ⟨by rfl, ?_⟩) ?_ ?_
    rotate_left
    · intro w'
      go_simp
      with_reducible rfl
    rotate_left
    · simp only [Act.put, List.setIfInBounds_toArray, List.set_cons_zero, List.set_cons_succ, i64_w, i32_w]
      rfl
    refine take_ (i := 3) (N := some 38) (v := .agg #[.int .i64 code, .slice A2 data.length c2]) (a' := ?_) #[true, true, true, true, false, true, false, false, false] rfl rfl (by kernel_rfl) (fun _ _ _ h => h) (Or.inl ⟨by rfl, ?_⟩) hHeld ?_ ?_
    · rintro w' ⟨s0, s1⟩
      go_simp
      try (with_reducible rfl)
    rotate_left
    · simp only [Act.put, List.setIfInBounds_toArray, List.set_cons_zero, List.set_cons_succ, i64_w, i32_w]
      rfl
    refine one_ (i := 4) (N := some 39) #[true, true, true, true, true, true, false, false, false] rfl rfl (by kernel_rfl) (by decide) (fun K hK => ?_)
    go_simp
    clear hHeld
    have HB6 := Lib.hid (blk_new_o HW.out (.cells #[.int .i64 code, .slice A2 data.length c2] 40))
    obtain ⟨b6, hb6⟩ := osize HW.out
    rw [← hb6] at HB6 ⊢
    have t1 := Lib.hid (below_alloc HW.out (.cells #[.int .i64 code, .slice A2 data.length c2] 40))
    clear HW hb6
    have HW := t1
    clear t1
    obtain ⟨W6, hW6⟩ := owx HW.out
    rw [← hW6] at HW HB6 ⊢
    clear hW6
    refine hK.out _ _ ⟨(blk_cell ((HW.out.block bx (blk_lt HBXW.out)).trans HBXW.out) 0).trans rfl, (blk_cell ((HW.out.block bx (blk_lt HBXW.out)).trans HBXW.out) 1).trans rfl⟩ (fun hHeld => ?_)
    clear hK K
    try (refine norm_ (a' := ?_) ?_ ?_; rotate_left; focus (simp only [Act.put, List.setIfInBounds_toArray, List.set_cons_zero, List.set_cons_succ, i64_w, i32_w]; rfl))
    refine one_ (i := 6) (N := some 41) #[true, true, true, true, true, true, true, false, false] rfl rfl (by kernel_rfl) (by decide) (fun K hK => ?_)
    go_simp
    clear hHeld
    have HB7 := Lib.hid (blk_new_o HW.out (.cells #[.slice Av k cv, .slice (some ⟨b6, 0, none⟩) 1 1, .slice A9 lf.length c9] 22))
    have BN := Lib.hid (below_alloc_o HW.out (.cells #[.slice Av k cv, .slice (some ⟨b6, 0, none⟩) 1 1, .slice A9 lf.length c9] 22))
    obtain ⟨b7, hb7⟩ := osize HW.out
    rw [← hb7] at HB7 ⊢
    have t1 := Lib.hid (below_alloc HW.out (.cells #[.slice Av k cv, .slice (some ⟨b6, 0, none⟩) 1 1, .slice A9 lf.length c9] 22))
    have t2 : Hid (Boxed2 _ b6 code (.slice A2 data.length c2)) := (BN.out.block b6 (blk_lt HB6.out)).trans HB6.out
    clear HW hb7 HB6 BN
    have HW := t1
    have HB6 := t2
    clear t1 t2
    obtain ⟨W7, hW7⟩ := owx HW.out
    rw [← hW7] at HW HB6 HB7 ⊢
    clear hW7
    refine hK.out _ _ ⟨(blk_cell ((HW.out.block bx (blk_lt HBXW.out)).trans HBXW.out) 0).trans rfl, (blk_cell ((HW.out.block bx (blk_lt HBXW.out)).trans HBXW.out) 1).trans rfl⟩ (fun hHeld => ?_)
    clear hK K
    try (refine norm_ (a' := ?_) ?_ ?_; rotate_left; focus (simp only [Act.put, List.setIfInBounds_toArray, List.set_cons_zero, List.set_cons_succ, i64_w, i32_w]; rfl))
    refine one_ (i := 7) (N := some 42) #[true, true, true, true, true, true, true, true, false] rfl rfl (by kernel_rfl) (by decide) (fun K hK => ?_)
    refine goes_ Try.func28 (by kernel_rfl) rfl #[.slice (some ⟨b7, 0, none⟩) 3 3] (by rfl) rfl rfl (by (try simp only [List.map_toArray, List.map_cons, List.map_nil]); rfl) ?_
    have hN7 := HTK.out _ (Kd.N_below HNW.out HW.out)
    have hM7 := Kd.N_below HMW.out HW.out
    have HB7' := HB7.out
    rw [← HELK.out] at HB7'
    have hF3 := F_three (l0 := lk) (l1 := [⟨code, data⟩]) (l2 := lf) HB7' (by rw [HELK.out]; have := HCV.out; omega) (Nat.le_refl _) (Kd.N_reads' hM7).2.1 (N_Fb hN7)
      (Kd.F_mono (ok' := fun k => k < W7.heap.size) (Kd.F_bound (F_one HB6.out (Kd.R_reads' HVW.out).2.1 (Kd.R_F (Kd.R_below HVW.out HW.out)))) (fun _ hk => hk.2)) (N_Fb hM7)
    refine (concat_calls (some ⟨b7, 0, none⟩) 3 [lk, [⟨code, data⟩], lf] _ hF3 (Nat.le_refl _) (by simp; omega) (by have h1 := HELK.out; have h2 := HELF.out; have h3 := HELR.out; simp; omega)).mono ?_
    rintro e w10 ⟨v10, rfl, hn10, hb10⟩
    have HO10 := Lib.hid (Kd.N_lower hn10 (Nat.le_trans HB9.out.size (Nat.le_trans HBW.out.size HW.out.size)))
    have t1 := Lib.hid (HW.out.trans (hb10.mono HW.out.size))
    clear hn10 hb10 hF3 hN7 hM7 HB7' HB6 HB7 hHeld HW
    have HW := t1
    clear t1
    refine ⟨_, rfl, ?_⟩
    refine hK.out _ _ ⟨(blk_cell ((HW.out.block bx (blk_lt HBXW.out)).trans HBXW.out) 0).trans rfl, (blk_cell ((HW.out.block bx (blk_lt HBXW.out)).trans HBXW.out) 1).trans rfl⟩ (fun hHeld => ?_)
    clear hK K
    try (refine norm_ (a' := ?_) ?_ ?_; rotate_left; focus (simp only [Act.put, List.setIfInBounds_toArray, List.set_cons_zero, List.set_cons_succ, i64_w, i32_w]; rfl))
    refine pure_ (i := 8) (N := some 6) (v := ?_) (a' := ?_) #[true, true, true, true, true, true, true, true, true] rfl rfl (by kernel_rfl) (fun _ _ _ h => h) (Or.inl ⟨by rfl, ?_⟩) ?_ ?_
    rotate_left
    · intro w'
      go_simp
      with_reducible rfl
    rotate_left
    · simp only [Act.put, List.setIfInBounds_toArray, List.set_cons_zero, List.set_cons_succ, i64_w, i32_w]
      rfl
    refine done_ (by kernel_rfl) ?_
    go_wp2_with fail
    go_ret
    refine ⟨v10, rfl, ?_, HB9.out.trans ((HBW.out.trans (HW.out.mono HBW.out.size)).mono HB9.out.size)⟩
    rw [HP.out]
    have := HO10.out
    simpa using this
end Go.Proofs.Ytcefkkcmpdlnjaa
