/-
  option.Put: an option put in the place of those of its code, or behind all. Conditions: no more than half a million, fewer than 2^47 bytes of data each.
  What the bytes of options are read from is no block that holds no bytes. No program in sight but the type of options.
  relay.Add: a relay's tags put on a client's packet. Conditions: few options, few tags.
  Printed: HO51.
  Printed: HO40.
  Printed: HO26.
-/
import Derived.Test.YtnkajghemggaaaaMRP2
import Derived.Test.YtnkajghemggaaaaWFootNe
import Derived.Test.YtnkajghemggaaaaMRP1

section
namespace Go.Proofs.Ytnkajghemggaaaa
open Go.RowKit Go.Proofs.Ytnkajghemggaaaa.Pr Go.Proofs.YtnkajghemggaaaaW.PrintWords Go.Proofs.YtnkajghemggaaaaW.PrintLast Go.Proofs.YtnkajghemggaaaaW.PrintMore
attribute [local go_sem] max2_int min2_int max_two min_two max_three min_three max_four min_four
set_option linter.unusedVariables false
set_option linter.unusedSimpArgs false

/-- One option in a box, as a row. -/
theorem F_one {w : World} {b : Nat} {code : Int} {data : List Int} {A : Option Addr} {c : Nat} {t : TypeId} {ok : Nat → Prop} (hb : w.heap[b]? = some (.cells #[.int .i64 code, .slice A data.length c] t (0, 0))) (hc : data.length ≤ c) (hF : Kd.F (Kd.int .u8) w ok A data.length data) :
    Kd.F k48 w (fun k => k = b ∨ ok k) (some ⟨b, 0, none⟩) 1 [(⟨code, data⟩ : OptF)] := by
  intro W hW
  have hb2 : W.heap[b]? = some (.cells #[.int .i64 code, .slice A data.length c] t (0, 0)) := (hW b (.inl rfl) (blk_lt hb)).trans hb
  refine ⟨rfl, by decide, fun _ => ⟨_, rfl, fun j p hj => ?_⟩⟩
  have hj1 : j < 1 := (List.getElem?_eq_some_iff.1 hj).1
  obtain rfl : j = 0 := by omega
  obtain rfl : (⟨code, data⟩ : OptF) = p := Option.some.inj hj
  refine ⟨[.int .i64 code, .slice A data.length c], rfl, k48_mk W ⟨code, data⟩ hc (hF W (fun k hk hlt => hW k (.inr hk) hlt)), fun i u hu => ?_⟩
  have hi2 : i < 2 := (List.getElem?_eq_some_iff.1 hu).1
  obtain rfl | rfl : i = 0 ∨ i = 1 := by omega
  · obtain rfl := Option.some.inj hu
    exact (blk_cell hb2 0).trans rfl
  · obtain rfl := Option.some.inj hu
    exact (blk_cell hb2 1).trans rfl
/-- Three rows of options, in a box, as a row. -/
theorem F_three {ok : Nat → Prop} {w : World} {h : Nat} {l0 l1 l2 : List OptF} {A0 A1 A2 : Option Addr} {c0 c1 c2 : Nat} {t : TypeId} (hb : w.heap[h]? = some (.cells #[.slice A0 l0.length c0, .slice A1 l1.length c1, .slice A2 l2.length c2] t (0, 0))) (n0 : l0.length ≤ c0) (n1 : l1.length ≤ c1) (n2 : l2.length ≤ c2)
    (hok : ok h) (h0 : Kd.F k48 w ok A0 l0.length l0) (h1 : Kd.F k48 w ok A1 l1.length l1) (h2 : Kd.F k48 w ok A2 l2.length l2) :
    Kd.F (Kd.slice 48 k48) w ok (some ⟨h, 0, none⟩) 3 [l0, l1, l2] := by
  intro W hW
  have hb2 := (hW h hok (blk_lt hb)).trans hb
  refine ⟨rfl, by decide, fun _ => ⟨_, rfl, fun j p hj => ?_⟩⟩
  have hj1 : j < 3 := (List.getElem?_eq_some_iff.1 hj).1
  obtain rfl | rfl | rfl : j = 0 ∨ j = 1 ∨ j = 2 := by omega
  · obtain rfl : l0 = p := Option.some.inj hj
    refine ⟨[.slice A0 l0.length c0], rfl, ⟨A0, c0, rfl, n0, h0 W hW⟩, fun i u hu => ?_⟩
    have hi : i < 1 := (List.getElem?_eq_some_iff.1 hu).1
    obtain rfl : i = 0 := by omega
    obtain rfl := Option.some.inj hu
    exact (blk_cell hb2 0).trans rfl
  · obtain rfl : l1 = p := Option.some.inj hj
    refine ⟨[.slice A1 l1.length c1], rfl, ⟨A1, c1, rfl, n1, h1 W hW⟩, fun i u hu => ?_⟩
    have hi : i < 1 := (List.getElem?_eq_some_iff.1 hu).1
    obtain rfl : i = 0 := by omega
    obtain rfl := Option.some.inj hu
    exact (blk_cell hb2 1).trans rfl
  · obtain rfl : l2 = p := Option.some.inj hj
    refine ⟨[.slice A2 l2.length c2], rfl, ⟨A2, c2, rfl, n2, h2 W hW⟩, fun i u hu => ?_⟩
    have hi : i < 1 := (List.getElem?_eq_some_iff.1 hu).1
    obtain rfl : i = 0 := by omega
    obtain rfl := Option.some.inj hu
    exact (blk_cell hb2 2).trans rfl
theorem N_Fb {ok : Nat → Prop} {w : World} {base : Nat} {A : Option Addr} {n c : Nat} {l : List OptF} (h : ON w base ok (.slice A n c) l) : Kd.F k48 w ok A l.length l := by
  have := Kd.N_F h
  rwa [(Kd.N_reads' h).1] at this

theorem owx {w W : World} (_h : Below w.heap.size w W) : ∃ Wn, Wn = W := ⟨_, rfl⟩
theorem osize {w W : World} (_h : Below w.heap.size w W) : ∃ b, b = W.heap.size := ⟨_, rfl⟩
theorem blk_new_o {w W : World} (_h : Below w.heap.size w W) (o : Obj) : (W.alloc o).heap[W.heap.size]? = some o := blk_new W o
theorem below_alloc_o {w W : World} (_h : Below w.heap.size w W) (o : Obj) : Below W.heap.size W (W.alloc o) := below_alloc (Below.refl _ _) o
set_option maxHeartbeats 8000000 in
set_option maxRecDepth 100000 in
theorem put_ok (ok : Nat → Prop) (A : Option Addr) (c : Nat) (l : List OptF) (code : Int) (D : Option Addr) (cd : Nat) (data : List Int) (w : World) (hF : Kd.F k48 w ok A l.length l) (hfr : ∀ k, w.heap.size ≤ k → ok k) (hc : l.length ≤ c) (hl : l.length ≤ 500000) (hd : ∀ x ∈ l, x.f1.length < 140737488355328)
    (hD : (Kd.int .u8).C w D data.length data) (hcd : data.length ≤ cd) (hdl : data.length < 140737488355328) :
    Calls Try.prog 30 #[.slice A l.length c, .int .i64 code, .slice D data.length cd] w fun e w' => ∃ v, e = .returned v ∧ ON w' w.heap.size ok v (opPut l code data) ∧ Below w.heap.size w w' := by
  have HF := Lib.hid hF
  have HFR := Lib.hid hfr
  have HD := Lib.hid hD
  have HDD := Lib.hid hd
  clear hF hD hd hfr
  go_enter Try.func30, Try.ntmps30
  go_wp2_with fail
  refine (owned_ok ok A c l _ HF.out HFR.out hc (by omega) HDD.out).mono ?_
  rintro e w1 ⟨v1, rfl, hn1, hb1⟩
  obtain ⟨Av, cv, rfl⟩ := Kd.N_slice hn1
  have HN1 := Lib.hid hn1
  have HB1 := Lib.hid hb1
  clear hn1 hb1
  go_wp2_with fail
  refine (clone_calls D cd data _ (Kd.C_below HD.out HB1.out) hcd hdl).mono ?_
  rintro e w2 ⟨v2, rfl, hv2, hb2⟩
  obtain ⟨A2, c2, rfl⟩ := Kd.R_slice hv2
  have HN2 := Lib.hid (Kd.N_below HN1.out hb2)
  have HB2 := Lib.hid (HB1.out.trans (hb2.mono HB1.out.size))
  have HV2 := Lib.hid (Kd.R_tight rfl hv2)
  have HV2L : Hid (∀ k, (Value.slice A2 data.length c2).ownBlock = some k → w1.heap.size ≤ k ∧ k < w2.heap.size) := fun k hk => ⟨Kd.R_base hv2 k hk, Kd.R_lt hv2 k hk⟩
  have HB1s := Lib.hid HB1.out.size
  clear hv2 hb2 HN1 HB1
  obtain ⟨bx, hbx⟩ : ∃ b, w2.heap.size = b := ⟨_, rfl⟩
  obtain ⟨w3, hw3⟩ : ∃ W, w2.alloc (.cells #[.int .i64 code, .slice A2 data.length c2] 48) = W := ⟨_, rfl⟩
  have HBX3 : Hid (Boxed2 w3 bx code (.slice A2 data.length c2)) := by show _ = _; rw [← hw3, ← hbx]; exact blk_new _ _
  have hb3 : Below w2.heap.size w2 w3 := by rw [← hw3]; exact below_alloc (Below.refl _ _) _
  have HN3 := Lib.hid (Kd.N_below HN2.out hb3)
  have HB3 := Lib.hid (HB2.out.trans (hb3.mono HB2.out.size))
  have HV3 := Lib.hid (Kd.R_below HV2.out hb3)
  have HV3L : Hid (∀ k, (Value.slice A2 data.length c2).ownBlock = some k → k < bx) := fun k hk => by have := (HV2L.out k hk).2; omega
  have HV3G : Hid (∀ k, (Value.slice A2 data.length c2).ownBlock = some k → ok k) := fun k hk => HFR.out k (Nat.le_trans HB1s.out (HV2L.out k hk).1)
  have HBXL : Hid (w.heap.size ≤ bx) := by show _ ≤ _; rw [← hbx]; exact HB2.out.size
  clear HV2 HV2L HN2 HB2 hb3
  go_upto_region 3 with fail
  clear hw3 hbx
  go_wp2_with fail
  refine (of_calls code _).mono ?_
  rintro e w4 ⟨rfl, rfl⟩
  obtain ⟨bc, hbc⟩ : ∃ b, w3.heap.size = b := ⟨_, rfl⟩
  obtain ⟨w4, hw4⟩ : ∃ W, w3.alloc (.cells #[.int .i64 code] 3) = W := ⟨_, rfl⟩
  have HC4 : Hid (Boxed w4 bc 3 (.int .i64 code)) := by show Boxed _ _ _ _; rw [← hw4, ← hbc]; exact Boxed.new _ _ _
  have hb4 : Below w3.heap.size w3 w4 := by rw [← hw4]; exact below_alloc (Below.refl _ _) _
  have HN4 := Lib.hid (Kd.N_below HN3.out hb4)
  have HB4 := Lib.hid (HB3.out.trans (hb4.mono HB3.out.size))
  have HV4 := Lib.hid (Kd.R_below HV3.out hb4)
  have HBX4 : Hid (Boxed2 w4 bx code (.slice A2 data.length c2)) := (hb4.block bx (blk_lt HBX3.out)).trans HBX3.out
  rw [hw4, hbc]
  clear hw4 hbc hb4 HN3 HB3 HV3 HBX3
  have HIX := Lib.hid (ix_calls (fun x => x.f0 == code) _ #[.pointer (some ⟨bc, 0, none⟩)] enters_of Av cv l w4 (Kd.N_reads' HN4.out).2.2 (Kd.N_reads' HN4.out).2.1 (fun k hk A1 c1 W hW => of1_calls bc code _ A1 _ c1 W ((hW.block _ HC4.out.lt).trans HC4.out)))
  obtain ⟨ix, hix⟩ : ∃ ix, ixOf (fun x : OptF => x.f0 == code) l = ix := ⟨_, rfl⟩
  rw [hix] at HIX
  go_wp2_with fail
  refine HIX.out.mono ?_
  rintro e w5 ⟨rfl, hb5⟩
  have HN5 := Lib.hid (Kd.N_below HN4.out hb5)
  have HB5 := Lib.hid (HB4.out.trans (hb5.mono HB4.out.size))
  have HV5 := Lib.hid (Kd.R_below HV4.out hb5)
  have HBX5 : Hid (Boxed2 w5 bx code (.slice A2 data.length c2)) := (hb5.block bx (blk_lt HBX4.out)).trans HBX4.out
  clear hb5 HN4 HB4 HV4 HBX4 HIX HC4
  by_cases hneg : ix < 0
  · have HP : Hid (opPut l code data = l ++ [⟨code, data⟩]) := by
      show _ = _
      unfold opPut
      rw [if_neg (by rw [hix]; omega)]
    have e0 := (blk_cell HBX5.out 0).trans rfl
    have e1 := (blk_cell HBX5.out 1).trans rfl
    clear hix
    go_wp2_with fail
    refine start_ (n := 6) (S := fun w' => w'.cell? ⟨bx, 0, none⟩ = some (.int .i64 code) ∧ w'.cell? ⟨bx, 1, none⟩ = some (.slice A2 data.length c2)) (ds := []) #[false, false, false, false, false, false] (by kernel_rfl) rfl rfl ⟨e0, e1⟩ (fun hHeld => ?_)
    obtain ⟨W2, hW2⟩ : ∃ W2, w5.drew = W2 := ⟨_, rfl⟩
    have hbw : Below w5.heap.size w5 W2 := by rw [← hW2]; exact below_drew (Below.refl _ _)
    rw [hW2] at hHeld ⊢
    clear hW2
    have HBW := Lib.hid hbw
    have HW := Lib.hid (Below.refl W2.heap.size W2)
    have HNW := Lib.hid (Kd.N_below HN5.out hbw)
    have HBXW : Hid (Boxed2 W2 bx code (.slice A2 data.length c2)) := (hbw.block bx (blk_lt HBX5.out)).trans HBX5.out
    have HVW := Lib.hid (Kd.R_below HV5.out hbw)
    clear hbw
    refine pure_ (i := 0) (N := some 22) (v := ?_) (a' := ?_) #[true, false, false, false, false, false] rfl rfl (by kernel_rfl) (fun _ _ _ h => h) (Or.inl ⟨by rfl, ?_⟩) ?_ ?_
    rotate_left
    · intro w'
      go_simp
      with_reducible rfl
    rotate_left
    · simp only [Act.put, List.setIfInBounds_toArray, List.set_cons_zero, List.set_cons_succ, i64_w, i32_w]
      rfl
    refine take_ (i := 2) (N := some 24) (v := .agg #[.int .i64 code, .slice A2 data.length c2]) (a' := ?_) #[true, false, true, false, false, false] rfl rfl (by kernel_rfl) (fun _ _ _ h => h) (Or.inl ⟨by rfl, ?_⟩) hHeld ?_ ?_
    · rintro w' ⟨s0, s1⟩
      go_simp
      try (with_reducible rfl)
    rotate_left
    · simp only [Act.put, List.setIfInBounds_toArray, List.set_cons_zero, List.set_cons_succ, i64_w, i32_w]
      rfl
    refine join_ (σ := Value × Nat) 2 #[true, true, true, true, false, false] (fun s => [(23, s.1), (25, .slice (some ⟨s.2, 0, none⟩) 1 1)]) (fun s w' => (w'.cell? ⟨bx, 0, none⟩ = some (.int .i64 code) ∧ w'.cell? ⟨bx, 1, none⟩ = some (.slice A2 data.length c2)) ∧ Below W2.heap.size W2 w' ∧ ON w' W2.heap.size ok s.1 l ∧ Boxed2 w' s.2 code (.slice A2 data.length c2) ∧ some s.2 ≠ s.1.ownBlock ∧ w.heap.size ≤ s.2) ?_ ?_
    rotate_left
    · intro hCont
      refine two_ (i := 1) (j := 3) (Ni := some 23) (Nj := some 25) #[true, true, true, false, false, false] #[true, false, true, true, false, false] rfl rfl rfl rfl (by kernel_rfl) (by decide) (by decide) (fun K hK => ?_) (fun K hK => ?_)
      · skip
        refine goes_ Try.func36 (by kernel_rfl) rfl #[.slice Av l.length cv] (by rfl) rfl rfl (by (try simp only [List.map_toArray, List.map_cons, List.map_nil]); rfl) ?_
        have hNow := Kd.N_below HNW.out HW.out
        obtain ⟨Wn, hWn⟩ := owx HW.out
        rw [← hWn] at hNow ⊢
        refine (oclone_ok ok Av cv l Wn (N_Fb hNow) (fun k hk => HFR.out k (Nat.le_trans (Nat.le_trans HB5.out.size (Nat.le_trans HBW.out.size HW.out.size)) (hWn ▸ hk))) (Kd.N_reads' hNow).2.1 (by omega)).mono ?_
        rintro e w7 ⟨v23, rfl, hn7, hb7⟩
        rw [hWn] at hb7 hn7
        have t1 := Lib.hid (HW.out.trans (hb7.mono HW.out.size))
        have HO5 := Lib.hid (Kd.N_lower hn7 HW.out.size)
        try (have HNE : Hid (some b6 ≠ v23.ownBlock) := fun e => by have := Kd.N_base hn7 b6 e.symm; have := blk_lt HB6.out; omega)
        try (have t3 : Hid (Boxed2 w7 b6 code (.slice A2 data.length c2)) := (hb7.block b6 (blk_lt HB6.out)).trans HB6.out; clear HB6; have HB6 := t3; clear t3)
        clear HW hn7 hb7 hNow hWn hHeld
        have HW := t1
        clear t1
        refine ⟨_, rfl, ?_⟩
        refine hK.out _ _ ⟨(blk_cell ((HW.out.block bx (blk_lt HBXW.out)).trans HBXW.out) 0).trans rfl, (blk_cell ((HW.out.block bx (blk_lt HBXW.out)).trans HBXW.out) 1).trans rfl⟩ (fun hHeld => ?_)
        clear hK K
        refine norm_ (a' := ?_) ?_ ?_
        rotate_left
        · first | (show Act.put _ (some 23) _ = _; simp only [Act.put, List.setIfInBounds_toArray, List.set_cons_zero, List.set_cons_succ, i64_w, i32_w]; rfl) | rfl
        refine one_ (i := 3) (N := some 25) #[true, true, true, true, false, false] rfl rfl (by kernel_rfl) (by decide) (fun K hK => ?_)
        go_simp
        clear hHeld
        have HB6 := Lib.hid (blk_new_o HW.out (.cells #[.int .i64 code, .slice A2 data.length c2] 48))
        have BN := Lib.hid (below_alloc_o HW.out (.cells #[.int .i64 code, .slice A2 data.length c2] 48))
        obtain ⟨b6, hb6⟩ := osize HW.out
        have HB6L : Hid (w.heap.size ≤ b6) := by show _ ≤ _; rw [hb6]; exact Nat.le_trans HB5.out.size (Nat.le_trans HBW.out.size HW.out.size)
        rw [← hb6] at HB6 ⊢
        have t1 := Lib.hid (below_alloc HW.out (.cells #[.int .i64 code, .slice A2 data.length c2] 48))
        try (have HNE : Hid (some b6 ≠ v23.ownBlock) := fun e => by have := Kd.N_lt HO5.out b6 e.symm; omega)
        try (have t3 := Lib.hid (Kd.N_below HO5.out BN.out); clear HO5; have HO5 := t3; clear t3)
        clear HW
        have HW := t1
        clear BN t1 hb6
        refine hK.out _ _ ⟨(blk_cell ((HW.out.block bx (blk_lt HBXW.out)).trans HBXW.out) 0).trans rfl, (blk_cell ((HW.out.block bx (blk_lt HBXW.out)).trans HBXW.out) 1).trans rfl⟩ (fun hHeld => ?_)
        clear hK K
        refine norm_ (a' := ?_) ?_ ?_
        rotate_left
        · first | (show Act.put _ (some 25) _ = _; simp only [Act.put, List.setIfInBounds_toArray, List.set_cons_zero, List.set_cons_succ, i64_w, i32_w]; rfl) | rfl
        exact norm_ (by simp only [putAll, Act.put, List.setIfInBounds_toArray, List.set_cons_zero, List.set_cons_succ]) (hCont (v23, b6) _ ⟨hHeld, HW.out, HO5.out, HB6.out, HNE.out, HB6L.out⟩)
      · skip
        go_simp
        clear hHeld
        have HB6 := Lib.hid (blk_new_o HW.out (.cells #[.int .i64 code, .slice A2 data.length c2] 48))
        have BN := Lib.hid (below_alloc_o HW.out (.cells #[.int .i64 code, .slice A2 data.length c2] 48))
        obtain ⟨b6, hb6⟩ := osize HW.out
        have HB6L : Hid (w.heap.size ≤ b6) := by show _ ≤ _; rw [hb6]; exact Nat.le_trans HB5.out.size (Nat.le_trans HBW.out.size HW.out.size)
        rw [← hb6] at HB6 ⊢
        have t1 := Lib.hid (below_alloc HW.out (.cells #[.int .i64 code, .slice A2 data.length c2] 48))
        try (have HNE : Hid (some b6 ≠ v23.ownBlock) := fun e => by have := Kd.N_lt HO5.out b6 e.symm; omega)
        try (have t3 := Lib.hid (Kd.N_below HO5.out BN.out); clear HO5; have HO5 := t3; clear t3)
        clear HW
        have HW := t1
        clear BN t1 hb6
        refine hK.out _ _ ⟨(blk_cell ((HW.out.block bx (blk_lt HBXW.out)).trans HBXW.out) 0).trans rfl, (blk_cell ((HW.out.block bx (blk_lt HBXW.out)).trans HBXW.out) 1).trans rfl⟩ (fun hHeld => ?_)
        clear hK K
        refine norm_ (a' := ?_) ?_ ?_
        rotate_left
        · first | (show Act.put _ (some 25) _ = _; simp only [Act.put, List.setIfInBounds_toArray, List.set_cons_zero, List.set_cons_succ, i64_w, i32_w]; rfl) | rfl
        refine one_ (i := 1) (N := some 23) #[true, true, true, true, false, false] rfl rfl (by kernel_rfl) (by decide) (fun K hK => ?_)
        refine goes_ Try.func36 (by kernel_rfl) rfl #[.slice Av l.length cv] (by rfl) rfl rfl (by (try simp only [List.map_toArray, List.map_cons, List.map_nil]); rfl) ?_
        have hNow := Kd.N_below HNW.out HW.out
        obtain ⟨Wn, hWn⟩ := owx HW.out
        rw [← hWn] at hNow ⊢
        refine (oclone_ok ok Av cv l Wn (N_Fb hNow) (fun k hk => HFR.out k (Nat.le_trans (Nat.le_trans HB5.out.size (Nat.le_trans HBW.out.size HW.out.size)) (hWn ▸ hk))) (Kd.N_reads' hNow).2.1 (by omega)).mono ?_
        rintro e w7 ⟨v23, rfl, hn7, hb7⟩
        rw [hWn] at hb7 hn7
        have t1 := Lib.hid (HW.out.trans (hb7.mono HW.out.size))
        have HO5 := Lib.hid (Kd.N_lower hn7 HW.out.size)
        try (have HNE : Hid (some b6 ≠ v23.ownBlock) := fun e => by have := Kd.N_base hn7 b6 e.symm; have := blk_lt HB6.out; omega)
        try (have t3 : Hid (Boxed2 w7 b6 code (.slice A2 data.length c2)) := (hb7.block b6 (blk_lt HB6.out)).trans HB6.out; clear HB6; have HB6 := t3; clear t3)
        clear HW hn7 hb7 hNow hWn hHeld
        have HW := t1
        clear t1
        refine ⟨_, rfl, ?_⟩
        refine hK.out _ _ ⟨(blk_cell ((HW.out.block bx (blk_lt HBXW.out)).trans HBXW.out) 0).trans rfl, (blk_cell ((HW.out.block bx (blk_lt HBXW.out)).trans HBXW.out) 1).trans rfl⟩ (fun hHeld => ?_)
        clear hK K
        refine norm_ (a' := ?_) ?_ ?_
        rotate_left
        · first | (show Act.put _ (some 23) _ = _; simp only [Act.put, List.setIfInBounds_toArray, List.set_cons_zero, List.set_cons_succ, i64_w, i32_w]; rfl) | rfl
        exact norm_ (by simp only [putAll, Act.put, List.setIfInBounds_toArray, List.set_cons_zero, List.set_cons_succ]) (hCont (v23, b6) _ ⟨hHeld, HW.out, HO5.out, HB6.out, HNE.out, HB6L.out⟩)
    rintro ⟨u3, b6⟩ w' ⟨hHeld, hw_, ho5, hb6, hn5, hg6⟩
    dsimp only at ho5 hb6 hn5 hg6
    have HB6L := Lib.hid hg6
    have HW := Lib.hid hw_
    have HO5 := Lib.hid ho5
    have HB6 := Lib.hid hb6
    have HN6 := Lib.hid hn5
    clear hw_ ho5 hb6 hn5 hg6
    refine norm_ (a' := ?_) ?_ ?_
    rotate_left
    focus (simp only [putAll, Act.put, List.setIfInBounds_toArray, List.set_cons_zero, List.set_cons_succ]; rfl)
    refine one_ (i := 4) (N := some 26) #[true, true, true, true, true, false] rfl rfl (by kernel_rfl) (by decide) (fun K hK => ?_)
    refine Kd.N_append_rows_step k48 (w0 := W2) W2.heap.size (by rfl) (.tmp 23) (.tmp 25) 26 48 (.agg #[.int .i64 0, .slice none 0 0]) 32 rfl Try.underlying26 oinfo rfl (by decide) (by decide) u3 l [⟨code, data⟩] (some ⟨b6, 0, none⟩) 1 1 ok (fun k => k = b6 ∨ some k = (Value.slice A2 data.length c2).ownBlock) rfl rfl HO5.out (F_one HB6.out (Kd.R_reads' HVW.out).2.1 (Kd.R_F (Kd.R_below HVW.out HW.out))) (fun k hk => ⟨?_, ?_⟩) (fun k hk => HFR.out k (Nat.le_trans (Nat.le_trans HB5.out.size (Nat.le_trans HBW.out.size HW.out.size)) hk)) HW.out HW.out.size (by omega) ?_
    · rcases hk with rfl | hk
      · exact HFR.out _ HB6L.out
      · exact HV3G.out k hk.symm
    · rcases hk with rfl | hk
      · exact HN6.out
      · intro e
        have h1 := Kd.N_base HO5.out k e.symm
        have h2 := HV3L.out k hk.symm
        have h3 := blk_lt HBXW.out
        omega
    intro v9 w9 ho9 hb9 _ _
    have HO9 := Lib.hid ho9
    have HB9 := Lib.hid (HB5.out.trans ((HBW.out.trans (hb9.mono HBW.out.size)).mono HB5.out.size))
    have HW9 := Lib.hid hb9
    clear ho9 hb9 hHeld
    refine hK.out _ _ ⟨(blk_cell ((HW9.out.block bx (blk_lt HBXW.out)).trans HBXW.out) 0).trans rfl, (blk_cell ((HW9.out.block bx (blk_lt HBXW.out)).trans HBXW.out) 1).trans rfl⟩ (fun hHeld => ?_)
    clear hK K
    refine norm_ (a' := ?_) ?_ ?_
    rotate_left
    · show Act.put _ (some 26) _ = _
      simp only [Act.put, List.setIfInBounds_toArray, List.set_cons_zero, List.set_cons_succ, i64_w, i32_w]
      rfl
    refine pure_ (i := 5) (N := some 6) (v := ?_) (a' := ?_) #[true, true, true, true, true, true] rfl rfl (by kernel_rfl) (fun _ _ _ h => h) (Or.inl ⟨by rfl, ?_⟩) ?_ ?_
    rotate_left
    · intro w'
      go_simp
      with_reducible rfl
    rotate_left
    · simp only [Act.put, List.setIfInBounds_toArray, List.set_cons_zero, List.set_cons_succ, i64_w, i32_w]
      rfl
    refine done_ (by kernel_rfl) ?_
    go_wp2_with fail
    go_ret
    exact ⟨v9, rfl, by rw [HP.out]; exact Kd.N_lower HO9.out (Nat.le_trans HB5.out.size HBW.out.size), HB9.out⟩
  · obtain ⟨k, hk, rfl⟩ : ∃ (k : Nat), k < l.length ∧ ix = (k : Int) := by
      rcases ix_split (fun x : OptF => x.f0 == code) l with ⟨h, _⟩ | ⟨k, hk, h, _⟩
      · rw [h] at hix; omega
      · exact ⟨k, hk, hix.symm.trans h⟩
    obtain ⟨lk, hlk⟩ : ∃ lk, lk = l.take k := ⟨_, rfl⟩
    obtain ⟨lr, hlr⟩ : ∃ lr, lr = l.drop (k + 1) := ⟨_, rfl⟩
    obtain ⟨lf, hlf⟩ : ∃ lf, lf = lr.filter (fun x => !(x.f0 == code)) := ⟨_, rfl⟩
    have HP : Hid (opPut l code data = lk ++ [⟨code, data⟩] ++ lf) := by
      show _ = _
      unfold opPut
      rw [if_pos (by rw [hix]; omega), hix, Int.toNat_natCast, hlf, hlr, hlk]
    have elk : lk.length = k := by rw [hlk, List.length_take]; omega
    have elr : lr.length = l.length - (k + 1) := by rw [hlr, List.length_drop]
    have elf : lf.length ≤ lr.length := by rw [hlf]; exact List.length_filter_le _ _
    have HELK := Lib.hid elk
    have HELR := Lib.hid elr
    have HELF := Lib.hid elf
    have HLF := Lib.hid hlf
    obtain ⟨i0, hinf, hzz⟩ := Option.map_eq_some_iff.1 oinfo
    simp only [Prod.mk.injEq] at hzz
    obtain ⟨_, hcv, _⟩ := Kd.N_reads' HN5.out
    have HCV := Lib.hid hcv
    have r1 := cut_from (P := Try.prog) 26 48 .i64 Try.underlying26 hinf 2 hzz.2.1 Av l.length cv ((k : Int) + 1) (by omega) (by omega)
    rw [show ((k : Int) + 1).toNat = k + 1 from by omega, ← elr] at r1
    obtain ⟨A6, hA6⟩ : ∃ A6, A6 = (if cv = k + 1 then Av else Av.map (·.add ((k + 1) * 2))) := ⟨_, rfl⟩
    obtain ⟨c6, hc6⟩ : ∃ c6, c6 = cv - (k + 1) := ⟨_, rfl⟩
    rw [← hA6, ← hc6] at r1
    have HF6 : Hid (Kd.F k48 w5 ok A6 lr.length lr) := by
      show Kd.F _ _ _ _ _ _
      rw [hA6, hlr]
      exact Kd.F_imp (N_Fb HN5.out) (fun W' h => Kd.C_drop h (by omega) hcv)
    have HC6 : Hid (lr.length ≤ c6) := by show _ ≤ _; omega
    have r2 := cut_to (P := Try.prog) 26 48 .i64 Try.underlying26 hinf Av l.length cv (k : Int) (by omega) (by omega) hcv
    rw [Int.toNat_natCast, ← elk] at r2
    have HTK : Hid (∀ W, ON W w.heap.size ok (.slice Av l.length cv) l → ON W w.heap.size ok (.slice Av lk.length cv) lk) := fun W h => by rw [elk, hlk]; exact Kd.N_take h (by omega)
    rw [elk] at r2
    have p1 : ((k : Int) < 0) = False := eq_false (by omega)
    have hkl : (k : Int) + 1 ≤ 500000 := by omega
    clear hix hlk hlr hlf elk elr elf hinf hzz hcv hA6 hc6 hneg
    go_wp2_with fail
    refine (oclone_ok ok A6 c6 lr _ HF6.out (fun k hk => HFR.out k (Nat.le_trans HB5.out.size hk)) HC6.out (by have := HELR.out; omega)).mono ?_
    rintro e w7 ⟨v7, rfl, hn7, hb7⟩
    have HN7 := Lib.hid hn7
    have HB7 := Lib.hid hb7
    clear hn7 hb7
    go_wp2_with fail
    refine (of_calls code _).mono ?_
    rintro e w8 ⟨rfl, rfl⟩
    obtain ⟨bc2, hbc⟩ : ∃ b, w7.heap.size = b := ⟨_, rfl⟩
    obtain ⟨w8, hw8⟩ : ∃ W, w7.alloc (.cells #[.int .i64 code] 3) = W := ⟨_, rfl⟩
    have HC8 : Hid (Boxed w8 bc2 3 (.int .i64 code)) := by show Boxed _ _ _ _; rw [← hw8, ← hbc]; exact Boxed.new _ _ _
    have hb8 : Below w7.heap.size w7 w8 := by rw [← hw8]; exact below_alloc (Below.refl _ _) _
    have HL7 : Hid (∀ j, v7.ownBlock = some j → w5.heap.size ≤ j ∧ j < bc2) := fun j hj => ⟨Kd.N_base HN7.out j hj, by have := Kd.N_lt HN7.out j hj; omega⟩
    have HN8 := Lib.hid (Kd.N_below HN7.out hb8)
    have HB8 := Lib.hid (HB7.out.trans (hb8.mono HB7.out.size))
    rw [hw8, hbc]
    clear hw8 hbc hb8 HN7 HB7
    have HDEL := Lib.hid (del_ok ok (fun x => x.f0 == code) _ #[.pointer (some ⟨bc2, 0, none⟩)] enters_of v7 lr w8 w5.heap.size HN8.out (by have := HELR.out; omega) (fun x A1 c1 W hW => of1_calls bc2 code _ A1 _ c1 W ((hW.block bc2 HC8.out.lt (fun e => by have := (HL7.out bc2 e).2; omega)).trans HC8.out)))
    rw [← HLF.out] at HDEL
    go_wp2_with fail
    refine HDEL.out.mono ?_
    rintro e w9 ⟨v9, rfl, hn9, hf9⟩
    obtain ⟨A9, c9, rfl⟩ := Kd.N_slice hn9
    have HB59 : Hid (Below w5.heap.size w5 w9) := HB8.out.trans (hf9.to_below HB8.out.size (fun j hj => (HL7.out j hj).1))
    have HN9 := Lib.hid (Kd.N_below HN5.out HB59.out)
    have HM9 := Lib.hid hn9
    have HB9 := Lib.hid (HB5.out.trans (HB59.out.mono HB5.out.size))
    have HV9 := Lib.hid (Kd.R_below HV5.out HB59.out)
    have HBX9 : Hid (Boxed2 w9 bx code (.slice A2 data.length c2)) := (HB59.out.block bx (blk_lt HBX5.out)).trans HBX5.out
    clear hn9 hf9 HDEL HN8 HB8 HC8 HL7 HF6 HC6 r1 HN5 HB5 HV5 HBX5
    have e0 := (blk_cell HBX9.out 0).trans rfl
    have e1 := (blk_cell HBX9.out 1).trans rfl
    go_wp2_with fail
    refine start_ (n := 9) (S := fun w' => w'.cell? ⟨bx, 0, none⟩ = some (.int .i64 code) ∧ w'.cell? ⟨bx, 1, none⟩ = some (.slice A2 data.length c2)) (ds := []) #[false, false, false, false, false, false, false, false, false] (by kernel_rfl) rfl rfl ⟨e0, e1⟩ (fun hHeld => ?_)
    obtain ⟨W2, hW2⟩ : ∃ W2, w9.drew = W2 := ⟨_, rfl⟩
    have hbw : Below w9.heap.size w9 W2 := by rw [← hW2]; exact below_drew (Below.refl _ _)
    rw [hW2] at hHeld ⊢
    clear hW2
    have HBW := Lib.hid hbw
    have HW := Lib.hid (Below.refl W2.heap.size W2)
    have HNW := Lib.hid (Kd.N_below HN9.out hbw)
    have HMW := Lib.hid (Kd.N_below HM9.out hbw)
    have HBXW : Hid (Boxed2 W2 bx code (.slice A2 data.length c2)) := (hbw.block bx (blk_lt HBX9.out)).trans HBX9.out
    have HVW := Lib.hid (Kd.R_below HV9.out hbw)
    clear hbw
    refine pure_ (i := 0) (N := some 35) (v := ?_) (a' := ?_) #[true, false, false, false, false, false, false, false, false] rfl rfl (by kernel_rfl) (fun _ _ _ h => h) (Or.inl ⟨by rfl, ?_⟩) ?_ ?_
    rotate_left
    · intro w'
      go_simp
      with_reducible rfl
    rotate_left
    · simp only [Act.put, List.setIfInBounds_toArray, List.set_cons_zero, List.set_cons_succ, i64_w, i32_w]
      rfl
    refine pure_ (i := 1) (N := some 36) (v := ?_) (a' := ?_) #[true, true, false, false, false, false, false, false, false] rfl rfl (by kernel_rfl) (fun _ _ _ h => h) (Or.inl ⟨by rfl, ?_⟩) ?_ ?_
    rotate_left
    · intro w'
      go_simp
      with_reducible rfl
    rotate_left
    · simp only [Act.put, List.setIfInBounds_toArray, List.set_cons_zero, List.set_cons_succ, i64_w, i32_w]
      rfl
    refine pure_ (i := 2) (N := some 37) (v := .slice Av k cv) (a' := ?_) #[true, true, true, false, false, false, false, false, false] rfl rfl (by kernel_rfl) (fun _ _ _ h => h) (Or.inl ⟨by rfl, ?_⟩) ?_ ?_
    · intro w'
      go_simp
      try (with_reducible rfl)
    rotate_left
    · simp only [Act.put, List.setIfInBounds_toArray, List.set_cons_zero, List.set_cons_succ, i64_w, i32_w]
      rfl
    refine pure_ (i := 5) (N := some 40) (v := ?_) (a' := ?_) #[true, true, true, false, false, true, false, false, false] rfl rfl (by kernel_rfl) (fun _ _ _ h => h) (Or.inl ⟨by rfl, ?_⟩) ?_ ?_
    rotate_left
    · intro w'
      go_simp
      with_reducible rfl
    rotate_left
    · simp only [Act.put, List.setIfInBounds_toArray, List.set_cons_zero, List.set_cons_succ, i64_w, i32_w]
      rfl
    refine take_ (i := 3) (N := some 38) (v := .agg #[.int .i64 code, .slice A2 data.length c2]) (a' := ?_) #[true, true, true, true, false, true, false, false, false] rfl rfl (by kernel_rfl) (fun _ _ _ h => h) (Or.inl ⟨by rfl, ?_⟩) hHeld ?_ ?_
    · rintro w' ⟨s0, s1⟩
      go_simp
      try (with_reducible rfl)
    rotate_left
    · simp only [Act.put, List.setIfInBounds_toArray, List.set_cons_zero, List.set_cons_succ, i64_w, i32_w]
      rfl
    refine one_ (i := 4) (N := some 39) #[true, true, true, true, true, true, false, false, false] rfl rfl (by kernel_rfl) (by decide) (fun K hK => ?_)
    go_simp
    clear hHeld
    have HB6 := Lib.hid (blk_new_o HW.out (.cells #[.int .i64 code, .slice A2 data.length c2] 48))
    obtain ⟨b6, hb6⟩ := osize HW.out
    have HB6L : Hid (w.heap.size ≤ b6) := by show _ ≤ _; rw [hb6]; exact Nat.le_trans HB9.out.size (Nat.le_trans HBW.out.size HW.out.size)
    rw [← hb6] at HB6 ⊢
    have t1 := Lib.hid (below_alloc HW.out (.cells #[.int .i64 code, .slice A2 data.length c2] 48))
    clear HW hb6
    have HW := t1
    clear t1
    obtain ⟨W6, hW6⟩ := owx HW.out
    rw [← hW6] at HW HB6 ⊢
    clear hW6
    refine hK.out _ _ ⟨(blk_cell ((HW.out.block bx (blk_lt HBXW.out)).trans HBXW.out) 0).trans rfl, (blk_cell ((HW.out.block bx (blk_lt HBXW.out)).trans HBXW.out) 1).trans rfl⟩ (fun hHeld => ?_)
    clear hK K
    try (refine norm_ (a' := ?_) ?_ ?_; rotate_left; focus (simp only [Act.put, List.setIfInBounds_toArray, List.set_cons_zero, List.set_cons_succ, i64_w, i32_w]; rfl))
    refine one_ (i := 6) (N := some 41) #[true, true, true, true, true, true, true, false, false] rfl rfl (by kernel_rfl) (by decide) (fun K hK => ?_)
    go_simp
    clear hHeld
    have HB7 := Lib.hid (blk_new_o HW.out (.cells #[.slice Av k cv, .slice (some ⟨b6, 0, none⟩) 1 1, .slice A9 lf.length c9] 26))
    have BN := Lib.hid (below_alloc_o HW.out (.cells #[.slice Av k cv, .slice (some ⟨b6, 0, none⟩) 1 1, .slice A9 lf.length c9] 26))
    obtain ⟨b7, hb7⟩ := osize HW.out
    have HB7L : Hid (w.heap.size ≤ b7) := by show _ ≤ _; rw [hb7]; exact Nat.le_trans HB9.out.size (Nat.le_trans HBW.out.size HW.out.size)
    rw [← hb7] at HB7 ⊢
    have t1 := Lib.hid (below_alloc HW.out (.cells #[.slice Av k cv, .slice (some ⟨b6, 0, none⟩) 1 1, .slice A9 lf.length c9] 26))
    have t2 : Hid (Boxed2 _ b6 code (.slice A2 data.length c2)) := (BN.out.block b6 (blk_lt HB6.out)).trans HB6.out
    clear HW hb7 HB6 BN
    have HW := t1
    have HB6 := t2
    clear t1 t2
    obtain ⟨W7, hW7⟩ := owx HW.out
    rw [← hW7] at HW HB6 HB7 ⊢
    clear hW7
    refine hK.out _ _ ⟨(blk_cell ((HW.out.block bx (blk_lt HBXW.out)).trans HBXW.out) 0).trans rfl, (blk_cell ((HW.out.block bx (blk_lt HBXW.out)).trans HBXW.out) 1).trans rfl⟩ (fun hHeld => ?_)
    clear hK K
    try (refine norm_ (a' := ?_) ?_ ?_; rotate_left; focus (simp only [Act.put, List.setIfInBounds_toArray, List.set_cons_zero, List.set_cons_succ, i64_w, i32_w]; rfl))
    refine one_ (i := 7) (N := some 42) #[true, true, true, true, true, true, true, true, false] rfl rfl (by kernel_rfl) (by decide) (fun K hK => ?_)
    refine goes_ Try.func46 (by kernel_rfl) rfl #[.slice (some ⟨b7, 0, none⟩) 3 3] (by rfl) rfl rfl (by (try simp only [List.map_toArray, List.map_cons, List.map_nil]); rfl) ?_
    have hN7 := HTK.out _ (Kd.N_below HNW.out HW.out)
    have hM7 := Kd.N_below HMW.out HW.out
    have HB7' := HB7.out
    rw [← HELK.out] at HB7'
    have hF3 := F_three (l0 := lk) (l1 := [⟨code, data⟩]) (l2 := lf) HB7' (by rw [HELK.out]; have := HCV.out; omega) (Nat.le_refl _) (Kd.N_reads' hM7).2.1 (HFR.out _ HB7L.out) (N_Fb hN7)
      (Kd.F_mono (ok' := ok) (F_one HB6.out (Kd.R_reads' HVW.out).2.1 (Kd.R_F (Kd.R_below HVW.out HW.out))) (fun k hk => by rcases hk with rfl | hk; exact HFR.out _ HB6L.out; exact HV3G.out k hk.symm)) (N_Fb hM7)
    refine (concat_ok ok (some ⟨b7, 0, none⟩) 3 [lk, [⟨code, data⟩], lf] _ hF3 (fun k hk => HFR.out k (Nat.le_trans (Nat.le_trans HB9.out.size (Nat.le_trans HBW.out.size HW.out.size)) hk)) (Nat.le_refl _) (by simp; omega) (by have h1 := HELK.out; have h2 := HELF.out; have h3 := HELR.out; simp; omega)).mono ?_
    rintro e w10 ⟨v10, rfl, hn10, hb10⟩
    have HO10 := Lib.hid (Kd.N_lower hn10 (Nat.le_trans HB9.out.size (Nat.le_trans HBW.out.size HW.out.size)))
    have t1 := Lib.hid (HW.out.trans (hb10.mono HW.out.size))
    clear hn10 hb10 hF3 hN7 hM7 HB7' HB6 HB7 hHeld HW
    have HW := t1
    clear t1
    refine ⟨_, rfl, ?_⟩
    refine hK.out _ _ ⟨(blk_cell ((HW.out.block bx (blk_lt HBXW.out)).trans HBXW.out) 0).trans rfl, (blk_cell ((HW.out.block bx (blk_lt HBXW.out)).trans HBXW.out) 1).trans rfl⟩ (fun hHeld => ?_)
    clear hK K
    try (refine norm_ (a' := ?_) ?_ ?_; rotate_left; focus (simp only [Act.put, List.setIfInBounds_toArray, List.set_cons_zero, List.set_cons_succ, i64_w, i32_w]; rfl))
    refine pure_ (i := 8) (N := some 6) (v := ?_) (a' := ?_) #[true, true, true, true, true, true, true, true, true] rfl rfl (by kernel_rfl) (fun _ _ _ h => h) (Or.inl ⟨by rfl, ?_⟩) ?_ ?_
    rotate_left
    · intro w'
      go_simp
      with_reducible rfl
    rotate_left
    · simp only [Act.put, List.setIfInBounds_toArray, List.set_cons_zero, List.set_cons_succ, i64_w, i32_w]
      rfl
    refine done_ (by kernel_rfl) ?_
    go_wp2_with fail
    go_ret
    refine ⟨v10, rfl, ?_, HB9.out.trans ((HBW.out.trans (HW.out.mono HBW.out.size)).mono HB9.out.size)⟩
    rw [HP.out]
    have := HO10.out
    simpa using this
theorem put_calls (A : Option Addr) (c : Nat) (l : List OptF) (code : Int) (D : Option Addr) (cd : Nat) (data : List Int) (w : World) (hF : Kd.F k48 w (fun k => k < w.heap.size) A l.length l) (hc : l.length ≤ c) (hl : l.length ≤ 500000) (hd : ∀ x ∈ l, x.f1.length < 140737488355328)
    (hD : (Kd.int .u8).C w D data.length data) (hcd : data.length ≤ cd) (hdl : data.length < 140737488355328) :
    Calls Try.prog 30 #[.slice A l.length c, .int .i64 code, .slice D data.length cd] w fun e w' => ∃ v, e = .returned v ∧ ON w' w.heap.size (fun _ => True) v (opPut l code data) ∧ Below w.heap.size w w' :=
  put_ok (fun _ => True) A c l code D cd data w (Kd.F_mono hF (fun _ _ => trivial)) (fun _ _ => trivial) hc hl hd hD hcd hdl
end Go.Proofs.Ytnkajghemggaaaa
end

section
namespace Go.Proofs.Ytnkajghemggaaaa
open Go.RowKit Go.Proofs.Ytnkajghemggaaaa.Pr Go.Proofs.YtnkajghemggaaaaW.PrintWords Go.Proofs.YtnkajghemggaaaaW.PrintLast Go.Proofs.YtnkajghemggaaaaW.PrintMore
set_option linter.unusedVariables false
set_option linter.unusedSimpArgs false

theorem F_off {w : World} {ok : Nat → Prop} {A : Option Addr} {n bp : Nat} {f : List Int} {cs : Array Value} {t : TypeId} (h : Kd.F (Kd.int .u8) w ok A n f) (hbp : w.heap[bp]? = some (.cells cs t (0, 0))) (hcs : ∀ (j : Nat) (x : Int), cs[j]? ≠ some (.int .u8 x)) :
    Kd.F (Kd.int .u8) w (fun k => ok k ∧ k ≠ bp) A n f := by
  intro W' hW
  obtain ⟨hl, hm, hn⟩ := Kd.F_now h
  refine ⟨hl, hm, fun hp => ?_⟩
  obtain ⟨ad, rfl, hcell⟩ := hn hp
  have hin := Kd.F_in h rfl hp (show 0 < (Kd.int .u8).sz by decide)
  have hpl : 0 < f.length := by omega
  obtain ⟨c, h1, h2, h3⟩ := hcell 0 _ (List.getElem?_eq_getElem hpl)
  obtain rfl : c = [.int .u8 f[0]] := h2
  have h4 := h3 0 _ rfl
  have hlt := World.block_lt_of_cell? w _ h4
  rw [add_block] at hlt
  have hne : ad.block ≠ bp := by
    intro e
    have h5 : w.heap[(ad.add (0 * (Kd.int .u8).sz + 0)).block]? = some (.cells cs t (0, 0)) := by rw [add_block, e]; exact hbp
    unfold World.cell? at h4
    rw [h5] at h4
    first
      | exact hcs _ _ h4
      | (simp only at h4; split at h4 <;> first | exact hcs _ _ h4 | cases h4)
      | (revert h4; split <;> intro h4 <;> first | exact hcs _ _ h4 | cases h4)
  have hb := hW ad.block ⟨hin, hne⟩ hlt
  refine ⟨ad, rfl, fun j p hj => ?_⟩
  obtain ⟨c, g1, g2, g3⟩ := hcell j p hj
  refine ⟨c, g1, g2, fun i u hu => ?_⟩
  rw [← g3 i u hu]
  simp only [World.cell?, add_block, hb]
theorem ON_off {w : World} {base bp : Nat} {ok : Nat → Prop} {v : Value} {l : List OptF} {cs : Array Value} {t : TypeId} (h : ON w base ok v l) (hbp : w.heap[bp]? = some (.cells cs t (0, 0))) (hcs : ∀ (j : Nat) (x : Int), cs[j]? ≠ some (.int .u8 x)) (hlt : bp < base) :
    ON w base (fun k => ok k ∧ k ≠ bp) v l := by
  have hb := Kd.N_base h
  obtain ⟨h0, rows, hr, hR, hf⟩ := h
  refine ⟨fun k hk => ⟨h0 k hk, by have := hb k hk; omega⟩, rows, hr, hR, fun j x c hx hc => ?_⟩
  obtain ⟨A1, c1, rfl, l1, g1⟩ := k48_openF (hf j x c hx hc)
  exact k48_mkF _ _ _ l1 (Kd.F_mono (F_off g1 hbp hcs) (fun k hk => ⟨⟨hk.1.1, hk.2⟩, hk.1.2⟩))
end Go.Proofs.Ytnkajghemggaaaa
end

section
namespace Go.Proofs.Ytnkajghemggaaaa
open Go.RowKit Go.Proofs.Ytnkajghemggaaaa.Pr Go.Proofs.YtnkajghemggaaaaW.PrintWords Go.Proofs.YtnkajghemggaaaaW.PrintLast Go.Proofs.YtnkajghemggaaaaW.PrintMore
attribute [local go_sem] max2_int min2_int max_two min_two max_three min_three max_four min_four
set_option linter.unusedVariables false
set_option linter.unusedSimpArgs false

/-- A packet's cells, and a packet. -/
abbrev pkCells (a0 a1 a2 a3 a4 a5 a6 a7 : Int) (v8 v9 : Value) : Array Value := #[.int .i64 a0, .int .u32 a1, .int .i64 a2, .int .i64 a3, .int .u32 a4, .int .u32 a5, .int .u32 a6, .int .u32 a7, v8, v9]
abbrev pkV (a0 a1 a2 a3 a4 a5 a6 a7 : Int) (v8 v9 : Value) : Value := .agg (pkCells a0 a1 a2 a3 a4 a5 a6 a7 v8 v9)
abbrev pkNil : Array Value := pkCells 0 0 0 0 0 0 0 0 (.slice none 0 0) (.slice none 0 0)
theorem pk_set {W : World} {br : Nat} {t : TypeId} {o0 o1 o2 o3 o4 o5 o6 o7 o8 o9 : Value} (h : W.heap[br]? = some (.cells #[o0, o1, o2, o3, o4, o5, o6, o7, o8, o9] t (0, 0))) (v0 v1 v2 v3 v4 v5 v6 v7 v8 v9 : Value) :
    ((((((((((W.setCell ⟨br, 0, none⟩ v0).setCell ⟨br, 1, none⟩ v1).setCell ⟨br, 2, none⟩ v2).setCell ⟨br, 3, none⟩ v3).setCell ⟨br, 4, none⟩ v4).setCell ⟨br, 5, none⟩ v5).setCell ⟨br, 6, none⟩ v6).setCell ⟨br, 7, none⟩ v7).setCell ⟨br, 8, none⟩ v8).setCell ⟨br, 9, none⟩ v9).heap[br]? = some (.cells #[v0, v1, v2, v3, v4, v5, v6, v7, v8, v9] t (0, 0)) := by
  have h0 : (W.setCell ⟨br, 0, none⟩ v0).heap[br]? = some (.cells #[v0, o1, o2, o3, o4, o5, o6, o7, o8, o9] t (0, 0)) := blk_put h 0 v0 rfl
  have h1 : ((W.setCell ⟨br, 0, none⟩ v0).setCell ⟨br, 1, none⟩ v1).heap[br]? = some (.cells #[v0, v1, o2, o3, o4, o5, o6, o7, o8, o9] t (0, 0)) := blk_put h0 1 v1 rfl
  have h2 : (((W.setCell ⟨br, 0, none⟩ v0).setCell ⟨br, 1, none⟩ v1).setCell ⟨br, 2, none⟩ v2).heap[br]? = some (.cells #[v0, v1, v2, o3, o4, o5, o6, o7, o8, o9] t (0, 0)) := blk_put h1 2 v2 rfl
  have h3 : ((((W.setCell ⟨br, 0, none⟩ v0).setCell ⟨br, 1, none⟩ v1).setCell ⟨br, 2, none⟩ v2).setCell ⟨br, 3, none⟩ v3).heap[br]? = some (.cells #[v0, v1, v2, v3, o4, o5, o6, o7, o8, o9] t (0, 0)) := blk_put h2 3 v3 rfl
  have h4 : (((((W.setCell ⟨br, 0, none⟩ v0).setCell ⟨br, 1, none⟩ v1).setCell ⟨br, 2, none⟩ v2).setCell ⟨br, 3, none⟩ v3).setCell ⟨br, 4, none⟩ v4).heap[br]? = some (.cells #[v0, v1, v2, v3, v4, o5, o6, o7, o8, o9] t (0, 0)) := blk_put h3 4 v4 rfl
  have h5 : ((((((W.setCell ⟨br, 0, none⟩ v0).setCell ⟨br, 1, none⟩ v1).setCell ⟨br, 2, none⟩ v2).setCell ⟨br, 3, none⟩ v3).setCell ⟨br, 4, none⟩ v4).setCell ⟨br, 5, none⟩ v5).heap[br]? = some (.cells #[v0, v1, v2, v3, v4, v5, o6, o7, o8, o9] t (0, 0)) := blk_put h4 5 v5 rfl
  have h6 : (((((((W.setCell ⟨br, 0, none⟩ v0).setCell ⟨br, 1, none⟩ v1).setCell ⟨br, 2, none⟩ v2).setCell ⟨br, 3, none⟩ v3).setCell ⟨br, 4, none⟩ v4).setCell ⟨br, 5, none⟩ v5).setCell ⟨br, 6, none⟩ v6).heap[br]? = some (.cells #[v0, v1, v2, v3, v4, v5, v6, o7, o8, o9] t (0, 0)) := blk_put h5 6 v6 rfl
  have h7 : ((((((((W.setCell ⟨br, 0, none⟩ v0).setCell ⟨br, 1, none⟩ v1).setCell ⟨br, 2, none⟩ v2).setCell ⟨br, 3, none⟩ v3).setCell ⟨br, 4, none⟩ v4).setCell ⟨br, 5, none⟩ v5).setCell ⟨br, 6, none⟩ v6).setCell ⟨br, 7, none⟩ v7).heap[br]? = some (.cells #[v0, v1, v2, v3, v4, v5, v6, v7, o8, o9] t (0, 0)) := blk_put h6 7 v7 rfl
  have h8 : (((((((((W.setCell ⟨br, 0, none⟩ v0).setCell ⟨br, 1, none⟩ v1).setCell ⟨br, 2, none⟩ v2).setCell ⟨br, 3, none⟩ v3).setCell ⟨br, 4, none⟩ v4).setCell ⟨br, 5, none⟩ v5).setCell ⟨br, 6, none⟩ v6).setCell ⟨br, 7, none⟩ v7).setCell ⟨br, 8, none⟩ v8).heap[br]? = some (.cells #[v0, v1, v2, v3, v4, v5, v6, v7, v8, o9] t (0, 0)) := blk_put h7 8 v8 rfl
  have h9 : ((((((((((W.setCell ⟨br, 0, none⟩ v0).setCell ⟨br, 1, none⟩ v1).setCell ⟨br, 2, none⟩ v2).setCell ⟨br, 3, none⟩ v3).setCell ⟨br, 4, none⟩ v4).setCell ⟨br, 5, none⟩ v5).setCell ⟨br, 6, none⟩ v6).setCell ⟨br, 7, none⟩ v7).setCell ⟨br, 8, none⟩ v8).setCell ⟨br, 9, none⟩ v9).heap[br]? = some (.cells #[v0, v1, v2, v3, v4, v5, v6, v7, v8, v9] t (0, 0)) := blk_put h8 9 v9 rfl
  exact h9
theorem pk_below {w W : World} {br : Nat} (hB : Below w.heap.size w W) (hg : w.heap.size ≤ br) (v0 v1 v2 v3 v4 v5 v6 v7 v8 v9 : Value) : Below w.heap.size w ((((((((((W.setCell ⟨br, 0, none⟩ v0).setCell ⟨br, 1, none⟩ v1).setCell ⟨br, 2, none⟩ v2).setCell ⟨br, 3, none⟩ v3).setCell ⟨br, 4, none⟩ v4).setCell ⟨br, 5, none⟩ v5).setCell ⟨br, 6, none⟩ v6).setCell ⟨br, 7, none⟩ v7).setCell ⟨br, 8, none⟩ v8).setCell ⟨br, 9, none⟩ v9) := (below_set (j := 9) (v := v9) (below_set (j := 8) (v := v8) (below_set (j := 7) (v := v7) (below_set (j := 6) (v := v6) (below_set (j := 5) (v := v5) (below_set (j := 4) (v := v4) (below_set (j := 3) (v := v3) (below_set (j := 2) (v := v2) (below_set (j := 1) (v := v1) (below_set (j := 0) (v := v0) hB hg) hg) hg) hg) hg) hg) hg) hg) hg) hg)
theorem pk_far {W : World} {br k : Nat} (hk : k ≠ br) (v0 v1 v2 v3 v4 v5 v6 v7 v8 v9 : Value) : ((((((((((W.setCell ⟨br, 0, none⟩ v0).setCell ⟨br, 1, none⟩ v1).setCell ⟨br, 2, none⟩ v2).setCell ⟨br, 3, none⟩ v3).setCell ⟨br, 4, none⟩ v4).setCell ⟨br, 5, none⟩ v5).setCell ⟨br, 6, none⟩ v6).setCell ⟨br, 7, none⟩ v7).setCell ⟨br, 8, none⟩ v8).setCell ⟨br, 9, none⟩ v9).heap[k]? = W.heap[k]? := (Below.heap_setCell (((((((((W.setCell ⟨br, 0, none⟩ v0).setCell ⟨br, 1, none⟩ v1).setCell ⟨br, 2, none⟩ v2).setCell ⟨br, 3, none⟩ v3).setCell ⟨br, 4, none⟩ v4).setCell ⟨br, 5, none⟩ v5).setCell ⟨br, 6, none⟩ v6).setCell ⟨br, 7, none⟩ v7).setCell ⟨br, 8, none⟩ v8) ⟨br, 9, none⟩ v9 k hk).trans ((Below.heap_setCell ((((((((W.setCell ⟨br, 0, none⟩ v0).setCell ⟨br, 1, none⟩ v1).setCell ⟨br, 2, none⟩ v2).setCell ⟨br, 3, none⟩ v3).setCell ⟨br, 4, none⟩ v4).setCell ⟨br, 5, none⟩ v5).setCell ⟨br, 6, none⟩ v6).setCell ⟨br, 7, none⟩ v7) ⟨br, 8, none⟩ v8 k hk).trans ((Below.heap_setCell (((((((W.setCell ⟨br, 0, none⟩ v0).setCell ⟨br, 1, none⟩ v1).setCell ⟨br, 2, none⟩ v2).setCell ⟨br, 3, none⟩ v3).setCell ⟨br, 4, none⟩ v4).setCell ⟨br, 5, none⟩ v5).setCell ⟨br, 6, none⟩ v6) ⟨br, 7, none⟩ v7 k hk).trans ((Below.heap_setCell ((((((W.setCell ⟨br, 0, none⟩ v0).setCell ⟨br, 1, none⟩ v1).setCell ⟨br, 2, none⟩ v2).setCell ⟨br, 3, none⟩ v3).setCell ⟨br, 4, none⟩ v4).setCell ⟨br, 5, none⟩ v5) ⟨br, 6, none⟩ v6 k hk).trans ((Below.heap_setCell (((((W.setCell ⟨br, 0, none⟩ v0).setCell ⟨br, 1, none⟩ v1).setCell ⟨br, 2, none⟩ v2).setCell ⟨br, 3, none⟩ v3).setCell ⟨br, 4, none⟩ v4) ⟨br, 5, none⟩ v5 k hk).trans ((Below.heap_setCell ((((W.setCell ⟨br, 0, none⟩ v0).setCell ⟨br, 1, none⟩ v1).setCell ⟨br, 2, none⟩ v2).setCell ⟨br, 3, none⟩ v3) ⟨br, 4, none⟩ v4 k hk).trans ((Below.heap_setCell (((W.setCell ⟨br, 0, none⟩ v0).setCell ⟨br, 1, none⟩ v1).setCell ⟨br, 2, none⟩ v2) ⟨br, 3, none⟩ v3 k hk).trans ((Below.heap_setCell ((W.setCell ⟨br, 0, none⟩ v0).setCell ⟨br, 1, none⟩ v1) ⟨br, 2, none⟩ v2 k hk).trans ((Below.heap_setCell (W.setCell ⟨br, 0, none⟩ v0) ⟨br, 1, none⟩ v1 k hk).trans (Below.heap_setCell W ⟨br, 0, none⟩ v0 k hk)))))))))
/-- The door of Add: the packet of the result's cell. -/
theorem add_ret {R : Ending → World → Prop} {tmps : Array Value} {W : World} {br : Nat} {a0 a1 a2 a3 a4 a5 a6 a7 z : Int} {A8 A9 : Option Addr} {n8 c8 n9 c9 : Nat} (h6 : tmps[6]? = some (.pointer (some ⟨br, 0, none⟩))) (h7 : tmps[7]? = some (.int .i64 z))
    (h : W.heap[br]? = some (.cells #[.int .i64 a0, .int .u32 a1, .int .i64 a2, .int .i64 a3, .int .u32 a4, .int .u32 a5, .int .u32 a6, .int .u32 a7, .slice A8 n8 c8, .slice A9 n9 c9] 28 (0, 0)))
    (hR : R (.returned (.tuple #[.agg #[.int .i64 a0, .int .u32 a1, .int .i64 a2, .int .i64 a3, .int .u32 a4, .int .u32 a5, .int .u32 a6, .int .u32 a7, .slice A8 n8 c8, .slice A9 n9 c9], .int .i64 z])) W) :
    bodyPost Try.prog Try.f18 R .ret { tmps := tmps, defers := [] } W := by
  have y0 := (blk_cell h 0).trans rfl
  have y1 := (blk_cell h 1).trans rfl
  have y2 := (blk_cell h 2).trans rfl
  have y3 := (blk_cell h 3).trans rfl
  have y4 := (blk_cell h 4).trans rfl
  have y5 := (blk_cell h 5).trans rfl
  have y6 := (blk_cell h 6).trans rfl
  have y7 := (blk_cell h 7).trans rfl
  have y8 := (blk_cell h 8).trans rfl
  have y9 := (blk_cell h 9).trans rfl
  refine bodyPost_ret (v := .tuple #[.agg #[.int .i64 a0, .int .u32 a1, .int .i64 a2, .int .i64 a3, .int .u32 a4, .int .u32 a5, .int .u32 a6, .int .u32 a7, .slice A8 n8 c8, .slice A9 n9 c9], .int .i64 z]) ?_ rfl hR
  simp [results, Try.results18, go_sem, h6, h7, y0, y1, y2, y3, y4, y5, y6, y7, y8, y9]
set_option maxHeartbeats 4000000 in
set_option maxRecDepth 100000 in
/-- The first way out: not right, no client's, or no relay. -/
theorem add_arg (a0 a1 a2 a3 a4 a5 a6 a7 : Int) (A8 : Option Addr) (n8 c8 : Nat) (A9 : Option Addr) (n9 c9 : Nat) (by_ : Int) (A : Option Addr) (n c : Nat) (rt : Bool) (w : World)
    (hr : ∀ W, Below w.heap.size w W → Calls Try.prog 28 #[pkV a0 a1 a2 a3 a4 a5 a6 a7 (.slice A8 n8 c8) (.slice A9 n9 c9)] W fun e w' => e = .returned (.bool rt) ∧ Below W.heap.size W w') (hno : ¬ (rt = true ∧ a0 = 1 ∧ by_ ≠ 0)) :
    Calls Try.prog 18 #[pkV a0 a1 a2 a3 a4 a5 a6 a7 (.slice A8 n8 c8) (.slice A9 n9 c9), .int .u32 by_, .slice A n c] w fun e w' =>
      e = .returned (.tuple #[.agg pkNil, .int .i64 1]) ∧ Below w.heap.size w w' := by
  have HR := Lib.hid hr
  clear hr
  go_enter Try.func18, Try.ntmps18
  go_upto_region 1 with fail
  obtain ⟨bp, hbp⟩ : ∃ b, w.heap.size = b := ⟨_, rfl⟩
  obtain ⟨br, hbr⟩ : ∃ b, bp + 1 = b := ⟨_, rfl⟩
  obtain ⟨w1, hw1⟩ : ∃ W, (w.alloc (.cells (pkCells a0 a1 a2 a3 a4 a5 a6 a7 (.slice A8 n8 c8) (.slice A9 n9 c9)) 28)).alloc (.cells pkNil 28) = W := ⟨_, rfl⟩
  have HP : Hid (w1.heap[bp]? = some (.cells #[.int .i64 a0, .int .u32 a1, .int .i64 a2, .int .i64 a3, .int .u32 a4, .int .u32 a5, .int .u32 a6, .int .u32 a7, .slice A8 n8 c8, .slice A9 n9 c9] 28 (0, 0))) := by
    show _ = _
    rw [← hw1, ← hbp]
    exact (Below.heap_alloc _ _ _ (by simp)).trans (blk_new _ _)
  have HZ : Hid (w1.heap[br]? = some (.cells pkNil 28 (0, 0))) := by
    show _ = _
    rw [← hw1, ← hbr, ← hbp]
    have := blk_new (w.alloc (.cells (pkCells a0 a1 a2 a3 a4 a5 a6 a7 (.slice A8 n8 c8) (.slice A9 n9 c9)) 28)) (.cells pkNil 28)
    rwa [World.size_alloc] at this
  have HB1 : Hid (Below w.heap.size w w1) := by show Below _ _ _; rw [← hw1]; exact below_alloc (below_alloc (Below.refl _ _) _) _
  have HBP : Hid (w.heap.size ≤ bp ∧ bp < br) := ⟨by omega, by omega⟩
  rw [hbp, hbr]
  change Code.wp _ _ _ _ ((w.alloc (.cells (pkCells a0 a1 a2 a3 a4 a5 a6 a7 (.slice A8 n8 c8) (.slice A9 n9 c9)) 28)).alloc (.cells pkNil 28))
  rw [hw1]
  clear hw1 hbp hbr
  have y0 := (blk_cell HP.out 0).trans rfl
  have y1 := (blk_cell HP.out 1).trans rfl
  have y2 := (blk_cell HP.out 2).trans rfl
  have y3 := (blk_cell HP.out 3).trans rfl
  have y4 := (blk_cell HP.out 4).trans rfl
  have y5 := (blk_cell HP.out 5).trans rfl
  have y6 := (blk_cell HP.out 6).trans rfl
  have y7 := (blk_cell HP.out 7).trans rfl
  have y8 := (blk_cell HP.out 8).trans rfl
  have y9 := (blk_cell HP.out 9).trans rfl
  go_wp2_with fail
  refine (HR.out _ HB1.out).mono ?_
  rintro e w2 ⟨rfl, hb2⟩
  have HP2 : Hid (_ = some _) := (hb2.block bp (blk_lt HP.out)).trans HP.out
  have HZ2 : Hid (_ = some _) := (hb2.block br (blk_lt HZ.out)).trans HZ.out
  have HB2 := Lib.hid (HB1.out.trans (hb2.mono HB1.out.size))
  clear y0 y1 y2 y3 y4 y5 y6 y7 y8 y9 HP HZ HB1 hb2
  have y0 := (blk_cell HP2.out 0).trans rfl
  have u0_ := (blk_cell HZ2.out 0).trans rfl
  have f0_ := blk_frozen HZ2.out 0
  have u1_ := (blk_cell HZ2.out 1).trans rfl
  have f1_ := blk_frozen HZ2.out 1
  have u2_ := (blk_cell HZ2.out 2).trans rfl
  have f2_ := blk_frozen HZ2.out 2
  have u3_ := (blk_cell HZ2.out 3).trans rfl
  have f3_ := blk_frozen HZ2.out 3
  have u4_ := (blk_cell HZ2.out 4).trans rfl
  have f4_ := blk_frozen HZ2.out 4
  have u5_ := (blk_cell HZ2.out 5).trans rfl
  have f5_ := blk_frozen HZ2.out 5
  have u6_ := (blk_cell HZ2.out 6).trans rfl
  have f6_ := blk_frozen HZ2.out 6
  have u7_ := (blk_cell HZ2.out 7).trans rfl
  have f7_ := blk_frozen HZ2.out 7
  have u8_ := (blk_cell HZ2.out 8).trans rfl
  have f8_ := blk_frozen HZ2.out 8
  have u9_ := (blk_cell HZ2.out 9).trans rfl
  have f9_ := blk_frozen HZ2.out 9
  cases rt with
  | false =>
    go_wp2_with fail
    exact add_ret rfl rfl (pk_set HZ2.out _ _ _ _ _ _ _ _ _ _) ⟨rfl, pk_below HB2.out (by have := HBP.out; omega) _ _ _ _ _ _ _ _ _ _⟩
  | true =>
    by_cases h0 : a0 = 1
    · have q0 : (a0 != 1) = false := by rw [bne, beq_iff_eq.2 h0]; rfl
      obtain rfl : by_ = 0 := Classical.byContradiction fun h => hno ⟨rfl, h0, h⟩
      clear hno h0
      go_wp2_with fail
      exact add_ret rfl rfl (pk_set HZ2.out _ _ _ _ _ _ _ _ _ _) ⟨rfl, pk_below HB2.out (by have := HBP.out; omega) _ _ _ _ _ _ _ _ _ _⟩
    · have q0 : (a0 != 1) = true := bne_iff_ne.2 h0
      clear hno h0
      go_wp2_with fail
      exact add_ret rfl rfl (pk_set HZ2.out _ _ _ _ _ _ _ _ _ _) ⟨rfl, pk_below HB2.out (by have := HBP.out; omega) _ _ _ _ _ _ _ _ _ _⟩

set_option maxHeartbeats 4000000 in
set_option maxRecDepth 100000 in
/-- The second: the packet bears such an option. -/
theorem add_there (a0 a1 a2 a3 a4 a5 a6 a7 : Int) (A8 : Option Addr) (n8 c8 : Nat) (A9 : Option Addr) (c9 : Nat) (l9 : List OptF) (by_ : Int) (A : Option Addr) (n c : Nat) (w : World)
    (hr : ∀ W, Below w.heap.size w W → Calls Try.prog 28 #[pkV a0 a1 a2 a3 a4 a5 a6 a7 (.slice A8 n8 c8) (.slice A9 l9.length c9)] W fun e w' => e = .returned (.bool true) ∧ Below W.heap.size W w') (h0 : a0 = 1) (hby : by_ ≠ 0)
    (h9 : Kd.C k48 w A9 l9.length l9) (hc9 : l9.length ≤ c9) (hl9 : ∀ x ∈ l9, x.f1.length < 140737488355328) (hf : (opFind l9 82).2 = true) :
    Calls Try.prog 18 #[pkV a0 a1 a2 a3 a4 a5 a6 a7 (.slice A8 n8 c8) (.slice A9 l9.length c9), .int .u32 by_, .slice A n c] w fun e w' =>
      e = .returned (.tuple #[.agg pkNil, .int .i64 5]) ∧ Below w.heap.size w w' := by
  have q0 : (a0 != 1) = false := by rw [bne, beq_iff_eq.2 h0]; rfl
  have q1 : (by_ == 0) = false := beq_eq_false_iff_ne.2 hby
  obtain ⟨fd, fb, hfd⟩ : ∃ fd fb, opFind l9 82 = (fd, fb) := ⟨_, _, rfl⟩
  obtain rfl : fb = true := by rw [hfd] at hf; exact hf
  have hff : option_Find.f l9 82 = some (fd, true) := by unfold option_Find.f; rw [if_pos hl9, hfd]
  have HFI := Lib.hid (fun W (hb : Below w.heap.size w W) => option_Find.calls A9 c9 l9 82 fd true W (Kd.C_below h9 hb) hc9 hff)
  clear h0 hby h9 hl9 hf hfd hff
  have HR := Lib.hid hr
  clear hr
  go_enter Try.func18, Try.ntmps18
  go_upto_region 1 with fail
  obtain ⟨bp, hbp⟩ : ∃ b, w.heap.size = b := ⟨_, rfl⟩
  obtain ⟨br, hbr⟩ : ∃ b, bp + 1 = b := ⟨_, rfl⟩
  obtain ⟨w1, hw1⟩ : ∃ W, (w.alloc (.cells (pkCells a0 a1 a2 a3 a4 a5 a6 a7 (.slice A8 n8 c8) (.slice A9 l9.length c9)) 28)).alloc (.cells pkNil 28) = W := ⟨_, rfl⟩
  have HP : Hid (w1.heap[bp]? = some (.cells #[.int .i64 a0, .int .u32 a1, .int .i64 a2, .int .i64 a3, .int .u32 a4, .int .u32 a5, .int .u32 a6, .int .u32 a7, .slice A8 n8 c8, .slice A9 l9.length c9] 28 (0, 0))) := by
    show _ = _
    rw [← hw1, ← hbp]
    exact (Below.heap_alloc _ _ _ (by simp)).trans (blk_new _ _)
  have HZ : Hid (w1.heap[br]? = some (.cells pkNil 28 (0, 0))) := by
    show _ = _
    rw [← hw1, ← hbr, ← hbp]
    have := blk_new (w.alloc (.cells (pkCells a0 a1 a2 a3 a4 a5 a6 a7 (.slice A8 n8 c8) (.slice A9 l9.length c9)) 28)) (.cells pkNil 28)
    rwa [World.size_alloc] at this
  have HB1 : Hid (Below w.heap.size w w1) := by show Below _ _ _; rw [← hw1]; exact below_alloc (below_alloc (Below.refl _ _) _) _
  have HBP : Hid (w.heap.size ≤ bp ∧ bp < br) := ⟨by omega, by omega⟩
  rw [hbp, hbr]
  change Code.wp _ _ _ _ ((w.alloc (.cells (pkCells a0 a1 a2 a3 a4 a5 a6 a7 (.slice A8 n8 c8) (.slice A9 l9.length c9)) 28)).alloc (.cells pkNil 28))
  rw [hw1]
  clear hw1 hbp hbr
  have y0 := (blk_cell HP.out 0).trans rfl
  have y1 := (blk_cell HP.out 1).trans rfl
  have y2 := (blk_cell HP.out 2).trans rfl
  have y3 := (blk_cell HP.out 3).trans rfl
  have y4 := (blk_cell HP.out 4).trans rfl
  have y5 := (blk_cell HP.out 5).trans rfl
  have y6 := (blk_cell HP.out 6).trans rfl
  have y7 := (blk_cell HP.out 7).trans rfl
  have y8 := (blk_cell HP.out 8).trans rfl
  have y9 := (blk_cell HP.out 9).trans rfl
  go_wp2_with fail
  refine (HR.out _ HB1.out).mono ?_
  rintro e w2 ⟨rfl, hb2⟩
  have HP2 : Hid (_ = some _) := (hb2.block bp (blk_lt HP.out)).trans HP.out
  have HZ2 : Hid (_ = some _) := (hb2.block br (blk_lt HZ.out)).trans HZ.out
  have HB2 := Lib.hid (HB1.out.trans (hb2.mono HB1.out.size))
  clear y0 y1 y2 y3 y4 y5 y6 y7 y8 y9 HP HZ HB1 hb2
  have y0 := (blk_cell HP2.out 0).trans rfl
  have y1 := (blk_cell HP2.out 1).trans rfl
  have y2 := (blk_cell HP2.out 2).trans rfl
  have y3 := (blk_cell HP2.out 3).trans rfl
  have y4 := (blk_cell HP2.out 4).trans rfl
  have y5 := (blk_cell HP2.out 5).trans rfl
  have y6 := (blk_cell HP2.out 6).trans rfl
  have y7 := (blk_cell HP2.out 7).trans rfl
  have y8 := (blk_cell HP2.out 8).trans rfl
  have y9 := (blk_cell HP2.out 9).trans rfl
  have u0_ := (blk_cell HZ2.out 0).trans rfl
  have f0_ := blk_frozen HZ2.out 0
  have u1_ := (blk_cell HZ2.out 1).trans rfl
  have f1_ := blk_frozen HZ2.out 1
  have u2_ := (blk_cell HZ2.out 2).trans rfl
  have f2_ := blk_frozen HZ2.out 2
  have u3_ := (blk_cell HZ2.out 3).trans rfl
  have f3_ := blk_frozen HZ2.out 3
  have u4_ := (blk_cell HZ2.out 4).trans rfl
  have f4_ := blk_frozen HZ2.out 4
  have u5_ := (blk_cell HZ2.out 5).trans rfl
  have f5_ := blk_frozen HZ2.out 5
  have u6_ := (blk_cell HZ2.out 6).trans rfl
  have f6_ := blk_frozen HZ2.out 6
  have u7_ := (blk_cell HZ2.out 7).trans rfl
  have f7_ := blk_frozen HZ2.out 7
  have u8_ := (blk_cell HZ2.out 8).trans rfl
  have f8_ := blk_frozen HZ2.out 8
  have u9_ := (blk_cell HZ2.out 9).trans rfl
  have f9_ := blk_frozen HZ2.out 9
  go_wp2_with fail
  refine (HFI.out _ HB2.out).mono ?_
  rintro e w4 ⟨v4, rfl, hv4, hb4⟩
  have HZ4 : Hid (_ = some _) := (hb4.block br (blk_lt HZ2.out)).trans HZ2.out
  have HB4 := Lib.hid (HB2.out.trans (hb4.mono HB2.out.size))
  clear hv4 hb4 u0_ f0_ y0 u1_ f1_ y1 u2_ f2_ y2 u3_ f3_ y3 u4_ f4_ y4 u5_ f5_ y5 u6_ f6_ y6 u7_ f7_ y7 u8_ f8_ y8 u9_ f9_ y9
  have u0_ := (blk_cell HZ4.out 0).trans rfl
  have f0_ := blk_frozen HZ4.out 0
  have u1_ := (blk_cell HZ4.out 1).trans rfl
  have f1_ := blk_frozen HZ4.out 1
  have u2_ := (blk_cell HZ4.out 2).trans rfl
  have f2_ := blk_frozen HZ4.out 2
  have u3_ := (blk_cell HZ4.out 3).trans rfl
  have f3_ := blk_frozen HZ4.out 3
  have u4_ := (blk_cell HZ4.out 4).trans rfl
  have f4_ := blk_frozen HZ4.out 4
  have u5_ := (blk_cell HZ4.out 5).trans rfl
  have f5_ := blk_frozen HZ4.out 5
  have u6_ := (blk_cell HZ4.out 6).trans rfl
  have f6_ := blk_frozen HZ4.out 6
  have u7_ := (blk_cell HZ4.out 7).trans rfl
  have f7_ := blk_frozen HZ4.out 7
  have u8_ := (blk_cell HZ4.out 8).trans rfl
  have f8_ := blk_frozen HZ4.out 8
  have u9_ := (blk_cell HZ4.out 9).trans rfl
  have f9_ := blk_frozen HZ4.out 9
  go_wp2_with fail
  exact add_ret rfl rfl (pk_set HZ4.out _ _ _ _ _ _ _ _ _ _) ⟨rfl, pk_below HB4.out (by have := HBP.out; omega) _ _ _ _ _ _ _ _ _ _⟩

set_option maxHeartbeats 4000000 in
set_option maxRecDepth 100000 in
/-- The third: the tags have no bytes. -/
theorem add_bad (a0 a1 a2 a3 a4 a5 a6 a7 : Int) (A8 : Option Addr) (n8 c8 : Nat) (A9 : Option Addr) (c9 : Nat) (l9 : List OptF) (by_ : Int) (A : Option Addr) (n c : Nat) (b : List Int) (z : Int) (w : World)
    (hr : ∀ W, Below w.heap.size w W → Calls Try.prog 28 #[pkV a0 a1 a2 a3 a4 a5 a6 a7 (.slice A8 n8 c8) (.slice A9 l9.length c9)] W fun e w' => e = .returned (.bool true) ∧ Below W.heap.size W w') (h0 : a0 = 1) (hby : by_ ≠ 0)
    (h9 : Kd.C k48 w A9 l9.length l9) (hc9 : l9.length ≤ c9) (hl9 : ∀ x ∈ l9, x.f1.length < 140737488355328) (hf : (opFind l9 82).2 = false)
    (he : ∀ W, Below w.heap.size w W → Calls Try.prog 13 #[.slice A n c] W fun e w' => ∃ v, e = .returned (.tuple #[v, .int .i64 z]) ∧ (Kd.int .u8).R 5 w' W.heap.size (fun _ => True) v b ∧ Below W.heap.size W w') (hz : z ≠ 0) :
    Calls Try.prog 18 #[pkV a0 a1 a2 a3 a4 a5 a6 a7 (.slice A8 n8 c8) (.slice A9 l9.length c9), .int .u32 by_, .slice A n c] w fun e w' =>
      e = .returned (.tuple #[.agg pkNil, .int .i64 z]) ∧ Below w.heap.size w w' := by
  have q0 : (a0 != 1) = false := by rw [bne, beq_iff_eq.2 h0]; rfl
  have q1 : (by_ == 0) = false := beq_eq_false_iff_ne.2 hby
  obtain ⟨fd, fb, hfd⟩ : ∃ fd fb, opFind l9 82 = (fd, fb) := ⟨_, _, rfl⟩
  obtain rfl : fb = false := by rw [hfd] at hf; exact hf
  have hff : option_Find.f l9 82 = some (fd, false) := by unfold option_Find.f; rw [if_pos hl9, hfd]
  have HFI := Lib.hid (fun W (hb : Below w.heap.size w W) => option_Find.calls A9 c9 l9 82 fd false W (Kd.C_below h9 hb) hc9 hff)
  have q2 : (z != 0) = true := bne_iff_ne.2 hz
  have HE := Lib.hid he
  clear he hz h0 hby h9 hl9 hf hfd hff
  have HR := Lib.hid hr
  clear hr
  go_enter Try.func18, Try.ntmps18
  go_upto_region 1 with fail
  obtain ⟨bp, hbp⟩ : ∃ b, w.heap.size = b := ⟨_, rfl⟩
  obtain ⟨br, hbr⟩ : ∃ b, bp + 1 = b := ⟨_, rfl⟩
  obtain ⟨w1, hw1⟩ : ∃ W, (w.alloc (.cells (pkCells a0 a1 a2 a3 a4 a5 a6 a7 (.slice A8 n8 c8) (.slice A9 l9.length c9)) 28)).alloc (.cells pkNil 28) = W := ⟨_, rfl⟩
  have HP : Hid (w1.heap[bp]? = some (.cells #[.int .i64 a0, .int .u32 a1, .int .i64 a2, .int .i64 a3, .int .u32 a4, .int .u32 a5, .int .u32 a6, .int .u32 a7, .slice A8 n8 c8, .slice A9 l9.length c9] 28 (0, 0))) := by
    show _ = _
    rw [← hw1, ← hbp]
    exact (Below.heap_alloc _ _ _ (by simp)).trans (blk_new _ _)
  have HZ : Hid (w1.heap[br]? = some (.cells pkNil 28 (0, 0))) := by
    show _ = _
    rw [← hw1, ← hbr, ← hbp]
    have := blk_new (w.alloc (.cells (pkCells a0 a1 a2 a3 a4 a5 a6 a7 (.slice A8 n8 c8) (.slice A9 l9.length c9)) 28)) (.cells pkNil 28)
    rwa [World.size_alloc] at this
  have HB1 : Hid (Below w.heap.size w w1) := by show Below _ _ _; rw [← hw1]; exact below_alloc (below_alloc (Below.refl _ _) _) _
  have HBP : Hid (w.heap.size ≤ bp ∧ bp < br) := ⟨by omega, by omega⟩
  rw [hbp, hbr]
  change Code.wp _ _ _ _ ((w.alloc (.cells (pkCells a0 a1 a2 a3 a4 a5 a6 a7 (.slice A8 n8 c8) (.slice A9 l9.length c9)) 28)).alloc (.cells pkNil 28))
  rw [hw1]
  clear hw1 hbp hbr
  have y0 := (blk_cell HP.out 0).trans rfl
  have y1 := (blk_cell HP.out 1).trans rfl
  have y2 := (blk_cell HP.out 2).trans rfl
  have y3 := (blk_cell HP.out 3).trans rfl
  have y4 := (blk_cell HP.out 4).trans rfl
  have y5 := (blk_cell HP.out 5).trans rfl
  have y6 := (blk_cell HP.out 6).trans rfl
  have y7 := (blk_cell HP.out 7).trans rfl
  have y8 := (blk_cell HP.out 8).trans rfl
  have y9 := (blk_cell HP.out 9).trans rfl
  go_wp2_with fail
  refine (HR.out _ HB1.out).mono ?_
  rintro e w2 ⟨rfl, hb2⟩
  have HP2 : Hid (_ = some _) := (hb2.block bp (blk_lt HP.out)).trans HP.out
  have HZ2 : Hid (_ = some _) := (hb2.block br (blk_lt HZ.out)).trans HZ.out
  have HB2 := Lib.hid (HB1.out.trans (hb2.mono HB1.out.size))
  clear y0 y1 y2 y3 y4 y5 y6 y7 y8 y9 HP HZ HB1 hb2
  have y0 := (blk_cell HP2.out 0).trans rfl
  have y1 := (blk_cell HP2.out 1).trans rfl
  have y2 := (blk_cell HP2.out 2).trans rfl
  have y3 := (blk_cell HP2.out 3).trans rfl
  have y4 := (blk_cell HP2.out 4).trans rfl
  have y5 := (blk_cell HP2.out 5).trans rfl
  have y6 := (blk_cell HP2.out 6).trans rfl
  have y7 := (blk_cell HP2.out 7).trans rfl
  have y8 := (blk_cell HP2.out 8).trans rfl
  have y9 := (blk_cell HP2.out 9).trans rfl
  have u0_ := (blk_cell HZ2.out 0).trans rfl
  have f0_ := blk_frozen HZ2.out 0
  have u1_ := (blk_cell HZ2.out 1).trans rfl
  have f1_ := blk_frozen HZ2.out 1
  have u2_ := (blk_cell HZ2.out 2).trans rfl
  have f2_ := blk_frozen HZ2.out 2
  have u3_ := (blk_cell HZ2.out 3).trans rfl
  have f3_ := blk_frozen HZ2.out 3
  have u4_ := (blk_cell HZ2.out 4).trans rfl
  have f4_ := blk_frozen HZ2.out 4
  have u5_ := (blk_cell HZ2.out 5).trans rfl
  have f5_ := blk_frozen HZ2.out 5
  have u6_ := (blk_cell HZ2.out 6).trans rfl
  have f6_ := blk_frozen HZ2.out 6
  have u7_ := (blk_cell HZ2.out 7).trans rfl
  have f7_ := blk_frozen HZ2.out 7
  have u8_ := (blk_cell HZ2.out 8).trans rfl
  have f8_ := blk_frozen HZ2.out 8
  have u9_ := (blk_cell HZ2.out 9).trans rfl
  have f9_ := blk_frozen HZ2.out 9
  go_wp2_with fail
  refine (HFI.out _ HB2.out).mono ?_
  rintro e w4 ⟨v4, rfl, hv4, hb4⟩
  have HZ4 : Hid (_ = some _) := (hb4.block br (blk_lt HZ2.out)).trans HZ2.out
  have HB4 := Lib.hid (HB2.out.trans (hb4.mono HB2.out.size))
  clear hv4 hb4 u0_ f0_ y0 u1_ f1_ y1 u2_ f2_ y2 u3_ f3_ y3 u4_ f4_ y4 u5_ f5_ y5 u6_ f6_ y6 u7_ f7_ y7 u8_ f8_ y8 u9_ f9_ y9
  go_wp2_with fail
  refine (HE.out _ HB4.out).mono ?_
  rintro e w5 ⟨v5, rfl, hv5, hb5⟩
  have HZ5 : Hid (_ = some _) := (hb5.block br (blk_lt HZ4.out)).trans HZ4.out
  have HB5 := Lib.hid (HB4.out.trans (hb5.mono HB4.out.size))
  clear hv5 hb5
  have u0_ := (blk_cell HZ5.out 0).trans rfl
  have f0_ := blk_frozen HZ5.out 0
  have u1_ := (blk_cell HZ5.out 1).trans rfl
  have f1_ := blk_frozen HZ5.out 1
  have u2_ := (blk_cell HZ5.out 2).trans rfl
  have f2_ := blk_frozen HZ5.out 2
  have u3_ := (blk_cell HZ5.out 3).trans rfl
  have f3_ := blk_frozen HZ5.out 3
  have u4_ := (blk_cell HZ5.out 4).trans rfl
  have f4_ := blk_frozen HZ5.out 4
  have u5_ := (blk_cell HZ5.out 5).trans rfl
  have f5_ := blk_frozen HZ5.out 5
  have u6_ := (blk_cell HZ5.out 6).trans rfl
  have f6_ := blk_frozen HZ5.out 6
  have u7_ := (blk_cell HZ5.out 7).trans rfl
  have f7_ := blk_frozen HZ5.out 7
  have u8_ := (blk_cell HZ5.out 8).trans rfl
  have f8_ := blk_frozen HZ5.out 8
  have u9_ := (blk_cell HZ5.out 9).trans rfl
  have f9_ := blk_frozen HZ5.out 9
  go_wp2_with fail
  exact add_ret rfl rfl (pk_set HZ5.out _ _ _ _ _ _ _ _ _ _) ⟨rfl, pk_below HB5.out (by have := HBP.out; omega) _ _ _ _ _ _ _ _ _ _⟩
set_option maxHeartbeats 4000000 in
set_option maxRecDepth 100000 in
/-- The rest. -/
theorem add_main (P : Nat → Prop) (a0 a1 a2 a3 a4 a5 a6 a7 : Int) (A8 : Option Addr) (c8 : Nat) (l8 : List Int) (A9 : Option Addr) (c9 : Nat) (l9 : List OptF) (by_ : Int) (A : Option Addr) (n c : Nat) (b : List Int) (rt : Bool) (w : World)
    (hr : ∀ W, Below w.heap.size w W → Calls Try.prog 28 #[pkV a0 a1 a2 a3 a4 a5 a6 a7 (.slice A8 l8.length c8) (.slice A9 l9.length c9)] W fun e w' => e = .returned (.bool true) ∧ Below W.heap.size W w') (h0 : a0 = 1) (hby : by_ ≠ 0)
    (hF9 : Kd.F k48 w P A9 l9.length l9) (hc9 : l9.length ≤ c9) (hl9 : ∀ x ∈ l9, x.f1.length < 140737488355328) (hf : (opFind l9 82).2 = false)
    (he : ∀ W, Below w.heap.size w W → Calls Try.prog 13 #[.slice A n c] W fun e w' => ∃ v, e = .returned (.tuple #[v, .int .i64 0]) ∧ (Kd.int .u8).R 5 w' W.heap.size (fun _ => True) v b ∧ Below W.heap.size W w')
    (h8 : (Kd.int .u8).C w A8 l8.length l8) (hc8 : l8.length ≤ c8) (hn8 : l8.length < 140737488355328) (hn9 : l9.length ≤ 500000) (hb : b.length < 140737488355328)
    (hr2 : ∀ W A8' c8' A9' c9', Below w.heap.size w W → (Kd.int .u8).C W A8' l8.length l8 → l8.length ≤ c8' → Kd.C k48 W A9' (opPut l9 82 b).length (opPut l9 82 b) → (opPut l9 82 b).length ≤ c9' →
      Calls Try.prog 28 #[pkV a0 a1 a2 a3 a4 a5 a6 (if a7 = 0 then by_ else a7) (.slice A8' l8.length c8') (.slice A9' (opPut l9 82 b).length c9')] W fun e w' => e = .returned (.bool rt) ∧ Below W.heap.size W w') :
    Calls Try.prog 18 #[pkV a0 a1 a2 a3 a4 a5 a6 a7 (.slice A8 l8.length c8) (.slice A9 l9.length c9), .int .u32 by_, .slice A n c] w fun e w' =>
      
      if rt = true then ∃ A8' c8' A9' c9', e = .returned (.tuple #[pkV a0 a1 a2 a3 a4 a5 a6 (if a7 = 0 then by_ else a7) (.slice A8' l8.length c8') (.slice A9' (opPut l9 82 b).length c9'), .int .i64 0]) ∧ Kd.R (Kd.int .u8) 5 w' w.heap.size (fun _ => True) (.slice A8' l8.length c8') l8 ∧ ON w' w.heap.size (fun k => (P k ∨ w.heap.size ≤ k) ∧ some k ≠ (Value.slice A8' l8.length c8').ownBlock) (.slice A9' (opPut l9 82 b).length c9') (opPut l9 82 b) ∧ Below w.heap.size w w'
      else e = .returned (.tuple #[.agg pkNil, .int .i64 3]) ∧ Below w.heap.size w w' := by
  have h9 := Kd.F_now hF9
  have q0 : (a0 != 1) = false := by rw [bne, beq_iff_eq.2 h0]; rfl
  have q1 : (by_ == 0) = false := beq_eq_false_iff_ne.2 hby
  obtain ⟨fd, fb, hfd⟩ : ∃ fd fb, opFind l9 82 = (fd, fb) := ⟨_, _, rfl⟩
  obtain rfl : fb = false := by rw [hfd] at hf; exact hf
  have hff : option_Find.f l9 82 = some (fd, false) := by unfold option_Find.f; rw [if_pos hl9, hfd]
  have HFI := Lib.hid (fun W (hb : Below w.heap.size w W) => option_Find.calls A9 c9 l9 82 fd false W (Kd.C_below h9 hb) hc9 hff)
  have HE := Lib.hid he
  have H8 := Lib.hid h8
  have H9 := Lib.hid hF9
  have HL9 := Lib.hid hl9
  have HR2 := Lib.hid hr2
  clear he h0 hby h8 hr2 h9 hF9 hl9 hf hfd hff
  have HR := Lib.hid hr
  clear hr
  go_enter Try.func18, Try.ntmps18
  go_upto_region 1 with fail
  obtain ⟨bp, hbp⟩ : ∃ b, w.heap.size = b := ⟨_, rfl⟩
  obtain ⟨br, hbr⟩ : ∃ b, bp + 1 = b := ⟨_, rfl⟩
  obtain ⟨w1, hw1⟩ : ∃ W, (w.alloc (.cells (pkCells a0 a1 a2 a3 a4 a5 a6 a7 (.slice A8 l8.length c8) (.slice A9 l9.length c9)) 28)).alloc (.cells pkNil 28) = W := ⟨_, rfl⟩
  have HP : Hid (w1.heap[bp]? = some (.cells #[.int .i64 a0, .int .u32 a1, .int .i64 a2, .int .i64 a3, .int .u32 a4, .int .u32 a5, .int .u32 a6, .int .u32 a7, .slice A8 l8.length c8, .slice A9 l9.length c9] 28 (0, 0))) := by
    show _ = _
    rw [← hw1, ← hbp]
    exact (Below.heap_alloc _ _ _ (by simp)).trans (blk_new _ _)
  have HZ : Hid (w1.heap[br]? = some (.cells pkNil 28 (0, 0))) := by
    show _ = _
    rw [← hw1, ← hbr, ← hbp]
    have := blk_new (w.alloc (.cells (pkCells a0 a1 a2 a3 a4 a5 a6 a7 (.slice A8 l8.length c8) (.slice A9 l9.length c9)) 28)) (.cells pkNil 28)
    rwa [World.size_alloc] at this
  have HB1 : Hid (Below w.heap.size w w1) := by show Below _ _ _; rw [← hw1]; exact below_alloc (below_alloc (Below.refl _ _) _) _
  have HBP : Hid (w.heap.size ≤ bp ∧ bp < br) := ⟨by omega, by omega⟩
  rw [hbp, hbr]
  change Code.wp _ _ _ _ ((w.alloc (.cells (pkCells a0 a1 a2 a3 a4 a5 a6 a7 (.slice A8 l8.length c8) (.slice A9 l9.length c9)) 28)).alloc (.cells pkNil 28))
  rw [hw1]
  clear hw1 hbp hbr
  have y0 := (blk_cell HP.out 0).trans rfl
  have y1 := (blk_cell HP.out 1).trans rfl
  have y2 := (blk_cell HP.out 2).trans rfl
  have y3 := (blk_cell HP.out 3).trans rfl
  have y4 := (blk_cell HP.out 4).trans rfl
  have y5 := (blk_cell HP.out 5).trans rfl
  have y6 := (blk_cell HP.out 6).trans rfl
  have y7 := (blk_cell HP.out 7).trans rfl
  have y8 := (blk_cell HP.out 8).trans rfl
  have y9 := (blk_cell HP.out 9).trans rfl
  go_wp2_with fail
  refine (HR.out _ HB1.out).mono ?_
  rintro e w2 ⟨rfl, hb2⟩
  have HP2 : Hid (_ = some _) := (hb2.block bp (blk_lt HP.out)).trans HP.out
  have HZ2 : Hid (_ = some _) := (hb2.block br (blk_lt HZ.out)).trans HZ.out
  have HB2 := Lib.hid (HB1.out.trans (hb2.mono HB1.out.size))
  clear y0 y1 y2 y3 y4 y5 y6 y7 y8 y9 HP HZ HB1 hb2
  have y0 := (blk_cell HP2.out 0).trans rfl
  have y1 := (blk_cell HP2.out 1).trans rfl
  have y2 := (blk_cell HP2.out 2).trans rfl
  have y3 := (blk_cell HP2.out 3).trans rfl
  have y4 := (blk_cell HP2.out 4).trans rfl
  have y5 := (blk_cell HP2.out 5).trans rfl
  have y6 := (blk_cell HP2.out 6).trans rfl
  have y7 := (blk_cell HP2.out 7).trans rfl
  have y8 := (blk_cell HP2.out 8).trans rfl
  have y9 := (blk_cell HP2.out 9).trans rfl
  have u0_ := (blk_cell HZ2.out 0).trans rfl
  have f0_ := blk_frozen HZ2.out 0
  have u1_ := (blk_cell HZ2.out 1).trans rfl
  have f1_ := blk_frozen HZ2.out 1
  have u2_ := (blk_cell HZ2.out 2).trans rfl
  have f2_ := blk_frozen HZ2.out 2
  have u3_ := (blk_cell HZ2.out 3).trans rfl
  have f3_ := blk_frozen HZ2.out 3
  have u4_ := (blk_cell HZ2.out 4).trans rfl
  have f4_ := blk_frozen HZ2.out 4
  have u5_ := (blk_cell HZ2.out 5).trans rfl
  have f5_ := blk_frozen HZ2.out 5
  have u6_ := (blk_cell HZ2.out 6).trans rfl
  have f6_ := blk_frozen HZ2.out 6
  have u7_ := (blk_cell HZ2.out 7).trans rfl
  have f7_ := blk_frozen HZ2.out 7
  have u8_ := (blk_cell HZ2.out 8).trans rfl
  have f8_ := blk_frozen HZ2.out 8
  have u9_ := (blk_cell HZ2.out 9).trans rfl
  have f9_ := blk_frozen HZ2.out 9
  go_wp2_with fail
  refine (HFI.out _ HB2.out).mono ?_
  rintro e w4 ⟨v4, rfl, hv4, hb4⟩
  have HP4 : Hid (_ = some _) := (hb4.block bp (blk_lt HP2.out)).trans HP2.out
  have HZ4 : Hid (_ = some _) := (hb4.block br (blk_lt HZ2.out)).trans HZ2.out
  have HB4 := Lib.hid (HB2.out.trans (hb4.mono HB2.out.size))
  clear hv4 hb4 u0_ f0_ y0 u1_ f1_ y1 u2_ f2_ y2 u3_ f3_ y3 u4_ f4_ y4 u5_ f5_ y5 u6_ f6_ y6 u7_ f7_ y7 u8_ f8_ y8 u9_ f9_ y9
  go_wp2_with fail
  refine (HE.out _ HB4.out).mono ?_
  rintro e w5 ⟨v5, rfl, hv5, hb5⟩
  obtain ⟨A5, c5, rfl⟩ := Kd.R_slice hv5
  have HP5 : Hid (w5.heap[bp]? = some (.cells #[.int .i64 a0, .int .u32 a1, .int .i64 a2, .int .i64 a3, .int .u32 a4, .int .u32 a5, .int .u32 a6, .int .u32 a7, .slice A8 l8.length c8, .slice A9 l9.length c9] 28 (0, 0))) := (hb5.block bp (blk_lt HP4.out)).trans HP4.out
  have HZ5 : Hid (w5.heap[br]? = some (.cells pkNil 28 (0, 0))) := (hb5.block br (blk_lt HZ4.out)).trans HZ4.out
  have HB5 := Lib.hid (HB4.out.trans (hb5.mono HB4.out.size))
  have HV5 := Lib.hid hv5
  clear hv5 hb5
  have e8 := (blk_cell HP5.out 8).trans rfl
  have e9 := (blk_cell HP5.out 9).trans rfl
  go_wp2_with fail
  refine start_ (n := 11) (S := fun w' => w'.cell? ⟨bp, 8, none⟩ = some (.slice A8 l8.length c8) ∧ w'.cell? ⟨bp, 9, none⟩ = some (.slice A9 l9.length c9)) (ds := [8, 10]) #[false, false, false, false, false, false, false, false, false, false, false] (by kernel_rfl) rfl rfl ⟨e8, e9⟩ (fun hHeld => ?_)
  obtain ⟨W2, hW2⟩ : ∃ W2, w5.drew = W2 := ⟨_, rfl⟩
  have hbw : Below w5.heap.size w5 W2 := by rw [← hW2]; exact below_drew (Below.refl _ _)
  rw [hW2] at hHeld ⊢
  clear hW2 e8 e9
  have HPW : Hid (W2.heap[bp]? = some (.cells #[.int .i64 a0, .int .u32 a1, .int .i64 a2, .int .i64 a3, .int .u32 a4, .int .u32 a5, .int .u32 a6, .int .u32 a7, .slice A8 l8.length c8, .slice A9 l9.length c9] 28 (0, 0))) := (hbw.block bp (blk_lt HP5.out)).trans HP5.out
  have HZW : Hid (W2.heap[br]? = some (.cells pkNil 28 (0, 0))) := (hbw.block br (blk_lt HZ5.out)).trans HZ5.out
  have HBW := Lib.hid (HB5.out.trans (hbw.mono HB5.out.size))
  have HVW := Lib.hid (Kd.R_below HV5.out hbw)
  clear hbw HP5 HZ5 HB5 HV5
  refine pure_ (i := 0) (N := some 42) (v := ?_) (a' := ?_) #[true, false, false, false, false, false, false, false, false, false, false] rfl rfl (by kernel_rfl) (fun _ _ _ h => h) (Or.inl ⟨by rfl, ?_⟩) ?_ ?_
  rotate_left
  · intro w'
    go_simp
    with_reducible rfl
  rotate_left
  · simp only [Act.put, List.setIfInBounds_toArray, List.set_cons_zero, List.set_cons_succ, i64_w, i32_w]
    rfl
  refine pure_ (i := 2) (N := some 44) (v := ?_) (a' := ?_) #[true, false, true, false, false, false, false, false, false, false, false] rfl rfl (by kernel_rfl) (fun _ _ _ h => h) (Or.inl ⟨by rfl, ?_⟩) ?_ ?_
  rotate_left
  · intro w'
    go_simp
    with_reducible rfl
  rotate_left
  · simp only [Act.put, List.setIfInBounds_toArray, List.set_cons_zero, List.set_cons_succ, i64_w, i32_w]
    rfl
  refine pure_ (i := 4) (N := some 46) (v := ?_) (a' := ?_) #[true, false, true, false, true, false, false, false, false, false, false] rfl rfl (by kernel_rfl) (fun _ _ _ h => h) (Or.inl ⟨by rfl, ?_⟩) ?_ ?_
  rotate_left
  · intro w'
    go_simp
    with_reducible rfl
  rotate_left
  · simp only [Act.put, List.setIfInBounds_toArray, List.set_cons_zero, List.set_cons_succ, i64_w, i32_w]
    rfl
  refine take_ (i := 1) (N := some 43) (v := .slice A9 l9.length c9) (a' := ?_) #[true, true, true, false, true, false, false, false, false, false, false] rfl rfl (by kernel_rfl) (fun _ _ _ h => h) (Or.inl ⟨by rfl, ?_⟩) hHeld ?_ ?_
  · rintro w' ⟨s0, s1⟩
    go_simp
    try (with_reducible rfl)
  rotate_left
  · simp only [Act.put, List.setIfInBounds_toArray, List.set_cons_zero, List.set_cons_succ, i64_w, i32_w]
    rfl
  refine take_ (i := 5) (N := some 47) (v := .slice A8 l8.length c8) (a' := ?_) #[true, true, true, false, true, true, false, false, false, false, false] rfl rfl (by kernel_rfl) (fun _ _ _ h => h) (Or.inl ⟨by rfl, ?_⟩) hHeld ?_ ?_
  · rintro w' ⟨s0, s1⟩
    go_simp
    try (with_reducible rfl)
  rotate_left
  · simp only [Act.put, List.setIfInBounds_toArray, List.set_cons_zero, List.set_cons_succ, i64_w, i32_w]
    rfl
  refine one_ (i := 3) (N := some 45) #[true, true, true, true, true, true, false, false, false, false, false] rfl rfl (by kernel_rfl) (by decide) (fun K hK => ?_)
  refine goes_ Try.func30 (by kernel_rfl) rfl #[.slice A9 l9.length c9, .int .i64 82, .slice A5 b.length c5] (by rfl) rfl rfl (by (try simp only [List.map_toArray, List.map_cons, List.map_nil]); rfl) ?_
  refine (put_ok (fun k => P k ∨ w.heap.size ≤ k) A9 c9 l9 82 A5 c5 b W2 (Kd.F_mono (Kd.F_below H9.out (HBW.out)) (fun _ h => .inl h)) (fun k hk => .inr (Nat.le_trans HBW.out.size hk)) hc9 hn9 HL9.out (Kd.R_reads' HVW.out).2.2 (Kd.R_reads' HVW.out).2.1 hb).mono ?_
  rintro e w6 ⟨v6, rfl, hn6, hb6⟩
  obtain ⟨A6, c6, rfl⟩ := Kd.N_slice hn6
  have HN6 := Lib.hid hn6
  have HW6 := Lib.hid hb6
  clear hn6 hb6 hHeld
  refine ⟨_, rfl, ?_⟩
  refine hK.out _ _ ⟨pw_cell_below HW6.out ((blk_cell HPW.out 8).trans rfl), pw_cell_below HW6.out ((blk_cell HPW.out 9).trans rfl)⟩ (fun hHeld => ?_)
  clear hK K
  try (refine norm_ (a' := ?_) ?_ ?_; rotate_left; focus (simp only [Act.put, List.setIfInBounds_toArray, List.set_cons_zero, List.set_cons_succ, i64_w, i32_w]; rfl))
  refine pure_ (i := 7) (N := some 49) (v := ?_) (a' := ?_) #[true, true, true, true, true, true, false, true, false, false, false] rfl rfl (by kernel_rfl) (fun _ _ _ h => h) (Or.inl ⟨by rfl, ?_⟩) ?_ ?_
  rotate_left
  · intro w'
    go_simp
    with_reducible rfl
  rotate_left
  · simp only [Act.put, List.setIfInBounds_toArray, List.set_cons_zero, List.set_cons_succ, i64_w, i32_w]
    rfl
  refine one_ (i := 6) (N := some 48) #[true, true, true, true, true, true, true, true, false, false, false] rfl rfl (by kernel_rfl) (by decide) (fun K hK => ?_)
  refine goes_ Try.func31 (by kernel_rfl) rfl #[.slice A8 l8.length c8] (by rfl) rfl rfl (by (try simp only [List.map_toArray, List.map_cons, List.map_nil]); rfl) ?_
  refine (clone_calls A8 c8 l8 w6 (Kd.C_below H8.out (HBW.out.trans (HW6.out.mono HBW.out.size))) hc8 hn8).mono ?_
  rintro e w7 ⟨v7, rfl, hv7, hb7⟩
  obtain ⟨A7, c7, rfl⟩ := Kd.R_slice hv7
  have HV7 := Lib.hid hv7
  have HN7 : Hid (ON w7 W2.heap.size (fun k => (P k ∨ w.heap.size ≤ k) ∧ some k ≠ (Value.slice A7 l8.length c7).ownBlock) (.slice A6 (opPut l9 82 b).length c6) (opPut l9 82 b)) := Kd.N_mono (Kd.N_told (Kd.N_old HN6.out hb7) (Kd.R_base hv7)) (fun k hk => hk.1)
  have HS2 : Hid (w.heap.size ≤ W2.heap.size) := HBW.out.size
  have HW7 := Lib.hid (HW6.out.trans (hb7.mono HW6.out.size))
  have HS6 := Lib.hid HW6.out.size
  clear hv7 hb7 hHeld HN6 HW6
  have HP7 : Hid (w7.heap[bp]? = some (.cells #[.int .i64 a0, .int .u32 a1, .int .i64 a2, .int .i64 a3, .int .u32 a4, .int .u32 a5, .int .u32 a6, .int .u32 a7, .slice A8 l8.length c8, .slice A9 l9.length c9] 28 (0, 0))) := (HW7.out.block bp (blk_lt HPW.out)).trans HPW.out
  refine ⟨_, rfl, ?_⟩
  refine hK.out _ _ ⟨(blk_cell HP7.out 8).trans rfl, (blk_cell HP7.out 9).trans rfl⟩ (fun hHeld => ?_)
  clear hK K
  try (refine norm_ (a' := ?_) ?_ ?_; rotate_left; focus (simp only [Act.put, List.setIfInBounds_toArray, List.set_cons_zero, List.set_cons_succ, i64_w, i32_w]; rfl))
  have k9 := (blk_cell HP7.out 9).trans rfl
  have g9 := blk_frozen HP7.out 9
  have k8 : ∀ u, (w7.setCell ⟨bp, 9, none⟩ u).cell? ⟨bp, 8, none⟩ = some (.slice A8 l8.length c8) := fun u => (blk_cell (blk_set HP7.out 9 u) 8).trans rfl
  have g8 : ∀ u, (w7.setCell ⟨bp, 9, none⟩ u).frozen? ⟨bp, 8, none⟩ = false := fun u => blk_frozen (blk_set HP7.out 9 u) 8
  refine last_ (i := 8) (N := none) #[true, true, true, true, true, true, true, true, true, false, false] rfl rfl (by kernel_rfl) (by decide) (fun K hK => ?_)
  go_simp
  refine hK.out _ _ ?_
  clear hK K
  try (refine norm_ (a' := ?_) ?_ ?_; rotate_left; focus (simp only [Act.put, List.setIfInBounds_toArray, List.set_cons_zero, List.set_cons_succ, i64_w, i32_w]; rfl))
  refine pure_ (i := 9) (N := some 50) (v := ?_) (a' := ?_) #[true, true, true, true, true, true, true, true, true, true, false] rfl rfl (by kernel_rfl) (fun _ _ _ h => h) (Or.inl ⟨by rfl, ?_⟩) ?_ ?_
  rotate_left
  · intro w'
    go_simp
    with_reducible rfl
  rotate_left
  · simp only [Act.put, List.setIfInBounds_toArray, List.set_cons_zero, List.set_cons_succ, i64_w, i32_w]
    rfl
  refine last_ (i := 10) (N := none) #[true, true, true, true, true, true, true, true, true, true, true] rfl rfl (by kernel_rfl) (by decide) (fun K hK => ?_)
  go_simp
  refine hK.out _ _ ?_
  clear hK K k8 k9 g8 g9
  try (refine norm_ (a' := ?_) ?_ ?_; rotate_left; focus (simp only [Act.put, List.setIfInBounds_toArray, List.set_cons_zero, List.set_cons_succ, i64_w, i32_w]; rfl))
  refine done_ (by kernel_rfl) ?_
  have HBPW : Hid (bp < W2.heap.size) := blk_lt HPW.out
  have HBRW : Hid (br < W2.heap.size) := blk_lt HZW.out
  obtain ⟨w10, hw10⟩ : ∃ W, (w7.setCell ⟨bp, 9, none⟩ (.slice A6 (opPut l9 82 b).length c6)).setCell ⟨bp, 8, none⟩ (.slice A7 l8.length c7) = W := ⟨_, rfl⟩
  have hz7 : w7.heap[br]? = some (.cells pkNil 28 (0, 0)) := (HW7.out.block br HBRW.out).trans HZW.out
  have hp10 : w10.heap[bp]? = some (.cells #[.int .i64 a0, .int .u32 a1, .int .i64 a2, .int .i64 a3, .int .u32 a4, .int .u32 a5, .int .u32 a6, .int .u32 a7, .slice A7 l8.length c7, .slice A6 (opPut l9 82 b).length c6] 28 (0, 0)) := by
    rw [← hw10]; exact blk_put (blk_put HP7.out 9 _ rfl) 8 _ rfl
  have hz10 : w10.heap[br]? = some (.cells pkNil 28 (0, 0)) := by
    rw [← hw10]; exact blk_far (blk_far hz7 (p := ⟨bp, 9, none⟩) (by have := HBP.out; show br ≠ bp; omega) _) (p := ⟨bp, 8, none⟩) (by have := HBP.out; show br ≠ bp; omega) _
  have hv10 : (Kd.int .u8).R 5 w10 w6.heap.size (fun _ => True) (.slice A7 l8.length c7) l8 := by
    rw [← hw10]
    refine Kd.R_mono (Kd.R_move (Kd.R_bound HV7.out) (fun k hk => (Below.heap_setCell _ _ _ k ?_).trans (Below.heap_setCell _ _ _ k ?_))) (fun _ hk => hk.1)
    · have h1 := hk.2.1; have h2 := HBPW.out; have h3 := HS6.out; show k ≠ bp; omega
    · have h1 := hk.2.1; have h2 := HBPW.out; have h3 := HS6.out; show k ≠ bp; omega
  have hn10 : ON w10 W2.heap.size (fun k => (((P k ∨ w.heap.size ≤ k) ∧ some k ≠ (Value.slice A7 l8.length c7).ownBlock) ∧ k ≠ bp) ∧ k ≠ br) (.slice A6 (opPut l9 82 b).length c6) (opPut l9 82 b) := by
    rw [← hw10]
    have h1 := ON_off (ON_off HN7.out HP7.out (by intro j x; rcases j with _|_|_|_|_|_|_|_|_|_|j <;> simp) HBPW.out) hz7 (by intro j x; rcases j with _|_|_|_|_|_|_|_|_|_|j <;> simp) HBRW.out
    exact Kd.N_far (Kd.N_far h1 (p := ⟨bp, 9, none⟩) (fun k hk => hk.1.2) _) (p := ⟨bp, 8, none⟩) (fun k hk => hk.1.2) _
  have hb10 : Below w.heap.size w w10 := by rw [← hw10]; exact below_set (below_set (HBW.out.trans (HW7.out.mono HBW.out.size)) HBP.out.1) HBP.out.1
  rw [hw10]
  clear hw10 hz7 HN7 HV7 HP7 HW7 HBW HPW HZW HVW hHeld
  by_cases hg : a7 = 0
  · have q3 : (a7 == 0) = true := beq_iff_eq.2 hg
    have i7 := (blk_cell hp10 7).trans rfl
    have j7 := blk_frozen hp10 7
    obtain ⟨w11, hw11⟩ : ∃ W, w10.setCell ⟨bp, 7, none⟩ (.int .u32 by_) = W := ⟨_, rfl⟩
    have hp11 := blk_put hp10 7 (.int .u32 by_) rfl
    have hz11 := blk_far hz10 (p := ⟨bp, 7, none⟩) (by have := HBP.out; show br ≠ bp; omega) (.int .u32 by_)
    have hv11 := Kd.R_mono (Kd.R_move (Kd.R_bound hv10) (fun k hk => Below.heap_setCell w10 ⟨bp, 7, none⟩ (.int .u32 by_) k (by have h1 := hk.2.1; have h2 := HBPW.out; have h3 := HS6.out; show k ≠ bp; omega))) (fun _ hk => hk.1)
    have hn11 := Kd.N_far hn10 (p := ⟨bp, 7, none⟩) (fun k hk => hk.1.2) (.int .u32 by_)
    have hb11 := below_set (j := 7) (v := .int .u32 by_) hb10 HBP.out.1
    rw [hw11] at hp11 hz11 hv11 hn11 hb11
    have HQ := Lib.hid (And.intro hp11 (And.intro hz11 (And.intro hv11 (And.intro hn11 hb11))))
    have HG := Lib.hid hg
    clear hp10 hz10 hv10 hn10 hb10 hp11 hz11 hv11 hn11 hb11 hg
    go_upto_region 12 with fail
    try rw [hw11]
    clear hw11 i7 j7
    obtain ⟨hp11, hz11, hv11, hn11, hb11⟩ := HQ.out
    clear HQ
    have HP11 : Hid (w11.heap[bp]? = some (.cells #[.int .i64 a0, .int .u32 a1, .int .i64 a2, .int .i64 a3, .int .u32 a4, .int .u32 a5, .int .u32 a6, .int .u32 by_, .slice A7 l8.length c7, .slice A6 (opPut l9 82 b).length c6] 28 (0, 0))) := hp11
    have HR3 := HR2.out w11 A7 c7 A6 c6 hb11 (Kd.R_reads' hv11).2.2 (Kd.R_reads' hv11).2.1 (Kd.N_reads' hn11).2.2 (Kd.N_reads' hn11).2.1
    rw [if_pos HG.out] at HR3
    have HRR := Lib.hid HR3
    have HZ11 := Lib.hid hz11
    have HV11 := Lib.hid hv11
    have HN11 := Lib.hid hn11
    have HB11 := Lib.hid hb11
    clear HR3 hp11 hz11 hv11 hn11 hb11 HR2 HR
    have x0 := (blk_cell HP11.out 0).trans rfl
    have x1 := (blk_cell HP11.out 1).trans rfl
    have x2 := (blk_cell HP11.out 2).trans rfl
    have x3 := (blk_cell HP11.out 3).trans rfl
    have x4 := (blk_cell HP11.out 4).trans rfl
    have x5 := (blk_cell HP11.out 5).trans rfl
    have x6 := (blk_cell HP11.out 6).trans rfl
    have x7 := (blk_cell HP11.out 7).trans rfl
    have x8 := (blk_cell HP11.out 8).trans rfl
    have x9 := (blk_cell HP11.out 9).trans rfl
    go_wp2_with fail
    refine HRR.out.mono ?_
    rintro e w12 ⟨rfl, hb12⟩
    have HP12 : Hid (w12.heap[bp]? = some (.cells #[.int .i64 a0, .int .u32 a1, .int .i64 a2, .int .i64 a3, .int .u32 a4, .int .u32 a5, .int .u32 a6, .int .u32 by_, .slice A7 l8.length c7, .slice A6 (opPut l9 82 b).length c6] 28 (0, 0))) := (hb12.block bp (blk_lt HP11.out)).trans HP11.out
    have HZ12 : Hid (w12.heap[br]? = some (.cells pkNil 28 (0, 0))) := (hb12.block br (blk_lt HZ11.out)).trans HZ11.out
    have HV12 := Lib.hid (Kd.R_below HV11.out hb12)
    have HN12 := Lib.hid (Kd.N_below HN11.out hb12)
    have HB12 := Lib.hid (HB11.out.trans (hb12.mono HB11.out.size))
    clear hb12 x0 x1 x2 x3 x4 x5 x6 x7 x8 x9
    have y0 := (blk_cell HP12.out 0).trans rfl
    have y1 := (blk_cell HP12.out 1).trans rfl
    have y2 := (blk_cell HP12.out 2).trans rfl
    have y3 := (blk_cell HP12.out 3).trans rfl
    have y4 := (blk_cell HP12.out 4).trans rfl
    have y5 := (blk_cell HP12.out 5).trans rfl
    have y6 := (blk_cell HP12.out 6).trans rfl
    have y7 := (blk_cell HP12.out 7).trans rfl
    have y8 := (blk_cell HP12.out 8).trans rfl
    have y9 := (blk_cell HP12.out 9).trans rfl
    have u0_ := (blk_cell HZ12.out 0).trans rfl
    have f0_ := blk_frozen HZ12.out 0
    have u1_ := (blk_cell HZ12.out 1).trans rfl
    have f1_ := blk_frozen HZ12.out 1
    have u2_ := (blk_cell HZ12.out 2).trans rfl
    have f2_ := blk_frozen HZ12.out 2
    have u3_ := (blk_cell HZ12.out 3).trans rfl
    have f3_ := blk_frozen HZ12.out 3
    have u4_ := (blk_cell HZ12.out 4).trans rfl
    have f4_ := blk_frozen HZ12.out 4
    have u5_ := (blk_cell HZ12.out 5).trans rfl
    have f5_ := blk_frozen HZ12.out 5
    have u6_ := (blk_cell HZ12.out 6).trans rfl
    have f6_ := blk_frozen HZ12.out 6
    have u7_ := (blk_cell HZ12.out 7).trans rfl
    have f7_ := blk_frozen HZ12.out 7
    have u8_ := (blk_cell HZ12.out 8).trans rfl
    have f8_ := blk_frozen HZ12.out 8
    have u9_ := (blk_cell HZ12.out 9).trans rfl
    have f9_ := blk_frozen HZ12.out 9
    cases rt with
    | false =>
      go_wp2_with fail
      refine add_ret rfl rfl (pk_set HZ12.out _ _ _ _ _ _ _ _ _ _) ?_
      exact ⟨rfl, pk_below HB12.out (by have := HBP.out; omega) _ _ _ _ _ _ _ _ _ _⟩
    | true =>
      go_wp2_with fail
      have hbr : br < W2.heap.size := HBRW.out
      have hs6 := HS6.out
      refine add_ret rfl rfl (pk_set HZ12.out _ _ _ _ _ _ _ _ _ _) ?_
      have hs2 := HS2.out
      refine ⟨A7, c7, A6, c6, rfl, ?_, ?_, pk_below HB12.out (by have := HBP.out; omega) _ _ _ _ _ _ _ _ _ _⟩
      · exact Kd.R_mono (Kd.R_lower (Kd.R_move (Kd.R_bound HV12.out) (fun k hk => pk_far (by have := hk.2.1; omega) _ _ _ _ _ _ _ _ _ _)) (by omega)) (fun _ _ => trivial)
      · exact Kd.N_lower (Kd.N_mono (Kd.N_step HN12.out (fun k hk _ => pk_far hk.2 _ _ _ _ _ _ _ _ _ _)) (fun k hk => hk.1.1)) hs2
  · have q3 : (a7 == 0) = false := beq_eq_false_iff_ne.2 hg
    have i7 := (blk_cell hp10 7).trans rfl
    obtain ⟨w11, hw11⟩ : ∃ W, w10 = W := ⟨_, rfl⟩
    rw [hw11] at hp10 hz10 hv10 hn10 hb10 i7 ⊢
    clear hw11
    have HQ := Lib.hid (And.intro hp10 (And.intro hz10 (And.intro hv10 (And.intro hn10 hb10))))
    have HG := Lib.hid hg
    clear hp10 hz10 hv10 hn10 hb10 hg
    go_upto_region 12 with fail
    clear i7
    obtain ⟨hp11, hz11, hv11, hn11, hb11⟩ := HQ.out
    clear HQ
    have HP11 : Hid (w11.heap[bp]? = some (.cells #[.int .i64 a0, .int .u32 a1, .int .i64 a2, .int .i64 a3, .int .u32 a4, .int .u32 a5, .int .u32 a6, .int .u32 a7, .slice A7 l8.length c7, .slice A6 (opPut l9 82 b).length c6] 28 (0, 0))) := hp11
    have HR3 := HR2.out w11 A7 c7 A6 c6 hb11 (Kd.R_reads' hv11).2.2 (Kd.R_reads' hv11).2.1 (Kd.N_reads' hn11).2.2 (Kd.N_reads' hn11).2.1
    rw [if_neg HG.out] at HR3
    have HRR := Lib.hid HR3
    have HZ11 := Lib.hid hz11
    have HV11 := Lib.hid hv11
    have HN11 := Lib.hid hn11
    have HB11 := Lib.hid hb11
    clear HR3 hp11 hz11 hv11 hn11 hb11 HR2 HR
    have x0 := (blk_cell HP11.out 0).trans rfl
    have x1 := (blk_cell HP11.out 1).trans rfl
    have x2 := (blk_cell HP11.out 2).trans rfl
    have x3 := (blk_cell HP11.out 3).trans rfl
    have x4 := (blk_cell HP11.out 4).trans rfl
    have x5 := (blk_cell HP11.out 5).trans rfl
    have x6 := (blk_cell HP11.out 6).trans rfl
    have x7 := (blk_cell HP11.out 7).trans rfl
    have x8 := (blk_cell HP11.out 8).trans rfl
    have x9 := (blk_cell HP11.out 9).trans rfl
    go_wp2_with fail
    refine HRR.out.mono ?_
    rintro e w12 ⟨rfl, hb12⟩
    have HP12 : Hid (w12.heap[bp]? = some (.cells #[.int .i64 a0, .int .u32 a1, .int .i64 a2, .int .i64 a3, .int .u32 a4, .int .u32 a5, .int .u32 a6, .int .u32 a7, .slice A7 l8.length c7, .slice A6 (opPut l9 82 b).length c6] 28 (0, 0))) := (hb12.block bp (blk_lt HP11.out)).trans HP11.out
    have HZ12 : Hid (w12.heap[br]? = some (.cells pkNil 28 (0, 0))) := (hb12.block br (blk_lt HZ11.out)).trans HZ11.out
    have HV12 := Lib.hid (Kd.R_below HV11.out hb12)
    have HN12 := Lib.hid (Kd.N_below HN11.out hb12)
    have HB12 := Lib.hid (HB11.out.trans (hb12.mono HB11.out.size))
    clear hb12 x0 x1 x2 x3 x4 x5 x6 x7 x8 x9
    have y0 := (blk_cell HP12.out 0).trans rfl
    have y1 := (blk_cell HP12.out 1).trans rfl
    have y2 := (blk_cell HP12.out 2).trans rfl
    have y3 := (blk_cell HP12.out 3).trans rfl
    have y4 := (blk_cell HP12.out 4).trans rfl
    have y5 := (blk_cell HP12.out 5).trans rfl
    have y6 := (blk_cell HP12.out 6).trans rfl
    have y7 := (blk_cell HP12.out 7).trans rfl
    have y8 := (blk_cell HP12.out 8).trans rfl
    have y9 := (blk_cell HP12.out 9).trans rfl
    have u0_ := (blk_cell HZ12.out 0).trans rfl
    have f0_ := blk_frozen HZ12.out 0
    have u1_ := (blk_cell HZ12.out 1).trans rfl
    have f1_ := blk_frozen HZ12.out 1
    have u2_ := (blk_cell HZ12.out 2).trans rfl
    have f2_ := blk_frozen HZ12.out 2
    have u3_ := (blk_cell HZ12.out 3).trans rfl
    have f3_ := blk_frozen HZ12.out 3
    have u4_ := (blk_cell HZ12.out 4).trans rfl
    have f4_ := blk_frozen HZ12.out 4
    have u5_ := (blk_cell HZ12.out 5).trans rfl
    have f5_ := blk_frozen HZ12.out 5
    have u6_ := (blk_cell HZ12.out 6).trans rfl
    have f6_ := blk_frozen HZ12.out 6
    have u7_ := (blk_cell HZ12.out 7).trans rfl
    have f7_ := blk_frozen HZ12.out 7
    have u8_ := (blk_cell HZ12.out 8).trans rfl
    have f8_ := blk_frozen HZ12.out 8
    have u9_ := (blk_cell HZ12.out 9).trans rfl
    have f9_ := blk_frozen HZ12.out 9
    cases rt with
    | false =>
      go_wp2_with fail
      refine add_ret rfl rfl (pk_set HZ12.out _ _ _ _ _ _ _ _ _ _) ?_
      exact ⟨rfl, pk_below HB12.out (by have := HBP.out; omega) _ _ _ _ _ _ _ _ _ _⟩
    | true =>
      go_wp2_with fail
      have hbr : br < W2.heap.size := HBRW.out
      have hs6 := HS6.out
      refine add_ret rfl rfl (pk_set HZ12.out _ _ _ _ _ _ _ _ _ _) ?_
      have hs2 := HS2.out
      refine ⟨A7, c7, A6, c6, rfl, ?_, ?_, pk_below HB12.out (by have := HBP.out; omega) _ _ _ _ _ _ _ _ _ _⟩
      · exact Kd.R_mono (Kd.R_lower (Kd.R_move (Kd.R_bound HV12.out) (fun k hk => pk_far (by have := hk.2.1; omega) _ _ _ _ _ _ _ _ _ _)) (by omega)) (fun _ _ => trivial)
      · exact Kd.N_lower (Kd.N_mono (Kd.N_step HN12.out (fun k hk _ => pk_far hk.2 _ _ _ _ _ _ _ _ _ _)) (fun k hk => hk.1.1)) hs2
end Go.Proofs.Ytnkajghemggaaaa
end

section
-- written by a program of this session (wip/tools/gen.py) over the kit's print
namespace Go.Proofs.Ytnkajghemggaaaa.Pr
open Go.RowKit Go.Proofs.YtnkajghemggaaaaW.PrintWords Go.Proofs.YtnkajghemggaaaaW.PrintLast Go.Proofs.YtnkajghemggaaaaW.PrintMore
attribute [local go_sem] max2_int min2_int max_two min_two max_three min_three max_four min_four   -- for this text's walks alone
set_option linter.unusedVariables false
set_option linter.unusedSimpArgs false

/-! ### option_Encode_1: function 51 -/
def option_Encode_1.f (a0_0 : Int) (l0_1 : List Int) : Option (Bool) := if a0_0 ≤ 0 then (some true) else (if a0_0 ≥ 255 then (some true) else (some (decide ((l0_1.length : Int) > 255))))
set_option maxHeartbeats 8000000 in
set_option maxRecDepth 100000 in
theorem option_Encode_1.calls (a0_0 : Int) (A0_1 : Option Addr) (c0_1 : Nat) (l0_1 : List Int) (r : Bool) (w : World) (hr0_1 : Kd.C (Kd.int .u8) w A0_1 l0_1.length l0_1) (hc0_1 : l0_1.length ≤ c0_1) (h : option_Encode_1.f a0_0 l0_1 = some r) :
    Calls Try.prog 51 #[.agg #[.int .i64 a0_0, .slice A0_1 l0_1.length c0_1]] w fun e w' => e = .returned (.bool r) ∧ Below w.heap.size w w' := by
  have hu48 := Try.underlying48
  have HR0_1 := Aside0.mk hr0_1
  have HC0_1 := Aside0.mk hc0_1
  clear hr0_1 hc0_1
  have HB := Aside0.mk (Below.refl w.heap.size w)
  have H : (if a0_0 ≤ 0 then (some true) else (if a0_0 ≥ 255 then (some true) else (some (decide ((l0_1.length : Int) > 255))))) = some r := h
  clear h
  by_cases c2 : a0_0 ≤ 0
  · rw [if_pos c2] at H
    have c2b0 : decide (a0_0 ≤ 0) = true := decide_eq_true c2
    clear c2
    obtain rfl := Option.some.inj H
    go_enter Try.func51, Try.ntmps51
    go_wp2_with (first | ((with_reducible refine gate_dst (N := 1) rfl ?_); (try (refine gate_guard (by rfl) ?_; dsimp only)); refine box_event ?hg_1 (N := 1) ?hd_1 (cs := #[.int .i64 a0_0, .slice A0_1 l0_1.length c0_1]) (t := 48) ?hr_1 ?_; (case hd_1 => rfl); (case hg_1 => rfl); (case hr_1 => first | (go_simp; done) | (go_simp; rfl)); intro gb101 hg w3 hbox hb; have n0_ := Aside0.mk (below_step (by repeat (first | (with_reducible first | exact HB.out | apply below_alloc | apply pw_below_drewN | apply below_drew1) | exact HB.out)) hb); have n1_ := Aside0.mk (hbox); have n2_ := Aside0.mk ((by rw [hg]; exact (below_size (by repeat (first | (with_reducible first | exact HB.out | apply below_alloc | apply pw_below_drewN | apply below_drew1) | exact HB.out))) : w.heap.size ≤ gb101)); have n3_ := Aside0.mk ((by rw [hg]; exact (below_size (by repeat (first | (with_reducible first | exact HB.out | apply below_alloc | apply pw_below_drewN | apply below_drew1) | exact HB.out))) : w.heap.size ≤ gb101)); clear HB; have HB := n0_; have BK101 := n1_; have GW101 := n2_; have GE101 := n3_; clear n0_ n1_ n2_ n3_; clear hb hbox hg; have hcz4_0 : w3.cell? ⟨gb101, 0, none⟩ = some (.int .i64 a0_0) := (blk_cell BK101.out 0).trans rfl; have hcz4_1 : w3.cell? ⟨gb101, 1, none⟩ = some (.slice A0_1 l0_1.length c0_1) := (blk_cell BK101.out 1).trans rfl; have hfz4_0 := blk_frozen BK101.out 0; have hfz4_1 := blk_frozen BK101.out 1))
    go_ret
    exact ⟨by first | rfl | (simp [errW_none, errW_some] <;> rfl) | (simp [*, errW_none, errW_some] <;> rfl), by repeat (first | (with_reducible first | exact HB.out | apply below_alloc | apply pw_below_drewN | apply below_drew1 | refine below_set ?_ GE101.out) | exact HB.out)⟩
  · rw [if_neg c2] at H
    have c2b0 : decide (a0_0 ≤ 0) = false := decide_eq_false c2
    clear c2
    by_cases c5 : a0_0 ≥ 255
    · rw [if_pos c5] at H
      have c5b0 : decide (255 ≤ a0_0) = true := decide_eq_true c5
      clear c5
      obtain rfl := Option.some.inj H
      go_enter Try.func51, Try.ntmps51
      go_wp2_with (first | ((with_reducible refine gate_dst (N := 1) rfl ?_); (try (refine gate_guard (by rfl) ?_; dsimp only)); refine box_event ?hg_2 (N := 1) ?hd_2 (cs := #[.int .i64 a0_0, .slice A0_1 l0_1.length c0_1]) (t := 48) ?hr_2 ?_; (case hd_2 => rfl); (case hg_2 => rfl); (case hr_2 => first | (go_simp; done) | (go_simp; rfl)); intro gb101 hg w6 hbox hb; have n0_ := Aside0.mk (below_step (by repeat (first | (with_reducible first | exact HB.out | apply below_alloc | apply pw_below_drewN | apply below_drew1) | exact HB.out)) hb); have n1_ := Aside0.mk (hbox); have n2_ := Aside0.mk ((by rw [hg]; exact (below_size (by repeat (first | (with_reducible first | exact HB.out | apply below_alloc | apply pw_below_drewN | apply below_drew1) | exact HB.out))) : w.heap.size ≤ gb101)); have n3_ := Aside0.mk ((by rw [hg]; exact (below_size (by repeat (first | (with_reducible first | exact HB.out | apply below_alloc | apply pw_below_drewN | apply below_drew1) | exact HB.out))) : w.heap.size ≤ gb101)); clear HB; have HB := n0_; have BK101 := n1_; have GW101 := n2_; have GE101 := n3_; clear n0_ n1_ n2_ n3_; clear hb hbox hg; have hcz7_0 : w6.cell? ⟨gb101, 0, none⟩ = some (.int .i64 a0_0) := (blk_cell BK101.out 0).trans rfl; have hcz7_1 : w6.cell? ⟨gb101, 1, none⟩ = some (.slice A0_1 l0_1.length c0_1) := (blk_cell BK101.out 1).trans rfl; have hfz7_0 := blk_frozen BK101.out 0; have hfz7_1 := blk_frozen BK101.out 1))
      go_ret
      exact ⟨by first | rfl | (simp [errW_none, errW_some] <;> rfl) | (simp [*, errW_none, errW_some] <;> rfl), by repeat (first | (with_reducible first | exact HB.out | apply below_alloc | apply pw_below_drewN | apply below_drew1 | refine below_set ?_ GE101.out) | exact HB.out)⟩
    · rw [if_neg c5] at H
      have c5b0 : decide (255 ≤ a0_0) = false := decide_eq_false c5
      clear c5
      obtain rfl := Option.some.inj H
      go_enter Try.func51, Try.ntmps51
      go_wp2_with (first | ((with_reducible refine gate_dst (N := 1) rfl ?_); (try (refine gate_guard (by rfl) ?_; dsimp only)); refine box_event ?hg_3 (N := 1) ?hd_3 (cs := #[.int .i64 a0_0, .slice A0_1 l0_1.length c0_1]) (t := 48) ?hr_3 ?_; (case hd_3 => rfl); (case hg_3 => rfl); (case hr_3 => first | (go_simp; done) | (go_simp; rfl)); intro gb101 hg w8 hbox hb; have n0_ := Aside0.mk (below_step (by repeat (first | (with_reducible first | exact HB.out | apply below_alloc | apply pw_below_drewN | apply below_drew1) | exact HB.out)) hb); have n1_ := Aside0.mk (hbox); have n2_ := Aside0.mk ((by rw [hg]; exact (below_size (by repeat (first | (with_reducible first | exact HB.out | apply below_alloc | apply pw_below_drewN | apply below_drew1) | exact HB.out))) : w.heap.size ≤ gb101)); have n3_ := Aside0.mk ((by rw [hg]; exact (below_size (by repeat (first | (with_reducible first | exact HB.out | apply below_alloc | apply pw_below_drewN | apply below_drew1) | exact HB.out))) : w.heap.size ≤ gb101)); clear HB; have HB := n0_; have BK101 := n1_; have GW101 := n2_; have GE101 := n3_; clear n0_ n1_ n2_ n3_; clear hb hbox hg; have hcz9_0 : w8.cell? ⟨gb101, 0, none⟩ = some (.int .i64 a0_0) := (blk_cell BK101.out 0).trans rfl; have hcz9_1 : w8.cell? ⟨gb101, 1, none⟩ = some (.slice A0_1 l0_1.length c0_1) := (blk_cell BK101.out 1).trans rfl; have hfz9_0 := blk_frozen BK101.out 0; have hfz9_1 := blk_frozen BK101.out 1))
      go_ret
      exact ⟨by first | rfl | (simp [errW_none, errW_some] <;> rfl) | (simp [*, errW_none, errW_some] <;> rfl), by repeat (first | (with_reducible first | exact HB.out | apply below_alloc | apply pw_below_drewN | apply below_drew1 | refine below_set ?_ GE101.out) | exact HB.out)⟩

end Go.Proofs.Ytnkajghemggaaaa.Pr
end

section
-- written by a program of this session (wip/tools/gen.py) over the kit's print
namespace Go.Proofs.Ytnkajghemggaaaa.Pr
open Go.RowKit Go.Proofs.YtnkajghemggaaaaW.PrintWords Go.Proofs.YtnkajghemggaaaaW.PrintLast Go.Proofs.YtnkajghemggaaaaW.PrintMore
attribute [local go_sem] max2_int min2_int max_two min_two max_three min_three max_four min_four   -- for this text's walks alone
set_option linter.unusedVariables false
set_option linter.unusedSimpArgs false

/-! ### slices_IndexFuncO: function 40 -/
def slices_IndexFuncO.l0 : Nat → List (S48) → Int → Int → Option (Int)
  | 0, _, _, _ => none
  | k + 1, x0, x7, x8 => if x8 < x7 then (if 0 ≤ x8 then (if x8 < (x0.length : Int) then ((option_Encode_1.f ((rd_T48 x0 x8).f0) ((rd_T48 x0 x8).f1)).bind fun t103 => (if t103 = true then (some x8) else (slices_IndexFuncO.l0 k x0 x7 (wrap64 (x8 + 1))))) else (none)) else (none)) else (some (-1))
def slices_IndexFuncO.f (k : Nat) (l0 : List (S48)) (a1 : Int) : Option (Int) := slices_IndexFuncO.l0 k l0 (l0.length : Int) 0
theorem slices_IndexFuncO.mono_l : ∀ k, (∀ y0 y1 y2, LeO (slices_IndexFuncO.l0 k y0 y1 y2) (slices_IndexFuncO.l0 (k + 1) y0 y1 y2))
  | 0 => fun _ _ _ r h => by simp [slices_IndexFuncO.l0] at h
  | k + 1 => by
    have ih0 := slices_IndexFuncO.mono_l k
    · intro y0 y1 y2
      unfold slices_IndexFuncO.l0
      repeat' first
      | (with_reducible exact ih0 _ _ _)
      | (with_reducible exact LeO.refl _)
      | (with_reducible exact LeO.none _)
      | (with_reducible refine LeO.ite ?_ ?_)
      | (with_reducible refine LeO.bind ?_ (fun _ => ?_))
      | exact ih0 _ _ _
      | exact LeO.none _
      | refine LeO.ite ?_ ?_
      | refine LeO.bind ?_ (fun _ => ?_)
theorem slices_IndexFuncO.mono : ∀ a0 a1 k, LeO (slices_IndexFuncO.f k a0 a1) (slices_IndexFuncO.f (k + 1) a0 a1) := by
  intro a0 a1 k
  have ih0 := slices_IndexFuncO.mono_l k
  unfold slices_IndexFuncO.f
  repeat' first
      | (with_reducible exact ih0 _ _ _)
      | (with_reducible exact LeO.refl _)
      | (with_reducible exact LeO.none _)
      | (with_reducible refine LeO.ite ?_ ?_)
      | (with_reducible refine LeO.bind ?_ (fun _ => ?_))
      | exact ih0 _ _ _
      | exact LeO.none _
      | refine LeO.ite ?_ ?_
      | refine LeO.bind ?_ (fun _ => ?_)
set_option maxHeartbeats 8000000 in
set_option maxRecDepth 100000 in
theorem slices_IndexFuncO.calls (k : Nat) (A0 : Option Addr) (c0 : Nat) (l0 : List (S48)) (a1 : Int) (r : Int) (w : World) (hr0 : Kd.C k48 w A0 l0.length l0) (hc0 : l0.length ≤ c0) (h : slices_IndexFuncO.f k l0 a1 = some r) :
    Calls Try.prog 40 #[.slice A0 l0.length c0, .func (.func 51) #[] #[]] w fun e w' => e = .returned (.int .i64 r) ∧ Below w.heap.size w w' := by
  have hu48 := Try.underlying48
  have HR0 := Aside0.mk hr0
  have HC0 := Aside0.mk hc0
  clear hr0 hc0
  have HB := Aside0.mk (Below.refl w.heap.size w)
  have H : (slices_IndexFuncO.l0 k l0 (l0.length : Int) 0) = some r := h
  clear h
  have H' := Aside0.mk H
  clear H
  go_enter Try.func40, Try.ntmps40
  go_wp2
  go_loopg [8] k (fun kq v8 w' => ∃ (x8_1 : Int), v8 = .int .i64 x8_1 ∧ Aside0 (slices_IndexFuncO.l0 kq l0 (l0.length : Int) x8_1 = some r) ∧ Aside0 (kq ≤ k) ∧ Aside0 (Below w.heap.size w w'))
  case atStart => exact ⟨(0), (by first | rfl | (simp; done) | (simp [*]; done)), H', ⟨Nat.le_refl _⟩, ⟨by repeat (first | (with_reducible first | exact HB.out | apply below_alloc | apply pw_below_drewN | apply below_drew1) | exact HB.out)⟩⟩
  case round =>
    clear H'
    try clear p2
    obtain ⟨x8_1, rfl, HA, HK1, HB⟩ := hrel
    cases gk with
    | zero => exact absurd HA.out (by simp [slices_IndexFuncO.l0])
    | succ k1 =>
      have H := HA.out
      clear HA
      simp only [slices_IndexFuncO.l0] at H
      by_cases c3 : x8_1 < (l0.length : Int)
      · rw [if_pos c3] at H
        have c3b0 : decide (x8_1 < (l0.length : Int)) = true := decide_eq_true c3
        clear c3
        by_cases c4 : 0 ≤ x8_1
        · rw [if_pos c4] at H
          have c4b0 : decide (0 ≤ x8_1) = true := decide_eq_true c4
          clear c4
          by_cases c5 : x8_1 < (l0.length : Int)
          · rw [if_pos c5] at H
            have c5b0 : decide (x8_1 < (l0.length : Int)) = true := decide_eq_true c5
            clear c5
            replace H := Option.bind_eq_some_iff.mp H
            obtain ⟨t103, A60, H⟩ := H
            replace H : (if t103 = true then (some x8_1) else (slices_IndexFuncO.l0 k1 l0 (l0.length : Int) (wrap64 (x8_1 + 1)))) = some r := H
            have A6 := Aside0.mk A60
            clear A60
            by_cases c7 : t103 = true
            · subst c7
              have H1 : (some x8_1) = some r := by rw [if_pos rfl] at H; exact H
              clear H
              have H := H1
              clear H1
              obtain rfl := Option.some.inj H
              have p102 : 0 ≤ (x8_1 : Int) := of_decide_eq_true (by first | (with_reducible assumption) | assumption)
              have q102 : x8_1 < (l0.length : Int) := of_decide_eq_true (by first | (with_reducible assumption) | assumption)
              obtain ⟨ad102, A102_1, c102_1, e102, hx102_0, hx102_1, hl102_1, hi102_1⟩ := at_T48 HR0.out x8_1 p102 q102
              cases e102
              replace hx102_0 := (HB.out.cell (World.block_lt_of_cell? w _ hx102_0)).trans hx102_0
              replace hx102_1 := (HB.out.cell (World.block_lt_of_cell? w _ hx102_1)).trans hx102_1
              have HR102_1 := Aside0.mk hi102_1
              have HC102_1 := Aside0.mk hl102_1
              clear hi102_1 hl102_1
              replace p102 := eq_true p102
              replace q102 := eq_true q102
              go_wp2_with (first | (go_at_call 51; (with_reducible refine (option_Encode_1.calls ((rd_T48 l0 x8_1).f0) _ _ ((rd_T48 l0 x8_1).f1) true _ ?side1_1 ?side2_1 A6.out).mono ?_); (case side1_1 => repeat (first | exact (Kd.C_below HR102_1.out HB.out) | exact (Kd.C_below (Aside0.out (by assumption)) HB.out) | (with_reducible refine Kd.C_alloc ?_ _) | (with_reducible refine Kd.C_drewN ?_ _) | (with_reducible refine Kd.C_drew ?_))); (case side2_1 => exact HC102_1.out); rintro e w8 ⟨rfl, hb⟩; have n0_ := Aside0.mk (below_step (by repeat (first | (with_reducible first | exact HB.out | apply below_alloc | apply pw_below_drewN | apply below_drew1) | exact HB.out)) hb); clear HB; have HB := n0_; clear n0_; (try clear hb); (try clear hb2); (try clear hk); (try clear hi)))
              go_ret
              exact ⟨by first | rfl | (simp [errW_none, errW_some] <;> rfl) | (simp [*, errW_none, errW_some] <;> rfl), by repeat (first | (with_reducible first | exact HB.out | apply below_alloc | apply pw_below_drewN | apply below_drew1) | exact HB.out)⟩
            · replace c7 := Bool.eq_false_iff.mpr c7
              subst c7
              have H1 : (slices_IndexFuncO.l0 k1 l0 (l0.length : Int) (wrap64 (x8_1 + 1))) = some r := by rw [if_neg (show ¬ (false = true) by decide)] at H; exact H
              clear H
              have H := H1
              clear H1
              have H' := Aside0.mk H
              clear H
              have p102 : 0 ≤ (x8_1 : Int) := of_decide_eq_true (by first | (with_reducible assumption) | assumption)
              have q102 : x8_1 < (l0.length : Int) := of_decide_eq_true (by first | (with_reducible assumption) | assumption)
              obtain ⟨ad102, A102_1, c102_1, e102, hx102_0, hx102_1, hl102_1, hi102_1⟩ := at_T48 HR0.out x8_1 p102 q102
              cases e102
              replace hx102_0 := (HB.out.cell (World.block_lt_of_cell? w _ hx102_0)).trans hx102_0
              replace hx102_1 := (HB.out.cell (World.block_lt_of_cell? w _ hx102_1)).trans hx102_1
              have HR102_1 := Aside0.mk hi102_1
              have HC102_1 := Aside0.mk hl102_1
              clear hi102_1 hl102_1
              replace p102 := eq_true p102
              replace q102 := eq_true q102
              go_wp2_with (first | (go_at_call 51; (with_reducible refine (option_Encode_1.calls ((rd_T48 l0 x8_1).f0) _ _ ((rd_T48 l0 x8_1).f1) false _ ?side1_2 ?side2_2 A6.out).mono ?_); (case side1_2 => repeat (first | exact (Kd.C_below HR102_1.out HB.out) | exact (Kd.C_below (Aside0.out (by assumption)) HB.out) | (with_reducible refine Kd.C_alloc ?_ _) | (with_reducible refine Kd.C_drewN ?_ _) | (with_reducible refine Kd.C_drew ?_))); (case side2_2 => exact HC102_1.out); rintro e w9 ⟨rfl, hb⟩; have n0_ := Aside0.mk (below_step (by repeat (first | (with_reducible first | exact HB.out | apply below_alloc | apply pw_below_drewN | apply below_drew1) | exact HB.out)) hb); clear HB; have HB := n0_; clear n0_; (try clear hb); (try clear hb2); (try clear hk); (try clear hi)))
              go_roundg k1
              case measure => have := HK1.out; omega
              case rel => exact ⟨(wrap64 (x8_1 + 1)), (by first | rfl | (simp; done) | (simp [*]; done)), H', ⟨by have := HK1.out; omega⟩, ⟨by repeat (first | (with_reducible first | exact HB.out | apply below_alloc | apply pw_below_drewN | apply below_drew1) | exact HB.out)⟩⟩
          · rw [if_neg c5] at H
            exact absurd H (by simp)
        · rw [if_neg c4] at H
          exact absurd H (by simp)
      · rw [if_neg c3] at H
        have c3b0 : decide (x8_1 < (l0.length : Int)) = false := decide_eq_false c3
        clear c3
        obtain rfl := Option.some.inj H
        go_wp2
        go_ret
        exact ⟨by first | rfl | (simp [errW_none, errW_some] <;> rfl) | (simp [*, errW_none, errW_some] <;> rfl), by repeat (first | (with_reducible first | exact HB.out | apply below_alloc | apply pw_below_drewN | apply below_drew1) | exact HB.out)⟩

end Go.Proofs.Ytnkajghemggaaaa.Pr
end

section
-- written by a program of this session (wip/tools/gen.py) over the kit's print
namespace Go.Proofs.Ytnkajghemggaaaa.Pr
open Go.RowKit Go.Proofs.YtnkajghemggaaaaW.PrintWords Go.Proofs.YtnkajghemggaaaaW.PrintLast Go.Proofs.YtnkajghemggaaaaW.PrintMore
attribute [local go_sem] max2_int min2_int max_two min_two max_three min_three max_four min_four   -- for this text's walks alone
set_option linter.unusedVariables false
set_option linter.unusedSimpArgs false

/-! ### slices_ContainsFuncO: function 26 -/
def slices_ContainsFuncO.f (k : Nat) (l0 : List (S48)) (a1 : Int) : Option (Bool) := (slices_IndexFuncO.f k l0 a1).bind fun t104 => (some (decide (t104 ≥ 0)))
theorem slices_ContainsFuncO.mono : ∀ a0 a1 k, LeO (slices_ContainsFuncO.f k a0 a1) (slices_ContainsFuncO.f (k + 1) a0 a1) := by
  intro a0 a1 k
  unfold slices_ContainsFuncO.f
  repeat' first
      | (with_reducible exact slices_IndexFuncO.mono _ _ _)
      | (with_reducible exact LeO.refl _)
      | (with_reducible exact LeO.none _)
      | (with_reducible refine LeO.ite ?_ ?_)
      | (with_reducible refine LeO.bind ?_ (fun _ => ?_))
      | exact slices_IndexFuncO.mono _ _ _
      | exact LeO.none _
      | refine LeO.ite ?_ ?_
      | refine LeO.bind ?_ (fun _ => ?_)
set_option maxHeartbeats 8000000 in
set_option maxRecDepth 100000 in
theorem slices_ContainsFuncO.calls (k : Nat) (A0 : Option Addr) (c0 : Nat) (l0 : List (S48)) (a1 : Int) (r : Bool) (w : World) (hr0 : Kd.C k48 w A0 l0.length l0) (hc0 : l0.length ≤ c0) (h : slices_ContainsFuncO.f k l0 a1 = some r) :
    Calls Try.prog 26 #[.slice A0 l0.length c0, .func (.func 51) #[] #[]] w fun e w' => e = .returned (.bool r) ∧ Below w.heap.size w w' := by
  have HR0 := Aside0.mk hr0
  have HC0 := Aside0.mk hc0
  clear hr0 hc0
  have HB := Aside0.mk (Below.refl w.heap.size w)
  have H : ((slices_IndexFuncO.f k l0 a1).bind fun t104 => (some (decide (t104 ≥ 0)))) = some r := h
  clear h
  replace H := Option.bind_eq_some_iff.mp H
  obtain ⟨t104, A30, H⟩ := H
  replace H : (some (decide (t104 ≥ 0))) = some r := H
  have A3 := Aside0.mk A30
  clear A30
  obtain rfl := Option.some.inj H
  go_enter Try.func26, Try.ntmps26
  go_wp2_with (first | ((with_reducible refine gate_callee (f := 40) rfl ?_); refine goesL_ (some 7) rfl rfl Try.func40 (by kernel_rfl) rfl #[.slice A0 l0.length c0, .func (.func 51) #[] #[]] rfl (by (try simp only [List.map_toArray, List.map_cons, List.map_nil]); first | done | rfl | (simp only [List.length_drop, List.length_take]; rfl)) ?_; (with_reducible refine (slices_IndexFuncO.calls k _ _ l0 a1 t104 _ ?side1_1 ?side2_1 A3.out).mono ?_); (case side1_1 => repeat (first | exact HR0.out | (with_reducible refine Kd.C_alloc ?_ _) | (with_reducible refine Kd.C_drewN ?_ _) | (with_reducible refine Kd.C_drew ?_))); (case side2_1 => exact HC0.out); rintro e w4 ⟨rfl, hb⟩; refine ⟨_, rfl, ?_⟩; have n0_ := Aside0.mk (below_step (by repeat (first | (with_reducible first | exact HB.out | apply below_alloc | apply pw_below_drewN | apply below_drew1) | exact HB.out)) hb); clear HB; have HB := n0_; clear n0_; (try clear hb); (try clear hb2); (try clear hk); (try clear hi)))
  go_ret
  exact ⟨by first | rfl | (simp [errW_none, errW_some] <;> rfl) | (simp [*, errW_none, errW_some] <;> rfl), by repeat (first | (with_reducible first | exact HB.out | apply below_alloc | apply pw_below_drewN | apply below_drew1) | exact HB.out)⟩

end Go.Proofs.Ytnkajghemggaaaa.Pr
end
