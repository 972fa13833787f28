/-
  NetApart: what is done on the way to one turns nothing of what is on the way to the other one. No condition.
-/
import Derived.Test.YtokcplapbjhnoaaHNetA
import Derived.Test.YtokcplapbjhnoaaNtSim
namespace Go.Proofs.Ytokcplapbjhnoaa
open Go.RowKit Go.Proofs.Ytokcplapbjhnoaa.Pr Go.Proofs.YtokcplapbjhnoaaW.PrintWords Go.Proofs.YtokcplapbjhnoaaW.PrintLast Go.Proofs.YtokcplapbjhnoaaW.PrintMore
attribute [local go_sem] max2_int min2_int max_two min_two max_three min_three max_four min_four
set_option linter.unusedVariables false
set_option linter.unusedSimpArgs false

set_option maxHeartbeats 8000000 in
set_option maxRecDepth 100000 in
theorem NetApart_calls (A : Option Addr) (c : Nat) (l : List NsE) (A' : Option Addr) (c' : Nat) (l' : List NsE) (w : World) (hC : Kd.C k40 w A l.length l) (hc : l.length ≤ c) (hl : l.length ≤ 9223372036854775807) (hC' : Kd.C k40 w A' l'.length l') (hc' : l'.length ≤ c') :
    Calls Try.prog 6 #[.slice A l.length c, .slice A' l'.length c'] w fun e w' => e = .returned (.bool true) ∧ Below w.heap.size w w' := by
  have HC := Lib.hid hC
  have HC' := Lib.hid hC'
  clear hC hC'
  go_enter Try.func6, Try.ntmps6
  go_upto_region 2 with (go_at_call 7; refine (nawake_calls _).mono ?_; rintro e w1 ⟨rfl, b1⟩; have B1 := Lib.hid b1; clear b1)
  go_upto_region 3 with (go_at_call 8; refine (net_New_ok 50 _ (by decide) (by decide)).mono ?_; rintro e wx ⟨rfl, rfl⟩)
  obtain ⟨ga, hga⟩ : ∃ g, w1.heap.size = g := ⟨_, rfl⟩
  obtain ⟨W3, hW3⟩ : ∃ W3, w1.alloc (.cells #[.int .i64 50, .bool false, .slice none 0 0, .slice none 0 0] 49) = W3 := ⟨_, rfl⟩
  have D1 := NtAt.new' 49 5 28 50 w1 W3 ga hga hW3
  have b3 := below_alloc B1.out (.cells #[.int .i64 50, .bool false, .slice none 0 0, .slice none 0 0] 49)
  have s3 : Hid (W3.heap.size = ga + 1) := by show _ = _; rw [← hW3, World.size_alloc, hga]
  have G1 : w.heap.size ≤ ga := by rw [← hga]; exact B1.out.size
  rw [hW3] at b3
  rw [hW3, hga]
  clear hW3 hga B1
  go_upto_region 4 with (go_at_call 8; refine (net_New_ok 50 _ (by decide) (by decide)).mono ?_; rintro e wx ⟨rfl, rfl⟩)
  obtain ⟨gb, hgb⟩ : ∃ g, W3.heap.size = g := ⟨_, rfl⟩
  obtain ⟨W4, hW4⟩ : ∃ W4, W3.alloc (.cells #[.int .i64 50, .bool false, .slice none 0 0, .slice none 0 0] 49) = W4 := ⟨_, rfl⟩
  have D2 := NtAt.new' 49 5 28 50 W3 W4 gb hgb hW4
  have D1 := D1.below (W := W4) (by rw [← hW4]; exact below_alloc (Below.refl _ _) _)
  have b4 := below_alloc b3 (.cells #[.int .i64 50, .bool false, .slice none 0 0, .slice none 0 0] 49)
  have s4 : Hid (W4.heap.size = gb + 1) := by show _ = _; rw [← hW4, World.size_alloc, hgb]
  rw [hW4] at b4
  rw [hW4, hgb]
  have e4 : Hid (gb = ga + 1) := by show _ = _; have := s3.out; omega
  clear hW4 hgb b3
  go_upto_region 6 with fail
  go_upto_region 7 with (go_at_call 14; refine (ref_New_ok 50 _ (by decide) (by decide)).mono ?_; rintro e wx ⟨rfl, rfl⟩)
  obtain ⟨hr, hhr⟩ : ∃ g, W4.heap.size = g := ⟨_, rfl⟩
  obtain ⟨W5, hW5⟩ : ∃ W5, W4.alloc (.cells #[.int .i64 50, .bool false, .slice none 0 0, .slice none 0 0] 57) = W5 := ⟨_, rfl⟩
  have D3 := NtAt.new' 57 5 28 50 W4 W5 hr hhr hW5
  have D1 := D1.below (W := W5) (by rw [← hW5]; exact below_alloc (Below.refl _ _) _)
  have D2 := D2.below (W := W5) (by rw [← hW5]; exact below_alloc (Below.refl _ _) _)
  have b5 := below_alloc b4 (.cells #[.int .i64 50, .bool false, .slice none 0 0, .slice none 0 0] 57)
  have s5 : Hid (W5.heap.size = hr + 1) := by show _ = _; rw [← hW5, World.size_alloc, hhr]
  rw [hW5] at b5
  rw [hW5, hhr]
  have e5 : Hid (hr = gb + 1) := by show _ = _; have := s4.out; omega
  clear hW5 hhr b4
  go_upto_region 8 with (go_at_call 14; refine (ref_New_ok 50 _ (by decide) (by decide)).mono ?_; rintro e wx ⟨rfl, rfl⟩)
  obtain ⟨ht, hht⟩ : ∃ g, W5.heap.size = g := ⟨_, rfl⟩
  obtain ⟨W6, hW6⟩ : ∃ W6, W5.alloc (.cells #[.int .i64 50, .bool false, .slice none 0 0, .slice none 0 0] 57) = W6 := ⟨_, rfl⟩
  have D4 := NtAt.new' 57 5 28 50 W5 W6 ht hht hW6
  have D1 := D1.below (W := W6) (by rw [← hW6]; exact below_alloc (Below.refl _ _) _)
  have D2 := D2.below (W := W6) (by rw [← hW6]; exact below_alloc (Below.refl _ _) _)
  have D3 := D3.below (W := W6) (by rw [← hW6]; exact below_alloc (Below.refl _ _) _)
  have b6 := below_alloc b5 (.cells #[.int .i64 50, .bool false, .slice none 0 0, .slice none 0 0] 57)
  rw [hW6] at b6
  rw [hW6, hht]
  have e6 : Hid (ht = hr + 1) := by show _ = _; have := s5.out; omega
  clear hW6 hht b5
  have EE : ga < gb ∧ gb < hr ∧ hr < ht := ⟨by have := e4.out; omega, by have := e5.out; omega, by have := e6.out; omega⟩
  have FF : Hid (Four W6 ga (fun k => k = ga) hr (fun k => k = hr) (NtS.new 50) gb (fun k => k = gb) ht (fun k => k = ht) (NtS.new 50)) :=
    ⟨⟨D1, D3, fun k h1 h2 => by have e1 : k = ga := h1; have e2 : k = hr := h2; omega⟩, ⟨D2, D4, fun k h1 h2 => by have e1 : k = gb := h1; have e2 : k = ht := h2; omega⟩, fun k h1 h2 => by
      have e1 : k = ga ∨ k = hr := h1
      have e2 : k = gb ∨ k = ht := h2
      omega⟩
  have GA : Hid (∀ k, k = ga ∨ k = hr → w.heap.size ≤ k) := fun k hk => by omega
  have GB : Hid (∀ k, k = gb ∨ k = ht → w.heap.size ≤ k) := fun k hk => by omega
  have B6 := Lib.hid b6
  clear D1 D2 D3 D4 b6 s3 s4 s5 G1 e4 e5 e6 EE
  go_wp2_with fail
  go_loopw [14] (fun i wr => ∃ (k : Nat) (Oa Or Ob Ot : Nat → Prop) (n m : NtS), k ≤ l.length ∧ i = .int .i64 k ∧ Hid (Four wr ga Oa hr Or n gb Ob ht Ot m) ∧ Hid (Sim n m ∧ n.ok ∧ m.ok) ∧ Hid ((∀ k, Oa k ∨ Or k → w.heap.size ≤ k) ∧ ∀ k, Ob k ∨ Ot k → w.heap.size ≤ k) ∧ Hid (Below w.heap.size w wr)) (fun i _ => l.length - (intOf i).toNat)
  case atStart => exact ⟨0, _, _, _, _, _, _, Nat.zero_le _, rfl, FF, ⟨Sim.refl _, NtS.ok_new (by decide) (by decide), NtS.ok_new (by decide) (by decide)⟩, ⟨GA.out, GB.out⟩, B6⟩
  case round =>
    clear FF GA GB B6
    obtain ⟨k, Oa, Or, Ob, Ot, n, m, hk, rfl, HF, HS, HG, HW⟩ := hrel
    by_cases hlt : k < l.length
    · by_cases h100 : k < 100
      · obtain ⟨ad, A4, c4, rfl, hx0, hx1, hx2, hx3, hx4, hxl, hxc⟩ := at_ns HC.out hlt
        obtain ⟨x, hx⟩ : ∃ x, x = l[k] := ⟨_, rfl⟩
        rw [← hx] at hx0 hx1 hx2 hx3 hx4 hxl hxc
        replace hx0 := (HW.out.cell (World.block_lt_of_cell? w _ hx0)).trans hx0
        replace hx1 := (HW.out.cell (World.block_lt_of_cell? w _ hx1)).trans hx1
        replace hx2 := (HW.out.cell (World.block_lt_of_cell? w _ hx2)).trans hx2
        replace hx3 := (HW.out.cell (World.block_lt_of_cell? w _ hx3)).trans hx3
        replace hx4 := (HW.out.cell (World.block_lt_of_cell? w _ hx4)).trans hx4
        have HXC := Lib.hid hxc
        have HXL := Lib.hid hxl
        have p1 : (0 ≤ (k : Int)) = True := eq_true (by omega)
        have p2 : ((k : Int) < (l.length : Int)) = True := eq_true (by omega)
        have p3 : ((k : Int) < 100) = True := eq_true (by omega)
        clear hxc hxl hx
        by_cases q1 : (x.f4.length : Int) > 1000
        · go_wp2_with fail
          go_roundw
          case rel => exact ⟨k + 1, Oa, Or, Ob, Ot, n, m, by omega, by go_num, HF, HS, HG, HW⟩
          case measure => simp [intOf]; omega
        · by_cases q2 : x.f0 < 0
          · go_wp2_with fail
            go_roundw
            case rel => exact ⟨k + 1, Oa, Or, Ob, Ot, n, m, by omega, by go_num, HF, HS, HG, HW⟩
            case measure => simp [intOf]; omega
          · by_cases q3 : x.f0 > 3
            · go_wp2_with fail
              go_roundw
              case rel => exact ⟨k + 1, Oa, Or, Ob, Ot, n, m, by omega, by go_num, HF, HS, HG, HW⟩
              case measure => simp [intOf]; omega
            · go_upto_region 14 with fail
              have hbig : x.f4.length ≤ 1000 := by omega
              have hd0 : 0 ≤ x.f0 := by omega
              have hd3 : x.f0 ≤ 3 := by omega
              have HBIG := Lib.hid hbig
              obtain ⟨bx, hbx⟩ : ∃ bx, wr.heap.size = bx := ⟨_, rfl⟩
              obtain ⟨W7, hW7⟩ : ∃ W7, wr.alloc (.cells #[.int .i64 x.f0, .int .i64 0, .int .i64 x.f2, .bool x.f3, .slice A4 x.f4.length c4] 40) = W7 := ⟨_, rfl⟩
              have X7 : Hid (W7.heap[bx]? = some (.cells #[.int .i64 x.f0, .int .i64 0, .int .i64 x.f2, .bool x.f3, .slice A4 x.f4.length c4] 40 (0, 0))) := by show _ = _; rw [← hW7, ← hbx]; exact blk_new _ _
              have bw : Below wr.heap.size wr W7 := by rw [← hW7]; exact below_alloc (Below.refl _ _) _
              have HF7 := Lib.hid (HF.out.below bw)
              have HW7 := Lib.hid (HW.out.trans (bw.mono HW.out.size))
              have NB : Hid ((∀ k, Oa k ∨ Or k → k ≠ bx) ∧ ∀ k, Ob k ∨ Ot k → k ≠ bx) := ⟨fun k hk e => by have := HF.out.p.lt k hk; omega, fun k hk e => by have := HF.out.q.lt k hk; omega⟩
              have GBX : Hid (w.heap.size ≤ bx) := by show _ ≤ _; rw [← hbx]; exact HW.out.size
              rw [hW7, hbx]
              have e0 : W7.cell? ⟨bx, 0, none⟩ = some (.int .i64 x.f0) := (blk_cell X7.out 0).trans rfl
              have e1 : W7.cell? ⟨bx, 1, none⟩ = some (.int .i64 0) := (blk_cell X7.out 1).trans rfl
              have e2 : W7.cell? ⟨bx, 2, none⟩ = some (.int .i64 x.f2) := (blk_cell X7.out 2).trans rfl
              have e3 : W7.cell? ⟨bx, 3, none⟩ = some (.bool x.f3) := (blk_cell X7.out 3).trans rfl
              have e4 : W7.cell? ⟨bx, 4, none⟩ = some (.slice A4 x.f4.length c4) := (blk_cell X7.out 4).trans rfl
              clear hW7 hbx bw hx0 hx1 hx2 hx3 hx4 hbig HF HW
              go_wp2_with fail
              refine (nstep_calls ga Oa hr Or n x.f0 0 x.f2 x.f3 A4 c4 x.f4 _ HF7.out.p HS.out.2.1 (fun W hW => row_fr HXC.out HW7.out hW HG.out.1) HXL.out HBIG.out).mono ?_
              rintro e w8 ⟨O1, O2, rfl, hn, hf, hO⟩
              have HF8 := Lib.hid (HF7.out.left hn hf hO)
              have G8 := Lib.hid (out2 HW7.out HG.out.1 hf hO)
              have X8 := Lib.hid (hf.blk X7.out (fun hk => NB.out.1 bx hk rfl))
              have NB8 : Hid (∀ k, O1 k ∨ O2 k → k ≠ bx) := fun k hk e => by
                rcases hO k hk with h | h | h
                · exact NB.out.1 k (.inl h) e
                · exact NB.out.1 k (.inr h) e
                · have := blk_lt X7.out; omega
              clear e0 e1 e2 e3 e4 hn hf hO HF7 HW7 X7
              have e0 : w8.cell? ⟨bx, 0, none⟩ = some (.int .i64 x.f0) := (blk_cell X8.out 0).trans rfl
              have e1 : w8.cell? ⟨bx, 1, none⟩ = some (.int .i64 0) := (blk_cell X8.out 1).trans rfl
              have e2 : w8.cell? ⟨bx, 2, none⟩ = some (.int .i64 x.f2) := (blk_cell X8.out 2).trans rfl
              have e3 : w8.cell? ⟨bx, 3, none⟩ = some (.bool x.f3) := (blk_cell X8.out 3).trans rfl
              have e4 : w8.cell? ⟨bx, 4, none⟩ = some (.slice A4 x.f4.length c4) := (blk_cell X8.out 4).trans rfl
              go_wp2_with fail
              refine (nstep_calls gb Ob ht Ot m x.f0 0 x.f2 x.f3 A4 c4 x.f4 _ HF8.out.q HS.out.2.2 (fun W hW => row_fr HXC.out G8.out.1 hW HG.out.2) HXL.out HBIG.out).mono ?_
              rintro e w9 ⟨O3, O4, rfl, hn, hf, hO⟩
              have HF9 := Lib.hid (HF8.out.right hn hf hO)
              have G9 := Lib.hid (out2 G8.out.1 HG.out.2 hf hO)
              have X9 := Lib.hid (hf.blk X8.out (fun hk => NB.out.2 bx hk rfl))
              have NB9 : Hid (∀ k, O3 k ∨ O4 k → k ≠ bx) := fun k hk e => by
                rcases hO k hk with h | h | h
                · exact NB.out.2 k (.inl h) e
                · exact NB.out.2 k (.inr h) e
                · have := blk_lt X8.out; omega
              have HS9 : Hid (Sim (n.nstep x.f0 0 x.f2 x.f3 x.f4) (m.nstep x.f0 0 x.f2 x.f3 x.f4) ∧ (n.nstep x.f0 0 x.f2 x.f3 x.f4).ok ∧ (m.nstep x.f0 0 x.f2 x.f3 x.f4).ok) := ⟨HS.out.1.step0 _ _ _ _, NtS.ok_nstep HS.out.2.1 _ _ _ _ HBIG.out, NtS.ok_nstep HS.out.2.2 _ _ _ _ HBIG.out⟩
              have G10 : Hid (∀ k, O1 k ∨ O2 k → w.heap.size ≤ k) := G8.out.2
              clear e0 e1 e2 e3 e4 hn hf hO HF8 X8 G8
              obtain ⟨n1, hn1⟩ : ∃ n1, n1 = n.nstep x.f0 0 x.f2 x.f3 x.f4 := ⟨_, rfl⟩
              obtain ⟨m1, hm1⟩ : ∃ m1, m1 = m.nstep x.f0 0 x.f2 x.f3 x.f4 := ⟨_, rfl⟩
              rw [← hn1, ← hm1] at HF9 HS9
              clear hn1 hm1 HS HXC HXL HBIG hd0 hd3 q1 q2 q3
              by_cases hlt' : k < l'.length
              · obtain ⟨ad', A5, c5, rfl, hy0, hy1, hy2, hy3, hy4, hyl, hyc⟩ := at_ns HC'.out hlt'
                obtain ⟨y, hy⟩ : ∃ y, y = l'[k] := ⟨_, rfl⟩
                rw [← hy] at hy0 hy1 hy2 hy3 hy4 hyl hyc
                replace hy0 := (G9.out.1.cell (World.block_lt_of_cell? w _ hy0)).trans hy0
                replace hy1 := (G9.out.1.cell (World.block_lt_of_cell? w _ hy1)).trans hy1
                replace hy2 := (G9.out.1.cell (World.block_lt_of_cell? w _ hy2)).trans hy2
                replace hy3 := (G9.out.1.cell (World.block_lt_of_cell? w _ hy3)).trans hy3
                replace hy4 := (G9.out.1.cell (World.block_lt_of_cell? w _ hy4)).trans hy4
                have HYC := Lib.hid hyc
                have HYL := Lib.hid hyl
                have p4 : ((k : Int) < (l'.length : Int)) = True := eq_true (by omega)
                clear hyc hyl hy
                by_cases q1 : (y.f4.length : Int) ≤ 1000
                · by_cases q2 : 0 ≤ y.f0
                  · by_cases q3 : y.f0 ≤ 3
                    · have z0 := blk_frozen X9.out 0
                      have z1 := blk_frozen X9.out 1
                      have z2 := blk_frozen X9.out 2
                      have z3 := blk_frozen X9.out 3
                      have z4 := blk_frozen X9.out 4
                      have e0 : w9.cell? ⟨bx, 0, none⟩ = some (.int .i64 x.f0) := (blk_cell X9.out 0).trans rfl
                      have e1 : w9.cell? ⟨bx, 1, none⟩ = some (.int .i64 0) := (blk_cell X9.out 1).trans rfl
                      have e2 : w9.cell? ⟨bx, 2, none⟩ = some (.int .i64 x.f2) := (blk_cell X9.out 2).trans rfl
                      have e3 : w9.cell? ⟨bx, 3, none⟩ = some (.bool x.f3) := (blk_cell X9.out 3).trans rfl
                      have e4 : w9.cell? ⟨bx, 4, none⟩ = some (.slice A4 x.f4.length c4) := (blk_cell X9.out 4).trans rfl
                      go_upto_region 19 with fail
                      obtain ⟨W10, hW10⟩ : ∃ W, ((((((w9.setCell ⟨bx, 0, none⟩ (.int .i64 y.f0)).setCell ⟨bx, 1, none⟩ (.int .i64 y.f1)).setCell ⟨bx, 2, none⟩ (.int .i64 y.f2)).setCell ⟨bx, 3, none⟩ (.bool y.f3)).setCell ⟨bx, 4, none⟩ (.slice A5 y.f4.length c5)).setCell ⟨bx, 1, none⟩ (.int .i64 1)) = W := ⟨_, rfl⟩
                      have fw : Fr w9 W10 (fun k => k = bx) := by rw [← hW10]; exact ((((((Fr.refl w9 (fun k => k = bx)).setCell (.inl rfl) _).setCell (.inl rfl) _).setCell (.inl rfl) _).setCell (.inl rfl) _).setCell (.inl rfl) _).setCell (.inl rfl) _
                      have x10 : W10.heap[bx]? = some (.cells #[.int .i64 y.f0, .int .i64 1, .int .i64 y.f2, .bool y.f3, .slice A5 y.f4.length c5] 40 (0, 0)) := by
                        rw [← hW10]
                        exact (blk_set (blk_set (blk_set (blk_set (blk_set (blk_set X9.out 0 _) 1 _) 2 _) 3 _) 4 _) 1 _).trans rfl
                      have HF10 := Lib.hid (HF9.out.box X9.out (by decide) NB8.out NB9.out fw)
                      have B10 : Hid (Below w.heap.size w W10) := below_fr G9.out.1 fw G9.out.1.size (fun k hk => by have hk : k = bx := hk; rw [hk]; exact GBX.out)
                      have HYC10 := Lib.hid (fun W (hW : Fr W10 W (fun k => O1 k ∨ O2 k)) => row_fr HYC.out B10.out hW G10.out)
                      rw [hW10]
                      clear hW10 fw e0 e1 e2 e3 e4 z0 z1 z2 z3 z4 hy0 hy1 hy2 hy3 hy4 HF9 X9
                      have e0 : W10.cell? ⟨bx, 0, none⟩ = some (.int .i64 y.f0) := (blk_cell x10 0).trans rfl
                      have e1 : W10.cell? ⟨bx, 1, none⟩ = some (.int .i64 1) := (blk_cell x10 1).trans rfl
                      have e2 : W10.cell? ⟨bx, 2, none⟩ = some (.int .i64 y.f2) := (blk_cell x10 2).trans rfl
                      have e3 : W10.cell? ⟨bx, 3, none⟩ = some (.bool y.f3) := (blk_cell x10 3).trans rfl
                      have e4 : W10.cell? ⟨bx, 4, none⟩ = some (.slice A5 y.f4.length c5) := (blk_cell x10 4).trans rfl
                      clear x10
                      have HQ : Hid (0 ≤ y.f0 ∧ y.f0 ≤ 3 ∧ y.f4.length ≤ 1000) := ⟨q2, q3, by omega⟩
                      clear q1 q2 q3
                      go_wp2_with fail
                      refine (nstep_calls ga O1 hr O2 n1 y.f0 1 y.f2 y.f3 A5 c5 y.f4 _ HF10.out.p HS9.out.2.1 HYC10.out HYL.out HQ.out.2.2).mono ?_
                      rintro e w11 ⟨O5, O6, rfl, hn, hf, hO⟩
                      have HF11 := Lib.hid (HF10.out.left hn hf hO)
                      have G11 := Lib.hid (out2 B10.out G10.out hf hO)
                      have HS11 : Hid (Sim (n1.nstep y.f0 1 y.f2 y.f3 y.f4) m1 ∧ (n1.nstep y.f0 1 y.f2 y.f3 y.f4).ok ∧ m1.ok) := ⟨HS9.out.1.step1 HQ.out.1 HQ.out.2.1 _ _ _, NtS.ok_nstep HS9.out.2.1 _ _ _ _ HQ.out.2.2, HS9.out.2.2⟩
                      clear e0 e1 e2 e3 e4 hn hf hO HF10
                      go_wp2_with fail
                      go_roundw
                      case rel => exact ⟨k + 1, O5, O6, O3, O4, _, m1, by omega, by go_num, HF11, HS11, ⟨G11.out.2, G9.out.2⟩, G11.out.1⟩
                      case measure => simp [intOf]; omega
                    · go_wp2_with fail
                      go_roundw
                      case rel => exact ⟨k + 1, O1, O2, O3, O4, n1, m1, by omega, by go_num, HF9, HS9, ⟨G10.out, G9.out.2⟩, G9.out.1⟩
                      case measure => simp [intOf]; omega
                  · go_wp2_with fail
                    go_roundw
                    case rel => exact ⟨k + 1, O1, O2, O3, O4, n1, m1, by omega, by go_num, HF9, HS9, ⟨G10.out, G9.out.2⟩, G9.out.1⟩
                    case measure => simp [intOf]; omega
                · go_wp2_with fail
                  go_roundw
                  case rel => exact ⟨k + 1, O1, O2, O3, O4, n1, m1, by omega, by go_num, HF9, HS9, ⟨G10.out, G9.out.2⟩, G9.out.1⟩
                  case measure => simp [intOf]; omega
              · have p4 : ((k : Int) < (l'.length : Int)) = False := eq_false (by omega)
                go_wp2_with fail
                go_roundw
                case rel => exact ⟨k + 1, O1, O2, O3, O4, n1, m1, by omega, by go_num, HF9, HS9, ⟨G10.out, G9.out.2⟩, G9.out.1⟩
                case measure => simp [intOf]; omega
      · have p2 : ((k : Int) < (l.length : Int)) = True := eq_true (by omega)
        have p3 : ((k : Int) < 100) = False := eq_false (by omega)
        obtain ⟨HPA, HPB⟩ : Hid (NN wr ga Oa n) ∧ Hid (NN wr gb Ob m) := ⟨HF.out.p.nn, HF.out.q.nn⟩
        have HLB : Hid (Calls Try.prog 13 #[.pointer (some ⟨gb, 0, none⟩), .int .i64 0] wr fun e w' => e = .returned (.int .i64 (n.len 0)) ∧ w' = wr) := by
          have := net_Len gb Ob m 0 wr HPB.out
          rwa [← HS.out.1.len] at this
        have HAP : Hid (∀ k, Oa k → ¬ Ob k) := fun k h1 h2 => HF.out.ap k (.inl h1) (.inl h2)
        have HGE : Hid ((∀ k, Oa k → w.heap.size ≤ k) ∧ ∀ k, Ob k → w.heap.size ≤ k) := ⟨fun k h => HG.out.1 k (.inl h), fun k h => HG.out.2 k (.inl h)⟩
        clear HF HG
        go_wp2_with (first
          | (go_at_call 13; (with_reducible refine (net_Len ga Oa n 0 _ HPA.out).mono ?_); rintro e wc ⟨rfl, hw⟩; obtain rfl := hw.symm)
          | (go_at_call 13; (with_reducible refine HLB.out.mono ?_); rintro e wc ⟨rfl, hw⟩; obtain rfl := hw.symm)
          | fail)
        go_loopg [] (n.l0.length) (fun kq wr => ∃ (Oa Ob : Nat → Prop) (n m : NtS), Hid (n.l0.length = kq) ∧ Hid (NN wr ga Oa n) ∧ Hid (NN wr gb Ob m) ∧ Hid (∀ k, Oa k → ¬ Ob k) ∧ Hid (Sim n m ∧ n.ok ∧ m.ok) ∧ Hid ((∀ k, Oa k → w.heap.size ≤ k) ∧ ∀ k, Ob k → w.heap.size ≤ k) ∧ Hid (Below w.heap.size w wr))
        case atStart => exact ⟨Oa, Ob, n, m, rfl, HPA, HPB, HAP, HS, HGE, HW⟩
        case round =>
          clear HPA HPB HLB HAP HS HGE HW
          obtain ⟨Oa, Ob, n, m, HK, HPA, HPB, HAP, HS, HGE, HW⟩ := hrel
          have HLA : Hid (Calls Try.prog 13 #[.pointer (some ⟨ga, 0, none⟩), .int .i64 0] wr fun e w' => e = .returned (.int .i64 (gk : Int)) ∧ w' = wr) := by
            have := net_Len ga Oa n 0 wr HPA.out
            rwa [show n.len 0 = (gk : Int) from by rw [show n.len 0 = (n.l0.length : Int) from rfl, HK.out]] at this
          by_cases hz : 0 < gk
          · have HP0 : Hid (n.place 0 0 = 0 ∧ m.place 0 0 = 0) := by
              have h1 : n.place 0 0 = 0 := by
                unfold NtS.place
                rw [if_neg (by decide), if_neg]
                intro hc
                rcases hc with hc | hc
                · omega
                · have : (n.way 0).length = gk := HK.out
                  omega
              exact ⟨h1, by rw [← HS.out.1.place]; exact h1⟩
            have HTA := net_Take ga Oa n 0 0 wr HPA.out HS.out.2.1
            rw [HP0.out.1] at HTA
            have HTA' := Lib.hid HTA
            clear HTA
            have HD2 : Hid ((n.take 0 0).l0.length = gk - 1 ∧ Sim (n.take 0 0) (m.take 0 0) ∧ (n.take 0 0).ok ∧ (m.take 0 0).ok) := by
              refine ⟨?_, HS.out.1.take 0, NtS.ok_take HS.out.2.1 _ _, NtS.ok_take HS.out.2.2 _ _⟩
              have h1 : n.take 0 0 = n.setWay 0 ((n.way 0).eraseIdx 0) := by unfold NtS.take; rw [if_pos HP0.out.1]; rfl
              rw [h1]
              show (n.l0.eraseIdx 0).length = gk - 1
              rw [List.length_eraseIdx, if_pos (by rw [HK.out]; exact hz), HK.out]
            have p4 : (0 < (gk : Int)) = True := eq_true (by omega)
            clear HK
            go_wp2_with (first
              | (go_at_call 13; (with_reducible refine HLA.out.mono ?_); rintro e wc ⟨rfl, hw⟩; obtain rfl := hw.symm)
              | fail)
            refine HTA'.out.mono ?_
            rintro e w1 ⟨O1, va, rfl, ra, h1, f1⟩
            obtain ⟨Aa, ca, ma, rfl, _⟩ := R_slice_n ra
            have HPB1 := Lib.hid (HPB.out.other HPA.out (by decide) (by decide) (fun k h1 h2 => HAP.out k h2 h1) f1.1)
            have HAP1 : Hid (∀ k, O1 k → ¬ Ob k) := fun k h1 h2 => (f1.apart HPB.out.lt (fun k h1 h2 => HAP.out k h2 h1)) k h2 h1
            have HPA1 := Lib.hid h1
            have HRA := Lib.hid ra
            have HW1 : Hid (Below w.heap.size w w1 ∧ ∀ k, O1 k → w.heap.size ≤ k) := ⟨below_fr HW.out f1.1 HW.out.size HGE.out.1, fun k hk => by
              rcases f1.2 k hk with h | h
              · exact HGE.out.1 k h
              · exact Nat.le_trans HW.out.size h⟩
            have HGB : Hid (∀ k, Ob k → w.heap.size ≤ k) := HGE.out.2
            clear h1 f1 ra HPA HPB HAP HGE HW HTA' HLA
            have HTB := net_Take gb Ob m 0 0 w1 HPB1.out HS.out.2.2
            rw [HP0.out.2, ← HS.out.1.taken] at HTB
            have HTB' := Lib.hid HTB
            clear HTB HS
            go_wp2_with fail
            refine HTB'.out.mono ?_
            rintro e w2 ⟨O2, vb, rfl, rb, h2, f2⟩
            obtain ⟨Ab, cb2, mb, rfl, _⟩ := R_slice_n rb
            have s1 := str_R (R_net HPB1.out (by decide) (by decide) f2 HRA.out)
            have s2 := str_R rb
            have HPA2 := Lib.hid (HPA1.out.other HPB1.out (by decide) (by decide) HAP1.out f2.1)
            have HAP2 : Hid (∀ k, O1 k → ¬ O2 k) := f2.apart HPA1.out.lt HAP1.out
            have HPB2 := Lib.hid h2
            have HW2 : Hid (Below w.heap.size w w2 ∧ ∀ k, O2 k → w.heap.size ≤ k) := ⟨below_fr HW1.out.1 f2.1 HW1.out.1.size HGB.out, fun k hk => by
              rcases f2.2 k hk with h | h
              · exact HGB.out k h
              · exact Nat.le_trans HW1.out.1.size h⟩
            have HG2 : Hid (∀ k, O1 k → w.heap.size ≤ k) := HW1.out.2
            clear h2 f2 rb HPA1 HPB1 HAP1 HW1 HTB' HRA HGB
            go_wp2_with fail
            go_roundg (gk - 1)
            case measure => omega
            case rel => exact ⟨O1, O2, _, _, HD2.out.1, HPA2, HPB2, HAP2, HD2.out.2, ⟨HG2.out, HW2.out.2⟩, HW2.out.1⟩
          · have p4 : (0 < (gk : Int)) = False := eq_false (by omega)
            clear HK
            go_wp2_with (first
              | (go_at_call 13; (with_reducible refine HLA.out.mono ?_); rintro e wc ⟨rfl, hw⟩; obtain rfl := hw.symm)
              | fail)
            go_ret
            exact ⟨rfl, HW.out⟩
    · have p2 : ((k : Int) < (l.length : Int)) = False := eq_false (by omega)
      obtain ⟨HPA, HPB⟩ : Hid (NN wr ga Oa n) ∧ Hid (NN wr gb Ob m) := ⟨HF.out.p.nn, HF.out.q.nn⟩
      have HLB : Hid (Calls Try.prog 13 #[.pointer (some ⟨gb, 0, none⟩), .int .i64 0] wr fun e w' => e = .returned (.int .i64 (n.len 0)) ∧ w' = wr) := by
        have := net_Len gb Ob m 0 wr HPB.out
        rwa [← HS.out.1.len] at this
      have HAP : Hid (∀ k, Oa k → ¬ Ob k) := fun k h1 h2 => HF.out.ap k (.inl h1) (.inl h2)
      have HGE : Hid ((∀ k, Oa k → w.heap.size ≤ k) ∧ ∀ k, Ob k → w.heap.size ≤ k) := ⟨fun k h => HG.out.1 k (.inl h), fun k h => HG.out.2 k (.inl h)⟩
      clear HF HG
      go_wp2_with (first
        | (go_at_call 13; (with_reducible refine (net_Len ga Oa n 0 _ HPA.out).mono ?_); rintro e wc ⟨rfl, hw⟩; obtain rfl := hw.symm)
        | (go_at_call 13; (with_reducible refine HLB.out.mono ?_); rintro e wc ⟨rfl, hw⟩; obtain rfl := hw.symm)
        | fail)
      go_loopg [] (n.l0.length) (fun kq wr => ∃ (Oa Ob : Nat → Prop) (n m : NtS), Hid (n.l0.length = kq) ∧ Hid (NN wr ga Oa n) ∧ Hid (NN wr gb Ob m) ∧ Hid (∀ k, Oa k → ¬ Ob k) ∧ Hid (Sim n m ∧ n.ok ∧ m.ok) ∧ Hid ((∀ k, Oa k → w.heap.size ≤ k) ∧ ∀ k, Ob k → w.heap.size ≤ k) ∧ Hid (Below w.heap.size w wr))
      case atStart => exact ⟨Oa, Ob, n, m, rfl, HPA, HPB, HAP, HS, HGE, HW⟩
      case round =>
        clear HPA HPB HLB HAP HS HGE HW
        obtain ⟨Oa, Ob, n, m, HK, HPA, HPB, HAP, HS, HGE, HW⟩ := hrel
        have HLA : Hid (Calls Try.prog 13 #[.pointer (some ⟨ga, 0, none⟩), .int .i64 0] wr fun e w' => e = .returned (.int .i64 (gk : Int)) ∧ w' = wr) := by
          have := net_Len ga Oa n 0 wr HPA.out
          rwa [show n.len 0 = (gk : Int) from by rw [show n.len 0 = (n.l0.length : Int) from rfl, HK.out]] at this
        by_cases hz : 0 < gk
        · have HP0 : Hid (n.place 0 0 = 0 ∧ m.place 0 0 = 0) := by
            have h1 : n.place 0 0 = 0 := by
              unfold NtS.place
              rw [if_neg (by decide), if_neg]
              intro hc
              rcases hc with hc | hc
              · omega
              · have : (n.way 0).length = gk := HK.out
                omega
            exact ⟨h1, by rw [← HS.out.1.place]; exact h1⟩
          have HTA := net_Take ga Oa n 0 0 wr HPA.out HS.out.2.1
          rw [HP0.out.1] at HTA
          have HTA' := Lib.hid HTA
          clear HTA
          have HD2 : Hid ((n.take 0 0).l0.length = gk - 1 ∧ Sim (n.take 0 0) (m.take 0 0) ∧ (n.take 0 0).ok ∧ (m.take 0 0).ok) := by
            refine ⟨?_, HS.out.1.take 0, NtS.ok_take HS.out.2.1 _ _, NtS.ok_take HS.out.2.2 _ _⟩
            have h1 : n.take 0 0 = n.setWay 0 ((n.way 0).eraseIdx 0) := by unfold NtS.take; rw [if_pos HP0.out.1]; rfl
            rw [h1]
            show (n.l0.eraseIdx 0).length = gk - 1
            rw [List.length_eraseIdx, if_pos (by rw [HK.out]; exact hz), HK.out]
          have p4 : (0 < (gk : Int)) = True := eq_true (by omega)
          clear HK
          go_wp2_with (first
            | (go_at_call 13; (with_reducible refine HLA.out.mono ?_); rintro e wc ⟨rfl, hw⟩; obtain rfl := hw.symm)
            | fail)
          refine HTA'.out.mono ?_
          rintro e w1 ⟨O1, va, rfl, ra, h1, f1⟩
          obtain ⟨Aa, ca, ma, rfl, _⟩ := R_slice_n ra
          have HPB1 := Lib.hid (HPB.out.other HPA.out (by decide) (by decide) (fun k h1 h2 => HAP.out k h2 h1) f1.1)
          have HAP1 : Hid (∀ k, O1 k → ¬ Ob k) := fun k h1 h2 => (f1.apart HPB.out.lt (fun k h1 h2 => HAP.out k h2 h1)) k h2 h1
          have HPA1 := Lib.hid h1
          have HRA := Lib.hid ra
          have HW1 : Hid (Below w.heap.size w w1 ∧ ∀ k, O1 k → w.heap.size ≤ k) := ⟨below_fr HW.out f1.1 HW.out.size HGE.out.1, fun k hk => by
            rcases f1.2 k hk with h | h
            · exact HGE.out.1 k h
            · exact Nat.le_trans HW.out.size h⟩
          have HGB : Hid (∀ k, Ob k → w.heap.size ≤ k) := HGE.out.2
          clear h1 f1 ra HPA HPB HAP HGE HW HTA' HLA
          have HTB := net_Take gb Ob m 0 0 w1 HPB1.out HS.out.2.2
          rw [HP0.out.2, ← HS.out.1.taken] at HTB
          have HTB' := Lib.hid HTB
          clear HTB HS
          go_wp2_with fail
          refine HTB'.out.mono ?_
          rintro e w2 ⟨O2, vb, rfl, rb, h2, f2⟩
          obtain ⟨Ab, cb2, mb, rfl, _⟩ := R_slice_n rb
          have s1 := str_R (R_net HPB1.out (by decide) (by decide) f2 HRA.out)
          have s2 := str_R rb
          have HPA2 := Lib.hid (HPA1.out.other HPB1.out (by decide) (by decide) HAP1.out f2.1)
          have HAP2 : Hid (∀ k, O1 k → ¬ O2 k) := f2.apart HPA1.out.lt HAP1.out
          have HPB2 := Lib.hid h2
          have HW2 : Hid (Below w.heap.size w w2 ∧ ∀ k, O2 k → w.heap.size ≤ k) := ⟨below_fr HW1.out.1 f2.1 HW1.out.1.size HGB.out, fun k hk => by
            rcases f2.2 k hk with h | h
            · exact HGB.out k h
            · exact Nat.le_trans HW1.out.1.size h⟩
          have HG2 : Hid (∀ k, O1 k → w.heap.size ≤ k) := HW1.out.2
          clear h2 f2 rb HPA1 HPB1 HAP1 HW1 HTB' HRA HGB
          go_wp2_with fail
          go_roundg (gk - 1)
          case measure => omega
          case rel => exact ⟨O1, O2, _, _, HD2.out.1, HPA2, HPB2, HAP2, HD2.out.2, ⟨HG2.out, HW2.out.2⟩, HW2.out.1⟩
        · have p4 : (0 < (gk : Int)) = False := eq_false (by omega)
          clear HK
          go_wp2_with (first
            | (go_at_call 13; (with_reducible refine HLA.out.mono ?_); rintro e wc ⟨rfl, hw⟩; obtain rfl := hw.symm)
            | fail)
          go_ret
          exact ⟨rfl, HW.out⟩

def lessorlaw22_NetApart.f (l0 l1 : List NsE) : Option Bool := if l0.length ≤ 9223372036854775807 then some true else none
theorem lessorlaw22_NetApart.calls (A0 : Option Addr) (c0 : Nat) (l0 : List NsE) (A1 : Option Addr) (c1 : Nat) (l1 : List NsE) (r : Bool) (w : World) (hr0 : Kd.C k40 w A0 l0.length l0) (hc0 : l0.length ≤ c0) (hr1 : Kd.C k40 w A1 l1.length l1) (hc1 : l1.length ≤ c1) (h : lessorlaw22_NetApart.f l0 l1 = some r) :
    Calls Try.prog 6 #[.slice A0 l0.length c0, .slice A1 l1.length c1] w fun e w' => e = .returned (.bool r) ∧ Below w.heap.size w w' := by
  unfold lessorlaw22_NetApart.f at h
  split at h
  case isFalse => cases h
  rename_i hc
  obtain rfl : true = r := Option.some.inj h
  exact NetApart_calls A0 c0 l0 A1 c1 l1 w hr0 hc0 hc hr1 hc1

end Go.Proofs.Ytokcplapbjhnoaa
