/-
  PacketAsks: an address, a time, a kind and a name that are put into a packet's options are told. No condition but that bytes are bytes.
-/
import Derived.Test.YtmbfdmceameghaaHRefPut
import Derived.Test.YtmbfdmceameghaaPAsks
import Derived.Test.YtmbfdmceameghaaPrF6
namespace Go.Proofs.Ytmbfdmceameghaa
open Go.RowKit Go.Proofs.Ytmbfdmceameghaa.Pr Go.Proofs.Ytmbfdmceameghaa.PO Go.Proofs.Ytmbfdmceameghaa.PA Go.Proofs.YtmbfdmceameghaaW.PrintWords Go.Proofs.YtmbfdmceameghaaW.PrintLast Go.Proofs.YtmbfdmceameghaaW.PrintMore
attribute [local go_sem] max2_int min2_int max_two min_two max_three min_three max_four min_four
set_option linter.unusedVariables false
set_option linter.unusedSimpArgs false

theorem opt_str {w : World} {A : Option Addr} {n c : Nat} {xs : List Int} (h : (Kd.int .u8).C w A n xs) : (convert 24 9 (.slice A n c)).run Try.prog w = .ok (.string (strOfNums xs)) w :=
  Kd.C_string Try.underlying24 Try.underlying5 Try.underlying9 h
theorem awake3 : lessorlaw03_awake.f 500 = some true := by decide +kernel
theorem opPut_len (l : List OptF) (code : Int) (data : List Int) : (opPut l code data).length ≤ l.length + 1 := by
  unfold opPut
  split
  · have h1 := List.length_filter_le (fun x : OptF => !(x.f0 == code)) (l.drop ((ixOf (fun x => x.f0 == code) l).toNat + 1))
    rw [List.length_drop] at h1
    simp only [List.length_append, List.length_cons, List.length_nil, List.length_take]
    have h2 : ixOf (fun x => x.f0 == code) l < l.length ∨ ixOf (fun x => x.f0 == code) l = -1 := by
      unfold ixOf
      split <;> omega
    omega
  · simp
set_option maxHeartbeats 16000000 in
set_option maxRecDepth 100000 in
theorem PacketAsks_calls (a0 a1 a2 a3 a4 a5 a6 a7 : Int) (A8 : Option Addr) (c8 : Nat) (l8 : List Int) (A9 : Option Addr) (c9 : Nat) (l9 : List OptF) (x0 x1 x2 : Int) (D : Option Addr) (cd : Nat) (name : List Int) (w : World) (hr8 : (Kd.int .u8).C w A8 l8.length l8) (hc8 : l8.length ≤ c8) (hr9 : Kd.C k42 w A9 l9.length l9) (hc9 : l9.length ≤ c9)
    (hD : (Kd.int .u8).C w D name.length name) (hcd : name.length ≤ cd) (hx0 : x0 ≤ 9223372036854775807) (hx1 : x1 ≤ 9223372036854775807) (hx2 : x2 ≤ 9223372036854775807) (hok : bytesOk l9) (hnm : ∀ y ∈ name, 0 ≤ y ∧ y ≤ 255) :
    Calls Try.prog 5 #[.agg #[.int .i64 a0, .int .u32 a1, .int .i64 a2, .int .i64 a3, .int .u32 a4, .int .u32 a5, .int .u32 a6, .int .u32 a7, .slice A8 l8.length c8, .slice A9 l9.length c9], .agg #[.int .i64 x0, .int .i64 x1, .int .i64 x2], .slice D name.length cd] w fun e w' => e = .returned (.bool true) ∧ Below w.heap.size w w' := by
  have H8 := Lib.hid hr8
  have H9 := Lib.hid hr9
  have HD := Lib.hid hD
  have HC8 := Lib.hid hc8
  have HC9 := Lib.hid hc9
  have HCD := Lib.hid hcd
  have HX := Lib.hid (And.intro hx0 (And.intro hx1 hx2))
  have HOK := Lib.hid hok
  have HNM := Lib.hid hnm
  have hnl : name.length ≤ 9223372036854775807 := hD.2.1
  obtain ⟨bf, hb, hfew⟩ := few3 a0 a1 a2 a3 a4 a5 a6 a7 l8 l9
  have HB := Lib.hid hb
  have HFW := Lib.hid hfew
  clear hr8 hr9 hD hc8 hc9 hcd hx0 hx1 hx2 hok hnm hb hfew
  obtain ⟨gp, hgp⟩ : ∃ g, w.heap.size = g := ⟨_, rfl⟩
  obtain ⟨W0, hW0⟩ : ∃ W, w.alloc (.cells #[.int .i64 a0, .int .u32 a1, .int .i64 a2, .int .i64 a3, .int .u32 a4, .int .u32 a5, .int .u32 a6, .int .u32 a7, .slice A8 l8.length c8, .slice A9 l9.length c9] 27) = W := ⟨_, rfl⟩
  obtain ⟨gx, hgx⟩ : ∃ g, W0.heap.size = g := ⟨_, rfl⟩
  obtain ⟨w0, hw0⟩ : ∃ W, W0.alloc (.cells #[.int .i64 x0, .int .i64 x1, .int .i64 x2] 37) = W := ⟨_, rfl⟩
  have hb0 : Below W0.heap.size W0 w0 := by rw [← hw0]; exact below_alloc (Below.refl _ _) _
  have hp0 : W0.heap[gp]? = some (.cells #[.int .i64 a0, .int .u32 a1, .int .i64 a2, .int .i64 a3, .int .u32 a4, .int .u32 a5, .int .u32 a6, .int .u32 a7, .slice A8 l8.length c8, .slice A9 l9.length c9] 27 (0, 0)) := by rw [← hW0, ← hgp]; exact blk_new _ _
  have P0 : Hid (w0.heap[gp]? = some (.cells #[.int .i64 a0, .int .u32 a1, .int .i64 a2, .int .i64 a3, .int .u32 a4, .int .u32 a5, .int .u32 a6, .int .u32 a7, .slice A8 l8.length c8, .slice A9 l9.length c9] 27 (0, 0))) := blk_below hp0 hb0
  have X0 : Hid (w0.heap[gx]? = some (.cells #[.int .i64 x0, .int .i64 x1, .int .i64 x2] 37 (0, 0))) := by show _ = _; rw [← hw0, ← hgx]; exact blk_new _ _
  have B0 : Hid (Below w.heap.size w w0) := by show Below _ _ _; rw [← hw0, ← hW0]; exact below_alloc (below_alloc (Below.refl _ _) _) _
  have HG : Hid (w.heap.size ≤ gp ∧ w.heap.size ≤ gx ∧ gp ≠ gx) := ⟨by omega, by rw [← hgx, ← hW0, World.size_alloc]; omega, by rw [← hgx, ← hW0, World.size_alloc]; omega⟩
  clear hb0 hp0
  go_enter Try.func5, Try.ntmps5
  go_upto_region 1 with fail
  clear hw0 hW0 hgp hgx
  go_wp2_with fail
  refine (lessorlaw03_awake.calls 500 true _ awake3).mono ?_
  rintro e w1 ⟨rfl, b1⟩
  have P1 := Lib.hid (blk_below P0.out b1)
  have X1 := Lib.hid (blk_below X0.out b1)
  have B1 := Lib.hid (B0.out.trans (b1.mono B0.out.size))
  clear b1 P0 X0 B0
  have e0 : w1.cell? ⟨gp, 0, none⟩ = some (.int .i64 a0) := (blk_cell P1.out 0).trans rfl
  have e1 : w1.cell? ⟨gp, 1, none⟩ = some (.int .u32 a1) := (blk_cell P1.out 1).trans rfl
  have e2 : w1.cell? ⟨gp, 2, none⟩ = some (.int .i64 a2) := (blk_cell P1.out 2).trans rfl
  have e3 : w1.cell? ⟨gp, 3, none⟩ = some (.int .i64 a3) := (blk_cell P1.out 3).trans rfl
  have e4 : w1.cell? ⟨gp, 4, none⟩ = some (.int .u32 a4) := (blk_cell P1.out 4).trans rfl
  have e5 : w1.cell? ⟨gp, 5, none⟩ = some (.int .u32 a5) := (blk_cell P1.out 5).trans rfl
  have e6 : w1.cell? ⟨gp, 6, none⟩ = some (.int .u32 a6) := (blk_cell P1.out 6).trans rfl
  have e7 : w1.cell? ⟨gp, 7, none⟩ = some (.int .u32 a7) := (blk_cell P1.out 7).trans rfl
  have e8 : w1.cell? ⟨gp, 8, none⟩ = some (.slice A8 l8.length c8) := (blk_cell P1.out 8).trans rfl
  have e9 : w1.cell? ⟨gp, 9, none⟩ = some (.slice A9 l9.length c9) := (blk_cell P1.out 9).trans rfl
  go_wp2_with fail
  refine (lessorref03_Few.calls 500 a0 a1 a2 a3 a4 a5 a6 a7 A8 c8 l8 A9 c9 l9 bf _ (Kd.C_below H8.out B1.out) HC8.out (Kd.C_below H9.out B1.out) HC9.out HB.out).mono ?_
  rintro e w2 ⟨rfl, b2⟩
  have P2 := Lib.hid (blk_below P1.out b2)
  have X2 := Lib.hid (blk_below X1.out b2)
  have B2 := Lib.hid (B1.out.trans (b2.mono B1.out.size))
  clear b2 P1 X1 B1
  clear e0 e1 e2 e3 e4 e5 e6 e7 e8 e9

  have y0 : w2.cell? ⟨gx, 0, none⟩ = some (.int .i64 x0) := (blk_cell X2.out 0).trans rfl
  obtain ⟨d0, z0, hz0⟩ : ∃ d z, bytesR x0 4 = (d, z) := ⟨_, _, rfl⟩
  have HZ0 := Lib.hid hz0
  clear hz0
  go_wp2_with fail
  refine (lessorref02_Bytes.calls 19 x0 4 d0 z0 _ (by rw [byte4 HX.out.1, HZ0.out])).mono ?_
  rintro e w3 ⟨v3, rfl, hv, hb⟩
  obtain ⟨Ad0, cd0, rfl⟩ := Kd.R_slice hv
  have R0 := Lib.hid hv
  have P3 := Lib.hid (blk_below P2.out hb)
  have X3 := Lib.hid (blk_below X2.out hb)
  have B3 := Lib.hid (B2.out.trans (hb.mono B2.out.size))
  clear hv hb P2 X2 B2 y0

  have y1 : w3.cell? ⟨gx, 1, none⟩ = some (.int .i64 x1) := (blk_cell X3.out 1).trans rfl
  obtain ⟨d1, z1, hz1⟩ : ∃ d z, bytesR x1 4 = (d, z) := ⟨_, _, rfl⟩
  have HZ1 := Lib.hid hz1
  clear hz1
  go_wp2_with fail
  refine (lessorref02_Bytes.calls 19 x1 4 d1 z1 _ (by rw [byte4 HX.out.2.1, HZ1.out])).mono ?_
  rintro e w4 ⟨v4, rfl, hv, hb⟩
  obtain ⟨Ad1, cd1, rfl⟩ := Kd.R_slice hv
  have R1 := Lib.hid hv
  have R0n := Lib.hid (Kd.R_below R0.out hb)
  clear R0
  have R0 := R0n
  clear R0n
  have P4 := Lib.hid (blk_below P3.out hb)
  have X4 := Lib.hid (blk_below X3.out hb)
  have B4 := Lib.hid (B3.out.trans (hb.mono B3.out.size))
  clear hv hb P3 X3 B3 y1

  have y2 : w4.cell? ⟨gx, 2, none⟩ = some (.int .i64 x2) := (blk_cell X4.out 2).trans rfl
  obtain ⟨d2, z2, hz2⟩ : ∃ d z, bytesR x2 1 = (d, z) := ⟨_, _, rfl⟩
  have HZ2 := Lib.hid hz2
  clear hz2
  go_wp2_with fail
  refine (lessorref02_Bytes.calls 19 x2 1 d2 z2 _ (by rw [byte1 HX.out.2.2, HZ2.out])).mono ?_
  rintro e w5 ⟨v5, rfl, hv, hb⟩
  obtain ⟨Ad2, cd2, rfl⟩ := Kd.R_slice hv
  have R2 := Lib.hid hv
  have R0n := Lib.hid (Kd.R_below R0.out hb)
  clear R0
  have R0 := R0n
  clear R0n
  have R1n := Lib.hid (Kd.R_below R1.out hb)
  clear R1
  have R1 := R1n
  clear R1n
  have P5 := Lib.hid (blk_below P4.out hb)
  have X5 := Lib.hid (blk_below X4.out hb)
  have B5 := Lib.hid (B4.out.trans (hb.mono B4.out.size))
  clear hv hb P4 X4 B4 y2

  cases bf with
  | false =>
    go_wp2_with fail
    go_ret
    exact ⟨rfl, B5.out⟩
  | true =>
    have HF := Lib.hid (HFW.out rfl)
    clear HFW HB
    by_cases q0 : z0 = 0
    · subst q0
      by_cases q1 : z1 = 0
      · subst q1
        by_cases q2 : z2 = 0
        · subst q2
          by_cases q3 : (name.length : Int) > 32
          · go_wp2_with fail
            go_ret
            exact ⟨rfl, B5.out⟩
          · have HNL : Hid (name.length ≤ 32) := by show _ ≤ _; omega
            have HA := Lib.hid (all4_asked l9 x2 name a4 (by rw [HZ0.out]) (by rw [HZ1.out]))
            have HK := Lib.hid (all4_kind l9 x0 x1 name (by rw [HZ2.out]))
            have HCL := Lib.hid (all4_client l8 l9 x0 x1 x2 HNL.out)
            have HXB : Hid (0 ≤ x0 ∧ x0 < 4294967296) := (of4 (n := x0) (by rw [HZ0.out])).2
            have HML := Lib.hid (all4_len HF.out.2 x0 x1 x2 HNL.out)
            have HMO := Lib.hid (all4_ok HOK.out x0 x1 x2 HNM.out)
            have HDL : Hid (d0.length ≤ 4 ∧ d1.length ≤ 4 ∧ d2.length ≤ 4) := ⟨by have := bytesR_len x0 4; rw [HZ0.out] at this; exact this, by have := bytesR_len x1 4; rw [HZ1.out] at this; exact this, by have := bytesR_len x2 1; rw [HZ2.out] at this; exact this⟩
            obtain ⟨m, hm⟩ : ∃ m, m = putAll4 l9 x0 x1 x2 name := ⟨_, rfl⟩
            have HM : Hid (m = opPut (opPut (opPut (opPut l9 50 d0) 51 d1) 53 d2) 61 name) := by show _ = _; rw [hm]; unfold putAll4; rw [HZ0.out, HZ1.out, HZ2.out]
            rw [← hm] at HA HK HCL HML HMO
            clear hm
            have e9 : w5.cell? ⟨gp, 9, none⟩ = some (.slice A9 l9.length c9) := (blk_cell P5.out 9).trans rfl
            have F5 : Hid (Kd.F k42 w5 (fun k => (k ≠ gp ∧ k ≠ gx) ∧ k < w5.heap.size) A9 l9.length l9) := Kd.F_mono (Kd.F_below (Kd.C_F opt_heap H9.out) B5.out) (fun k hk => ⟨⟨fun e => by have := HG.out.1; omega, fun e => by have := HG.out.2.1; omega⟩, by have := B5.out.size; omega⟩)
            have GX5 : Hid (gp < w5.heap.size ∧ gx < w5.heap.size) := ⟨blk_lt P5.out, blk_lt X5.out⟩

            go_wp2_with fail
            refine (rputS_calls (fun k => (k ≠ gp ∧ k ≠ gx) ∧ k < w5.heap.size) A9 c9 l9 50 Ad0 cd0 d0 _ (fun k hk => hk.2) F5.out HC9.out (by have := HF.out.1; omega) (Kd.R_reads' R0.out).2.2 (Kd.R_reads' R0.out).2.1 (by have := HDL.out; omega)).mono ?_
            rintro e w6 ⟨v6, rfl, hn, hb⟩
            obtain ⟨Ap6, cp6, rfl⟩ := Kd.N_slice hn
            have NN6 : Hid (Kd.N k42 42 w6 w5.heap.size (fun k => k ≠ gp ∧ k ≠ gx) (.slice Ap6 (opPut l9 50 d0).length cp6) (opPut l9 50 d0)) := Kd.N_mono hn (fun k hk => by
              rcases hk with hk | hk
              · exact hk.1
              · exact ⟨fun e => by have := GX5.out; omega, fun e => by have := GX5.out; omega⟩)
            have F6 : Hid (Kd.F k42 w6 (fun k => (k ≠ gp ∧ k ≠ gx) ∧ k < w6.heap.size) Ap6 (opPut l9 50 d0).length (opPut l9 50 d0)) := Kd.F_bound (Kd.N_F NN6.out)
            have GX6 : Hid (gp < w6.heap.size ∧ gx < w6.heap.size) := ⟨by have := GX5.out.1; have := hb.size; omega, by have := GX5.out.2; have := hb.size; omega⟩
            have HLL6 : Hid ((opPut l9 50 d0).length ≤ 101) := by show _ ≤ _; have := opPut_len l9 50 d0; have := HF.out.1; omega
            have R1n := Lib.hid (Kd.R_below R1.out hb)
            clear R1
            have R1 := R1n
            clear R1n
            have R2n := Lib.hid (Kd.R_below R2.out hb)
            clear R2
            have R2 := R2n
            clear R2n
            have P6 := Lib.hid (blk_below P5.out hb)
            have X6 := Lib.hid (blk_below X5.out hb)
            have B6 := Lib.hid (B5.out.trans (hb.mono B5.out.size))
            clear hn hb P5 X5 B5 F5 GX5
            clear e9

            go_wp2_with fail
            refine (rputS_calls (fun k => (k ≠ gp ∧ k ≠ gx) ∧ k < w6.heap.size) Ap6 cp6 (opPut l9 50 d0) 51 Ad1 cd1 d1 _ (fun k hk => hk.2) F6.out (Kd.N_reads' NN6.out).2.1 (by have := HLL6.out; omega) (Kd.R_reads' R1.out).2.2 (Kd.R_reads' R1.out).2.1 (by have := HDL.out; omega)).mono ?_
            rintro e w7 ⟨v7, rfl, hn, hb⟩
            obtain ⟨Ap7, cp7, rfl⟩ := Kd.N_slice hn
            have NN7 : Hid (Kd.N k42 42 w7 w6.heap.size (fun k => k ≠ gp ∧ k ≠ gx) (.slice Ap7 (opPut (opPut l9 50 d0) 51 d1).length cp7) (opPut (opPut l9 50 d0) 51 d1)) := Kd.N_mono hn (fun k hk => by
              rcases hk with hk | hk
              · exact hk.1
              · exact ⟨fun e => by have := GX6.out; omega, fun e => by have := GX6.out; omega⟩)
            have F7 : Hid (Kd.F k42 w7 (fun k => (k ≠ gp ∧ k ≠ gx) ∧ k < w7.heap.size) Ap7 (opPut (opPut l9 50 d0) 51 d1).length (opPut (opPut l9 50 d0) 51 d1)) := Kd.F_bound (Kd.N_F NN7.out)
            have GX7 : Hid (gp < w7.heap.size ∧ gx < w7.heap.size) := ⟨by have := GX6.out.1; have := hb.size; omega, by have := GX6.out.2; have := hb.size; omega⟩
            have HLL7 : Hid ((opPut (opPut l9 50 d0) 51 d1).length ≤ 102) := by show _ ≤ _; have := opPut_len (opPut l9 50 d0) 51 d1; have := HLL6.out; omega
            have R2n := Lib.hid (Kd.R_below R2.out hb)
            clear R2
            have R2 := R2n
            clear R2n
            have P7 := Lib.hid (blk_below P6.out hb)
            have X7 := Lib.hid (blk_below X6.out hb)
            have B7 := Lib.hid (B6.out.trans (hb.mono B6.out.size))
            clear hn hb P6 X6 B6 F6 GX6

            go_wp2_with fail
            refine (rputS_calls (fun k => (k ≠ gp ∧ k ≠ gx) ∧ k < w7.heap.size) Ap7 cp7 (opPut (opPut l9 50 d0) 51 d1) 53 Ad2 cd2 d2 _ (fun k hk => hk.2) F7.out (Kd.N_reads' NN7.out).2.1 (by have := HLL7.out; omega) (Kd.R_reads' R2.out).2.2 (Kd.R_reads' R2.out).2.1 (by have := HDL.out; omega)).mono ?_
            rintro e w8 ⟨v8, rfl, hn, hb⟩
            obtain ⟨Ap8, cp8, rfl⟩ := Kd.N_slice hn
            have NN8 : Hid (Kd.N k42 42 w8 w7.heap.size (fun k => k ≠ gp ∧ k ≠ gx) (.slice Ap8 (opPut (opPut (opPut l9 50 d0) 51 d1) 53 d2).length cp8) (opPut (opPut (opPut l9 50 d0) 51 d1) 53 d2)) := Kd.N_mono hn (fun k hk => by
              rcases hk with hk | hk
              · exact hk.1
              · exact ⟨fun e => by have := GX7.out; omega, fun e => by have := GX7.out; omega⟩)
            have F8 : Hid (Kd.F k42 w8 (fun k => (k ≠ gp ∧ k ≠ gx) ∧ k < w8.heap.size) Ap8 (opPut (opPut (opPut l9 50 d0) 51 d1) 53 d2).length (opPut (opPut (opPut l9 50 d0) 51 d1) 53 d2)) := Kd.F_bound (Kd.N_F NN8.out)
            have GX8 : Hid (gp < w8.heap.size ∧ gx < w8.heap.size) := ⟨by have := GX7.out.1; have := hb.size; omega, by have := GX7.out.2; have := hb.size; omega⟩
            have HLL8 : Hid ((opPut (opPut (opPut l9 50 d0) 51 d1) 53 d2).length ≤ 103) := by show _ ≤ _; have := opPut_len (opPut (opPut l9 50 d0) 51 d1) 53 d2; have := HLL7.out; omega
            have P8 := Lib.hid (blk_below P7.out hb)
            have X8 := Lib.hid (blk_below X7.out hb)
            have B8 := Lib.hid (B7.out.trans (hb.mono B7.out.size))
            clear hn hb P7 X7 B7 F7 GX7

            go_wp2_with fail
            refine (rputS_calls (fun k => (k ≠ gp ∧ k ≠ gx) ∧ k < w8.heap.size) Ap8 cp8 (opPut (opPut (opPut l9 50 d0) 51 d1) 53 d2) 61 D cd name _ (fun k hk => hk.2) F8.out (Kd.N_reads' NN8.out).2.1 (by have := HLL8.out; omega) (Kd.C_below HD.out B8.out) HCD.out (by have := HNL.out; omega)).mono ?_
            rintro e w9 ⟨v9, rfl, hn, hb⟩
            obtain ⟨Ap9, cp9, rfl⟩ := Kd.N_slice hn
            have NN9 : Hid (Kd.N k42 42 w9 w8.heap.size (fun k => k ≠ gp ∧ k ≠ gx) (.slice Ap9 (opPut (opPut (opPut (opPut l9 50 d0) 51 d1) 53 d2) 61 name).length cp9) (opPut (opPut (opPut (opPut l9 50 d0) 51 d1) 53 d2) 61 name)) := Kd.N_mono hn (fun k hk => by
              rcases hk with hk | hk
              · exact hk.1
              · exact ⟨fun e => by have := GX8.out; omega, fun e => by have := GX8.out; omega⟩)
            have F9 : Hid (Kd.F k42 w9 (fun k => (k ≠ gp ∧ k ≠ gx) ∧ k < w9.heap.size) Ap9 (opPut (opPut (opPut (opPut l9 50 d0) 51 d1) 53 d2) 61 name).length (opPut (opPut (opPut (opPut l9 50 d0) 51 d1) 53 d2) 61 name)) := Kd.F_bound (Kd.N_F NN9.out)
            have GX9 : Hid (gp < w9.heap.size ∧ gx < w9.heap.size) := ⟨by have := GX8.out.1; have := hb.size; omega, by have := GX8.out.2; have := hb.size; omega⟩
            have HLL9 : Hid ((opPut (opPut (opPut (opPut l9 50 d0) 51 d1) 53 d2) 61 name).length ≤ 104) := by show _ ≤ _; have := opPut_len (opPut (opPut (opPut l9 50 d0) 51 d1) 53 d2) 61 name; have := HLL8.out; omega
            have P9 := Lib.hid (blk_below P8.out hb)
            have X9 := Lib.hid (blk_below X8.out hb)
            have B9 := Lib.hid (B8.out.trans (hb.mono B8.out.size))
            clear hn hb P8 X8 B8 F8 GX8

            rw [← HM.out] at NN9 ⊢
            have z9 : w9.frozen? ⟨gp, 9, none⟩ = false := blk_frozen P9.out 9
            have e9 : w9.cell? ⟨gp, 9, none⟩ = some (.slice A9 l9.length c9) := (blk_cell P9.out 9).trans rfl
            obtain ⟨Ap, hAp⟩ : ∃ Ap, Ap = Ap9 := ⟨_, rfl⟩
            obtain ⟨cp, hcp⟩ : ∃ cp, cp = cp9 := ⟨_, rfl⟩
            rw [← hAp, ← hcp] at NN9 ⊢
            clear hAp hcp
            obtain ⟨w10, hw10⟩ : ∃ W, w9.setCell ⟨gp, 9, none⟩ (.slice Ap m.length cp) = W := ⟨_, rfl⟩
            have P10 : Hid (w10.heap[gp]? = some (.cells #[.int .i64 a0, .int .u32 a1, .int .i64 a2, .int .i64 a3, .int .u32 a4, .int .u32 a5, .int .u32 a6, .int .u32 a7, .slice A8 l8.length c8, .slice Ap m.length cp] 27 (0, 0))) := by show _ = _; rw [← hw10]; exact (blk_set P9.out 9 _).trans rfl
            have X10 : Hid (w10.heap[gx]? = some (.cells #[.int .i64 x0, .int .i64 x1, .int .i64 x2] 37 (0, 0))) := by show _ = _; rw [← hw10]; exact (Below.heap_setCell w9 ⟨gp, 9, none⟩ _ gx (Ne.symm HG.out.2.2)).trans X9.out
            have B10 : Hid (Below w.heap.size w w10) := by show Below _ _ _; rw [← hw10]; exact B9.out.setCell HG.out.1 _
            have N10 : Hid (Kd.N k42 42 w10 w8.heap.size (fun k => k ≠ gp ∧ k ≠ gx) (.slice Ap m.length cp) m) := by show Kd.N _ _ _ _ _ _ _; rw [← hw10]; exact Kd.N_far NN9.out (fun k hk => hk.1) _
            go_upto_region 9 with fail
            try rw [hw10]
            clear hw10 z9 e9 P9 X9 B9 NN9 F9 GX9
            have e0 : w10.cell? ⟨gp, 0, none⟩ = some (.int .i64 a0) := (blk_cell P10.out 0).trans rfl
            have e1 : w10.cell? ⟨gp, 1, none⟩ = some (.int .u32 a1) := (blk_cell P10.out 1).trans rfl
            have e2 : w10.cell? ⟨gp, 2, none⟩ = some (.int .i64 a2) := (blk_cell P10.out 2).trans rfl
            have e3 : w10.cell? ⟨gp, 3, none⟩ = some (.int .i64 a3) := (blk_cell P10.out 3).trans rfl
            have e4 : w10.cell? ⟨gp, 4, none⟩ = some (.int .u32 a4) := (blk_cell P10.out 4).trans rfl
            have e5 : w10.cell? ⟨gp, 5, none⟩ = some (.int .u32 a5) := (blk_cell P10.out 5).trans rfl
            have e6 : w10.cell? ⟨gp, 6, none⟩ = some (.int .u32 a6) := (blk_cell P10.out 6).trans rfl
            have e7 : w10.cell? ⟨gp, 7, none⟩ = some (.int .u32 a7) := (blk_cell P10.out 7).trans rfl
            have e8 : w10.cell? ⟨gp, 8, none⟩ = some (.slice A8 l8.length c8) := (blk_cell P10.out 8).trans rfl
            have e9 : w10.cell? ⟨gp, 9, none⟩ = some (.slice Ap m.length cp) := (blk_cell P10.out 9).trans rfl
            go_wp2_with fail
            refine (packet_Asked.calls 20 a0 a1 a2 a3 a4 a5 a6 a7 A8 c8 l8 Ap cp m x0 x1 _ (Kd.C_below H8.out B10.out) HC8.out (Kd.N_reads' N10.out).2.2 (Kd.N_reads' N10.out).2.1 (by rw [asked_eq a0 a1 a2 a3 a4 a5 a6 a7 l8 m HML.out HMO.out 20 (by omega), HA.out])).mono ?_
            rintro e w11 ⟨rfl, b11⟩
            have N11 := Lib.hid (Kd.N_below N10.out b11)
            have P11 := Lib.hid (blk_below P10.out b11)
            have X11 := Lib.hid (blk_below X10.out b11)
            have B11 := Lib.hid (B10.out.trans (b11.mono B10.out.size))
            clear b11 P10 X10 B10 N10
            clear e0 e1 e2 e3 e4 e5 e6 e7 e8 e9
            have s1 := opt_str (c := cd) (Kd.C_below HD.out B11.out)
            have s2 := opt_str (c := c8) (Kd.C_below H8.out B11.out)
            have HKE := Lib.hid (kind_eq a0 a1 a2 a3 a4 a5 a6 a7 l8 m HML.out HMO.out)
            have HCE := Lib.hid (client_eq a0 a1 a2 a3 a4 a5 a6 a7 l8 m HML.out)
            rw [HK.out] at HKE
            rw [HCL.out] at HCE
            clear HK HCL HA
            have e0 : w11.cell? ⟨gp, 0, none⟩ = some (.int .i64 a0) := (blk_cell P11.out 0).trans rfl
            have e1 : w11.cell? ⟨gp, 1, none⟩ = some (.int .u32 a1) := (blk_cell P11.out 1).trans rfl
            have e2 : w11.cell? ⟨gp, 2, none⟩ = some (.int .i64 a2) := (blk_cell P11.out 2).trans rfl
            have e3 : w11.cell? ⟨gp, 3, none⟩ = some (.int .i64 a3) := (blk_cell P11.out 3).trans rfl
            have e4 : w11.cell? ⟨gp, 4, none⟩ = some (.int .u32 a4) := (blk_cell P11.out 4).trans rfl
            have e5 : w11.cell? ⟨gp, 5, none⟩ = some (.int .u32 a5) := (blk_cell P11.out 5).trans rfl
            have e6 : w11.cell? ⟨gp, 6, none⟩ = some (.int .u32 a6) := (blk_cell P11.out 6).trans rfl
            have e7 : w11.cell? ⟨gp, 7, none⟩ = some (.int .u32 a7) := (blk_cell P11.out 7).trans rfl
            have e8 : w11.cell? ⟨gp, 8, none⟩ = some (.slice A8 l8.length c8) := (blk_cell P11.out 8).trans rfl
            have e9 : w11.cell? ⟨gp, 9, none⟩ = some (.slice Ap m.length cp) := (blk_cell P11.out 9).trans rfl
            have hx0b := HXB.out
            have hcv : IntKind.i64.wrap x0 = x0 := by rw [IntKind.wrap_i64]; omega
            have y0 : w11.cell? ⟨gx, 0, none⟩ = some (.int .i64 x0) := (blk_cell X11.out 0).trans rfl
            have y1 : w11.cell? ⟨gx, 1, none⟩ = some (.int .i64 x1) := (blk_cell X11.out 1).trans rfl
            have y2 : w11.cell? ⟨gx, 2, none⟩ = some (.int .i64 x2) := (blk_cell X11.out 2).trans rfl
            by_cases hz : name.length = 0
            · rw [if_pos hz] at HCE
              have hz1 : (name.length : Int) = 0 := by omega
              have hz2 : ((name.length : Int) == 0) = true := beq_iff_eq.2 hz1
              obtain ⟨sc, hsc⟩ : ∃ sc, sc = strOfNums l8 := ⟨_, rfl⟩
              rw [← hsc] at s2 HCE
              clear hsc hz hz1
              go_wp2_with fail
              refine start_ (n := 25) (S := fun w' => w'.cell? ⟨gp, 0, none⟩ = some (.int .i64 a0) ∧ w'.cell? ⟨gp, 1, none⟩ = some (.int .u32 a1) ∧ w'.cell? ⟨gp, 2, none⟩ = some (.int .i64 a2) ∧ w'.cell? ⟨gp, 3, none⟩ = some (.int .i64 a3) ∧ w'.cell? ⟨gp, 4, none⟩ = some (.int .u32 a4) ∧ w'.cell? ⟨gp, 5, none⟩ = some (.int .u32 a5) ∧ w'.cell? ⟨gp, 6, none⟩ = some (.int .u32 a6) ∧ w'.cell? ⟨gp, 7, none⟩ = some (.int .u32 a7) ∧ w'.cell? ⟨gp, 8, none⟩ = some (.slice A8 l8.length c8) ∧ w'.cell? ⟨gp, 9, none⟩ = some (.slice Ap m.length cp) ∧ w'.cell? ⟨gx, 0, none⟩ = some (.int .i64 x0) ∧ w'.cell? ⟨gx, 1, none⟩ = some (.int .i64 x1) ∧ w'.cell? ⟨gx, 2, none⟩ = some (.int .i64 x2)) (ds := []) #[false, false, false, false, false, false, false, false, false, false, false, false, false, false, false, false, false, false, false, false, false, false, false, false, false] (by kernel_rfl) rfl rfl ⟨e0, e1, e2, e3, e4, e5, e6, e7, e8, e9, y0, y1, y2⟩ (fun hHeld => ?_)
              obtain ⟨W2, hW2⟩ : ∃ W2, w11.drew = W2 := ⟨_, rfl⟩
              have hbw : Below w11.heap.size w11 W2 := by rw [← hW2]; exact below_drew (Below.refl _ _)
              rw [hW2] at hHeld ⊢
              clear hW2
              have HBW := Lib.hid hbw
              have HPP := Lib.hid (blk_below P11.out hbw)
              have HXX := Lib.hid (blk_below X11.out hbw)
              have HNN := Lib.hid (Kd.N_below N11.out hbw)
              have HBB := Lib.hid (B11.out.trans (hbw.mono B11.out.size))
              clear hbw
              refine pure_ (i := 0) (N := some 87) (v := ?_) (a' := ?_) #[true, false, false, false, false, false, false, false, false, false, false, false, false, false, false, false, false, false, false, false, false, false, false, false, false] rfl rfl (by kernel_rfl) (fun _ _ _ h => h) (Or.inl ⟨by rfl, ?_⟩) ?_ ?_
              rotate_left
              · intro w'
                go_simp
                with_reducible rfl
              rotate_left
              · simp only [Act.put, List.setIfInBounds_toArray, List.set_cons_zero, List.set_cons_succ, i64_w, i32_w]
                rfl
              refine pure_ (i := 1) (N := some 88) (v := .int .i64 x0) (a' := ?_) #[true, true, false, false, false, false, false, false, false, false, false, false, false, false, false, false, false, false, false, false, false, false, false, false, false] rfl rfl (by kernel_rfl) (fun _ _ _ h => h) (Or.inl ⟨by rfl, ?_⟩) ?_ ?_
              · intro w'
                go_simp
                try (with_reducible rfl)
              rotate_left
              · simp only [Act.put, List.setIfInBounds_toArray, List.set_cons_zero, List.set_cons_succ, i64_w, i32_w]
                rfl
              refine pure_ (i := 2) (N := some 89) (v := ?_) (a' := ?_) #[true, true, true, false, false, false, false, false, false, false, false, false, false, false, false, false, false, false, false, false, false, false, false, false, false] rfl rfl (by kernel_rfl) (fun _ _ _ h => h) (Or.inl ⟨by rfl, ?_⟩) ?_ ?_
              rotate_left
              · intro w'
                go_simp
                with_reducible rfl
              rotate_left
              · simp only [Act.put, List.setIfInBounds_toArray, List.set_cons_zero, List.set_cons_succ, i64_w, i32_w]
                rfl
              refine take_ (i := 3) (N := some 90) (v := ?_) (a' := ?_) #[true, true, true, true, false, false, false, false, false, false, false, false, false, false, false, false, false, false, false, false, false, false, false, false, false] rfl rfl (by kernel_rfl) (fun _ _ _ h => h) (Or.inl ⟨by rfl, ?_⟩) hHeld ?_ ?_
              rotate_left
              · rintro w' ⟨s0, s1, s2, s3, s4, s5, s6, s7, s8, s9, s10, s11, s12⟩
                go_simp
                with_reducible rfl
              rotate_left
              · simp only [Act.put, List.setIfInBounds_toArray, List.set_cons_zero, List.set_cons_succ, i64_w, i32_w]
                rfl
              refine pure_ (i := 4) (N := some 91) (v := .bool true) (a' := ?_) #[true, true, true, true, true, false, false, false, false, false, false, false, false, false, false, false, false, false, false, false, false, false, false, false, false] rfl rfl (by kernel_rfl) (fun _ _ _ h => h) (Or.inl ⟨by rfl, ?_⟩) ?_ ?_
              · intro w'
                go_simp
                try (with_reducible rfl)
              rotate_left
              · simp only [Act.put, List.setIfInBounds_toArray, List.set_cons_zero, List.set_cons_succ, i64_w, i32_w]
                rfl
              refine pure_ (i := 5) (N := some 92) (v := ?_) (a' := ?_) #[true, true, true, true, true, true, false, false, false, false, false, false, false, false, false, false, false, false, false, false, false, false, false, false, false] rfl rfl (by kernel_rfl) (fun _ _ _ h => h) (Or.inl ⟨by rfl, ?_⟩) ?_ ?_
              rotate_left
              · intro w'
                go_simp
                with_reducible rfl
              rotate_left
              · simp only [Act.put, List.setIfInBounds_toArray, List.set_cons_zero, List.set_cons_succ, i64_w, i32_w]
                rfl
              refine pure_ (i := 6) (N := some 93) (v := ?_) (a' := ?_) #[true, true, true, true, true, true, true, false, false, false, false, false, false, false, false, false, false, false, false, false, false, false, false, false, false] rfl rfl (by kernel_rfl) (fun _ _ _ h => h) (Or.inl ⟨by rfl, ?_⟩) ?_ ?_
              rotate_left
              · intro w'
                go_simp
                with_reducible rfl
              rotate_left
              · simp only [Act.put, List.setIfInBounds_toArray, List.set_cons_zero, List.set_cons_succ, i64_w, i32_w]
                rfl
              refine pure_ (i := 7) (N := some 94) (v := ?_) (a' := ?_) #[true, true, true, true, true, true, true, true, false, false, false, false, false, false, false, false, false, false, false, false, false, false, false, false, false] rfl rfl (by kernel_rfl) (fun _ _ _ h => h) (Or.inl ⟨by rfl, ?_⟩) ?_ ?_
              rotate_left
              · intro w'
                go_simp
                with_reducible rfl
              rotate_left
              · simp only [Act.put, List.setIfInBounds_toArray, List.set_cons_zero, List.set_cons_succ, i64_w, i32_w]
                rfl
              refine take_ (i := 8) (N := some 95) (v := ?_) (a' := ?_) #[true, true, true, true, true, true, true, true, true, false, false, false, false, false, false, false, false, false, false, false, false, false, false, false, false] rfl rfl (by kernel_rfl) (fun _ _ _ h => h) (Or.inl ⟨by rfl, ?_⟩) hHeld ?_ ?_
              rotate_left
              · rintro w' ⟨s0, s1, s2, s3, s4, s5, s6, s7, s8, s9, s10, s11, s12⟩
                go_simp
                with_reducible rfl
              rotate_left
              · simp only [Act.put, List.setIfInBounds_toArray, List.set_cons_zero, List.set_cons_succ, i64_w, i32_w]
                rfl
              refine pure_ (i := 9) (N := some 96) (v := .bool true) (a' := ?_) #[true, true, true, true, true, true, true, true, true, true, false, false, false, false, false, false, false, false, false, false, false, false, false, false, false] rfl rfl (by kernel_rfl) (fun _ _ _ h => h) (Or.inl ⟨by rfl, ?_⟩) ?_ ?_
              · intro w'
                go_simp
                try (with_reducible rfl)
              rotate_left
              · simp only [Act.put, List.setIfInBounds_toArray, List.set_cons_zero, List.set_cons_succ, i64_w, i32_w]
                rfl
              refine pure_ (i := 10) (N := some 97) (v := .bool true) (a' := ?_) #[true, true, true, true, true, true, true, true, true, true, true, false, false, false, false, false, false, false, false, false, false, false, false, false, false] rfl rfl (by kernel_rfl) (fun _ _ _ h => h) (Or.inl ⟨by rfl, ?_⟩) ?_ ?_
              · intro w'
                go_simp
                try (with_reducible rfl)
              rotate_left
              · simp only [Act.put, List.setIfInBounds_toArray, List.set_cons_zero, List.set_cons_succ, i64_w, i32_w]
                rfl
              refine pure_ (i := 11) (N := some 98) (v := ?_) (a' := ?_) #[true, true, true, true, true, true, true, true, true, true, true, true, false, false, false, false, false, false, false, false, false, false, false, false, false] rfl rfl (by kernel_rfl) (fun _ _ _ h => h) (Or.inl ⟨by rfl, ?_⟩) ?_ ?_
              rotate_left
              · intro w'
                go_simp
                with_reducible rfl
              rotate_left
              · simp only [Act.put, List.setIfInBounds_toArray, List.set_cons_zero, List.set_cons_succ, i64_w, i32_w]
                rfl
              refine pure_ (i := 14) (N := some 101) (v := ?_) (a' := ?_) #[true, true, true, true, true, true, true, true, true, true, true, true, false, false, true, false, false, false, false, false, false, false, false, false, false] rfl rfl (by kernel_rfl) (fun _ _ _ h => h) (Or.inl ⟨by rfl, ?_⟩) ?_ ?_
              rotate_left
              · intro w'
                go_simp
                with_reducible rfl
              rotate_left
              · simp only [Act.put, List.setIfInBounds_toArray, List.set_cons_zero, List.set_cons_succ, i64_w, i32_w]
                rfl
              refine take_ (i := 12) (N := some 99) (v := .agg #[.int .i64 a0, .int .u32 a1, .int .i64 a2, .int .i64 a3, .int .u32 a4, .int .u32 a5, .int .u32 a6, .int .u32 a7, .slice A8 l8.length c8, .slice Ap m.length cp]) (a' := ?_) #[true, true, true, true, true, true, true, true, true, true, true, true, true, false, true, false, false, false, false, false, false, false, false, false, false] rfl rfl (by kernel_rfl) (fun _ _ _ h => h) (Or.inl ⟨by rfl, ?_⟩) hHeld ?_ ?_
              · rintro w' ⟨s0, s1, s2, s3, s4, s5, s6, s7, s8, s9, s10, s11, s12⟩
                go_simp
                try (with_reducible rfl)
              rotate_left
              · simp only [Act.put, List.setIfInBounds_toArray, List.set_cons_zero, List.set_cons_succ, i64_w, i32_w]
                rfl
              refine take_ (i := 15) (N := some 102) (v := ?_) (a' := ?_) #[true, true, true, true, true, true, true, true, true, true, true, true, true, false, true, true, false, false, false, false, false, false, false, false, false] rfl rfl (by kernel_rfl) (fun _ _ _ h => h) (Or.inl ⟨by rfl, ?_⟩) hHeld ?_ ?_
              rotate_left
              · rintro w' ⟨s0, s1, s2, s3, s4, s5, s6, s7, s8, s9, s10, s11, s12⟩
                go_simp
                with_reducible rfl
              rotate_left
              · simp only [Act.put, List.setIfInBounds_toArray, List.set_cons_zero, List.set_cons_succ, i64_w, i32_w]
                rfl
              refine one_ (i := 13) (N := some 100) #[true, true, true, true, true, true, true, true, true, true, true, true, true, true, true, true, false, false, false, false, false, false, false, false, false] rfl rfl (by kernel_rfl) (by decide) (fun K hK => ?_)
              refine goes_ Try.func14 (by kernel_rfl) rfl #[.agg #[.int .i64 a0, .int .u32 a1, .int .i64 a2, .int .i64 a3, .int .u32 a4, .int .u32 a5, .int .u32 a6, .int .u32 a7, .slice A8 l8.length c8, .slice Ap m.length cp]] (by rfl) rfl rfl (by (try simp only [List.map_toArray, List.map_cons, List.map_nil]); rfl) ?_
              obtain ⟨Wn, hWn⟩ : ∃ W, W = W2 := ⟨_, rfl⟩
              refine (packet_Kind.calls a0 a1 a2 a3 a4 a5 a6 a7 A8 c8 l8 Ap cp m x2 W2 (Kd.C_below H8.out HBB.out) HC8.out (Kd.N_reads' HNN.out).2.2 (Kd.N_reads' HNN.out).2.1 HKE.out).mono ?_
              rintro e w12 ⟨rfl, b12⟩
              have t1 := Lib.hid (blk_below HPP.out b12)
              have t2 := Lib.hid (blk_below HXX.out b12)
              have t3 := Lib.hid (Kd.N_below HNN.out b12)
              have t4 := Lib.hid (HBB.out.trans (b12.mono HBB.out.size))
              clear HPP HXX HNN HBB b12 hWn hHeld
              have HPP := t1
              have HXX := t2
              have HNN := t3
              have HBB := t4
              clear t1 t2 t3 t4
              refine ⟨_, rfl, ?_⟩
              refine hK.out _ _ ⟨(blk_cell HPP.out 0).trans rfl, (blk_cell HPP.out 1).trans rfl, (blk_cell HPP.out 2).trans rfl, (blk_cell HPP.out 3).trans rfl, (blk_cell HPP.out 4).trans rfl, (blk_cell HPP.out 5).trans rfl, (blk_cell HPP.out 6).trans rfl, (blk_cell HPP.out 7).trans rfl, (blk_cell HPP.out 8).trans rfl, (blk_cell HPP.out 9).trans rfl, (blk_cell HXX.out 0).trans rfl, (blk_cell HXX.out 1).trans rfl, (blk_cell HXX.out 2).trans rfl⟩ (fun hHeld => ?_)
              clear hK K
              try (refine norm_ (a' := ?_) ?_ ?_; rotate_left; focus (simp only [Act.put, List.setIfInBounds_toArray, List.set_cons_zero, List.set_cons_succ, i64_w, i32_w]; rfl))
              refine pure_ (i := 16) (N := some 103) (v := .bool true) (a' := ?_) #[true, true, true, true, true, true, true, true, true, true, true, true, true, true, true, true, true, false, false, false, false, false, false, false, false] rfl rfl (by kernel_rfl) (fun _ _ _ h => h) (Or.inl ⟨by rfl, ?_⟩) ?_ ?_
              · intro w'
                go_simp
                try (with_reducible rfl)
              rotate_left
              · simp only [Act.put, List.setIfInBounds_toArray, List.set_cons_zero, List.set_cons_succ, i64_w, i32_w]
                rfl
              refine pure_ (i := 17) (N := some 104) (v := .bool true) (a' := ?_) #[true, true, true, true, true, true, true, true, true, true, true, true, true, true, true, true, true, true, false, false, false, false, false, false, false] rfl rfl (by kernel_rfl) (fun _ _ _ h => h) (Or.inl ⟨by rfl, ?_⟩) ?_ ?_
              · intro w'
                go_simp
                try (with_reducible rfl)
              rotate_left
              · simp only [Act.put, List.setIfInBounds_toArray, List.set_cons_zero, List.set_cons_succ, i64_w, i32_w]
                rfl
              refine pure_ (i := 18) (N := some 105) (v := ?_) (a' := ?_) #[true, true, true, true, true, true, true, true, true, true, true, true, true, true, true, true, true, true, true, false, false, false, false, false, false] rfl rfl (by kernel_rfl) (fun _ _ _ h => h) (Or.inl ⟨by rfl, ?_⟩) ?_ ?_
              rotate_left
              · intro w'
                go_simp
                with_reducible rfl
              rotate_left
              · simp only [Act.put, List.setIfInBounds_toArray, List.set_cons_zero, List.set_cons_succ, i64_w, i32_w]
                rfl
              refine pure_ (i := 21) (N := some 108) (v := ?_) (a' := ?_) #[true, true, true, true, true, true, true, true, true, true, true, true, true, true, true, true, true, true, true, false, false, true, false, false, false] rfl rfl (by kernel_rfl) (fun _ _ _ h => h) (Or.inl ⟨by rfl, ?_⟩) ?_ ?_
              rotate_left
              · intro w'
                go_simp
                with_reducible rfl
              rotate_left
              · simp only [Act.put, List.setIfInBounds_toArray, List.set_cons_zero, List.set_cons_succ, i64_w, i32_w]
                rfl
              refine take_ (i := 19) (N := some 106) (v := .agg #[.int .i64 a0, .int .u32 a1, .int .i64 a2, .int .i64 a3, .int .u32 a4, .int .u32 a5, .int .u32 a6, .int .u32 a7, .slice A8 l8.length c8, .slice Ap m.length cp]) (a' := ?_) #[true, true, true, true, true, true, true, true, true, true, true, true, true, true, true, true, true, true, true, true, false, true, false, false, false] rfl rfl (by kernel_rfl) (fun _ _ _ h => h) (Or.inl ⟨by rfl, ?_⟩) hHeld ?_ ?_
              · rintro w' ⟨s0, s1, s2, s3, s4, s5, s6, s7, s8, s9, s10, s11, s12⟩
                go_simp
                try (with_reducible rfl)
              rotate_left
              · simp only [Act.put, List.setIfInBounds_toArray, List.set_cons_zero, List.set_cons_succ, i64_w, i32_w]
                rfl
              refine one_ (i := 20) (N := some 107) #[true, true, true, true, true, true, true, true, true, true, true, true, true, true, true, true, true, true, true, true, true, true, false, false, false] rfl rfl (by kernel_rfl) (by decide) (fun K hK => ?_)
              refine goes_ Try.func16 (by kernel_rfl) rfl #[.agg #[.int .i64 a0, .int .u32 a1, .int .i64 a2, .int .i64 a3, .int .u32 a4, .int .u32 a5, .int .u32 a6, .int .u32 a7, .slice A8 l8.length c8, .slice Ap m.length cp]] (by rfl) rfl rfl (by (try simp only [List.map_toArray, List.map_cons, List.map_nil]); rfl) ?_
              refine (packet_Client.calls a0 a1 a2 a3 a4 a5 a6 a7 A8 c8 l8 Ap cp m sc w12 (Kd.C_below H8.out HBB.out) HC8.out (Kd.N_reads' HNN.out).2.2 (Kd.N_reads' HNN.out).2.1 HCE.out).mono ?_
              rintro e w13 ⟨rfl, b13⟩
              have t1 := Lib.hid (blk_below HPP.out b13)
              have t2 := Lib.hid (blk_below HXX.out b13)
              have t4 := Lib.hid (HBB.out.trans (b13.mono HBB.out.size))
              clear HPP HXX HNN HBB b13 hHeld
              have HPP := t1
              have HXX := t2
              have HBB := t4
              clear t1 t2 t4
              refine ⟨_, rfl, ?_⟩
              refine hK.out _ _ ⟨(blk_cell HPP.out 0).trans rfl, (blk_cell HPP.out 1).trans rfl, (blk_cell HPP.out 2).trans rfl, (blk_cell HPP.out 3).trans rfl, (blk_cell HPP.out 4).trans rfl, (blk_cell HPP.out 5).trans rfl, (blk_cell HPP.out 6).trans rfl, (blk_cell HPP.out 7).trans rfl, (blk_cell HPP.out 8).trans rfl, (blk_cell HPP.out 9).trans rfl, (blk_cell HXX.out 0).trans rfl, (blk_cell HXX.out 1).trans rfl, (blk_cell HXX.out 2).trans rfl⟩ (fun hHeld => ?_)
              clear hK K
              try (refine norm_ (a' := ?_) ?_ ?_; rotate_left; focus (simp only [Act.put, List.setIfInBounds_toArray, List.set_cons_zero, List.set_cons_succ, i64_w, i32_w]; rfl))
              refine pure_ (i := 22) (N := some 109) (v := .bool true) (a' := ?_) #[true, true, true, true, true, true, true, true, true, true, true, true, true, true, true, true, true, true, true, true, true, true, true, false, false] rfl rfl (by kernel_rfl) (fun _ _ _ h => h) (Or.inl ⟨by rfl, ?_⟩) ?_ ?_
              · intro w'
                go_simp
                try (with_reducible rfl)
              rotate_left
              · simp only [Act.put, List.setIfInBounds_toArray, List.set_cons_zero, List.set_cons_succ, i64_w, i32_w]
                rfl
              refine pure_ (i := 23) (N := some 110) (v := .bool true) (a' := ?_) #[true, true, true, true, true, true, true, true, true, true, true, true, true, true, true, true, true, true, true, true, true, true, true, true, false] rfl rfl (by kernel_rfl) (fun _ _ _ h => h) (Or.inl ⟨by rfl, ?_⟩) ?_ ?_
              · intro w'
                go_simp
                try (with_reducible rfl)
              rotate_left
              · simp only [Act.put, List.setIfInBounds_toArray, List.set_cons_zero, List.set_cons_succ, i64_w, i32_w]
                rfl
              refine pure_ (i := 24) (N := some 6) (v := ?_) (a' := ?_) #[true, true, true, true, true, true, true, true, true, true, true, true, true, true, true, true, true, true, true, true, true, true, true, true, true] rfl rfl (by kernel_rfl) (fun _ _ _ h => h) (Or.inl ⟨by rfl, ?_⟩) ?_ ?_
              rotate_left
              · intro w'
                go_simp
                with_reducible rfl
              rotate_left
              · simp only [Act.put, List.setIfInBounds_toArray, List.set_cons_zero, List.set_cons_succ, i64_w, i32_w]
                rfl
              refine done_ (by kernel_rfl) ?_
              go_wp2_with fail
              go_ret
              exact ⟨by first | rfl | simp, HBB.out⟩
            · rw [if_neg hz] at HCE
              have hz2 : ((name.length : Int) == 0) = false := beq_eq_false_iff_ne.2 (by omega)
              obtain ⟨sc, hsc⟩ : ∃ sc, sc = strOfNums name := ⟨_, rfl⟩
              rw [← hsc] at s1 HCE
              clear hsc hz
              go_wp2_with fail
              refine start_ (n := 25) (S := fun w' => w'.cell? ⟨gp, 0, none⟩ = some (.int .i64 a0) ∧ w'.cell? ⟨gp, 1, none⟩ = some (.int .u32 a1) ∧ w'.cell? ⟨gp, 2, none⟩ = some (.int .i64 a2) ∧ w'.cell? ⟨gp, 3, none⟩ = some (.int .i64 a3) ∧ w'.cell? ⟨gp, 4, none⟩ = some (.int .u32 a4) ∧ w'.cell? ⟨gp, 5, none⟩ = some (.int .u32 a5) ∧ w'.cell? ⟨gp, 6, none⟩ = some (.int .u32 a6) ∧ w'.cell? ⟨gp, 7, none⟩ = some (.int .u32 a7) ∧ w'.cell? ⟨gp, 8, none⟩ = some (.slice A8 l8.length c8) ∧ w'.cell? ⟨gp, 9, none⟩ = some (.slice Ap m.length cp) ∧ w'.cell? ⟨gx, 0, none⟩ = some (.int .i64 x0) ∧ w'.cell? ⟨gx, 1, none⟩ = some (.int .i64 x1) ∧ w'.cell? ⟨gx, 2, none⟩ = some (.int .i64 x2)) (ds := []) #[false, false, false, false, false, false, false, false, false, false, false, false, false, false, false, false, false, false, false, false, false, false, false, false, false] (by kernel_rfl) rfl rfl ⟨e0, e1, e2, e3, e4, e5, e6, e7, e8, e9, y0, y1, y2⟩ (fun hHeld => ?_)
              obtain ⟨W2, hW2⟩ : ∃ W2, w11.drew = W2 := ⟨_, rfl⟩
              have hbw : Below w11.heap.size w11 W2 := by rw [← hW2]; exact below_drew (Below.refl _ _)
              rw [hW2] at hHeld ⊢
              clear hW2
              have HBW := Lib.hid hbw
              have HPP := Lib.hid (blk_below P11.out hbw)
              have HXX := Lib.hid (blk_below X11.out hbw)
              have HNN := Lib.hid (Kd.N_below N11.out hbw)
              have HBB := Lib.hid (B11.out.trans (hbw.mono B11.out.size))
              clear hbw
              refine pure_ (i := 0) (N := some 87) (v := ?_) (a' := ?_) #[true, false, false, false, false, false, false, false, false, false, false, false, false, false, false, false, false, false, false, false, false, false, false, false, false] rfl rfl (by kernel_rfl) (fun _ _ _ h => h) (Or.inl ⟨by rfl, ?_⟩) ?_ ?_
              rotate_left
              · intro w'
                go_simp
                with_reducible rfl
              rotate_left
              · simp only [Act.put, List.setIfInBounds_toArray, List.set_cons_zero, List.set_cons_succ, i64_w, i32_w]
                rfl
              refine pure_ (i := 1) (N := some 88) (v := .int .i64 x0) (a' := ?_) #[true, true, false, false, false, false, false, false, false, false, false, false, false, false, false, false, false, false, false, false, false, false, false, false, false] rfl rfl (by kernel_rfl) (fun _ _ _ h => h) (Or.inl ⟨by rfl, ?_⟩) ?_ ?_
              · intro w'
                go_simp
                try (with_reducible rfl)
              rotate_left
              · simp only [Act.put, List.setIfInBounds_toArray, List.set_cons_zero, List.set_cons_succ, i64_w, i32_w]
                rfl
              refine pure_ (i := 2) (N := some 89) (v := ?_) (a' := ?_) #[true, true, true, false, false, false, false, false, false, false, false, false, false, false, false, false, false, false, false, false, false, false, false, false, false] rfl rfl (by kernel_rfl) (fun _ _ _ h => h) (Or.inl ⟨by rfl, ?_⟩) ?_ ?_
              rotate_left
              · intro w'
                go_simp
                with_reducible rfl
              rotate_left
              · simp only [Act.put, List.setIfInBounds_toArray, List.set_cons_zero, List.set_cons_succ, i64_w, i32_w]
                rfl
              refine take_ (i := 3) (N := some 90) (v := ?_) (a' := ?_) #[true, true, true, true, false, false, false, false, false, false, false, false, false, false, false, false, false, false, false, false, false, false, false, false, false] rfl rfl (by kernel_rfl) (fun _ _ _ h => h) (Or.inl ⟨by rfl, ?_⟩) hHeld ?_ ?_
              rotate_left
              · rintro w' ⟨s0, s1, s2, s3, s4, s5, s6, s7, s8, s9, s10, s11, s12⟩
                go_simp
                with_reducible rfl
              rotate_left
              · simp only [Act.put, List.setIfInBounds_toArray, List.set_cons_zero, List.set_cons_succ, i64_w, i32_w]
                rfl
              refine pure_ (i := 4) (N := some 91) (v := .bool true) (a' := ?_) #[true, true, true, true, true, false, false, false, false, false, false, false, false, false, false, false, false, false, false, false, false, false, false, false, false] rfl rfl (by kernel_rfl) (fun _ _ _ h => h) (Or.inl ⟨by rfl, ?_⟩) ?_ ?_
              · intro w'
                go_simp
                try (with_reducible rfl)
              rotate_left
              · simp only [Act.put, List.setIfInBounds_toArray, List.set_cons_zero, List.set_cons_succ, i64_w, i32_w]
                rfl
              refine pure_ (i := 5) (N := some 92) (v := ?_) (a' := ?_) #[true, true, true, true, true, true, false, false, false, false, false, false, false, false, false, false, false, false, false, false, false, false, false, false, false] rfl rfl (by kernel_rfl) (fun _ _ _ h => h) (Or.inl ⟨by rfl, ?_⟩) ?_ ?_
              rotate_left
              · intro w'
                go_simp
                with_reducible rfl
              rotate_left
              · simp only [Act.put, List.setIfInBounds_toArray, List.set_cons_zero, List.set_cons_succ, i64_w, i32_w]
                rfl
              refine pure_ (i := 6) (N := some 93) (v := ?_) (a' := ?_) #[true, true, true, true, true, true, true, false, false, false, false, false, false, false, false, false, false, false, false, false, false, false, false, false, false] rfl rfl (by kernel_rfl) (fun _ _ _ h => h) (Or.inl ⟨by rfl, ?_⟩) ?_ ?_
              rotate_left
              · intro w'
                go_simp
                with_reducible rfl
              rotate_left
              · simp only [Act.put, List.setIfInBounds_toArray, List.set_cons_zero, List.set_cons_succ, i64_w, i32_w]
                rfl
              refine pure_ (i := 7) (N := some 94) (v := ?_) (a' := ?_) #[true, true, true, true, true, true, true, true, false, false, false, false, false, false, false, false, false, false, false, false, false, false, false, false, false] rfl rfl (by kernel_rfl) (fun _ _ _ h => h) (Or.inl ⟨by rfl, ?_⟩) ?_ ?_
              rotate_left
              · intro w'
                go_simp
                with_reducible rfl
              rotate_left
              · simp only [Act.put, List.setIfInBounds_toArray, List.set_cons_zero, List.set_cons_succ, i64_w, i32_w]
                rfl
              refine take_ (i := 8) (N := some 95) (v := ?_) (a' := ?_) #[true, true, true, true, true, true, true, true, true, false, false, false, false, false, false, false, false, false, false, false, false, false, false, false, false] rfl rfl (by kernel_rfl) (fun _ _ _ h => h) (Or.inl ⟨by rfl, ?_⟩) hHeld ?_ ?_
              rotate_left
              · rintro w' ⟨s0, s1, s2, s3, s4, s5, s6, s7, s8, s9, s10, s11, s12⟩
                go_simp
                with_reducible rfl
              rotate_left
              · simp only [Act.put, List.setIfInBounds_toArray, List.set_cons_zero, List.set_cons_succ, i64_w, i32_w]
                rfl
              refine pure_ (i := 9) (N := some 96) (v := .bool true) (a' := ?_) #[true, true, true, true, true, true, true, true, true, true, false, false, false, false, false, false, false, false, false, false, false, false, false, false, false] rfl rfl (by kernel_rfl) (fun _ _ _ h => h) (Or.inl ⟨by rfl, ?_⟩) ?_ ?_
              · intro w'
                go_simp
                try (with_reducible rfl)
              rotate_left
              · simp only [Act.put, List.setIfInBounds_toArray, List.set_cons_zero, List.set_cons_succ, i64_w, i32_w]
                rfl
              refine pure_ (i := 10) (N := some 97) (v := .bool true) (a' := ?_) #[true, true, true, true, true, true, true, true, true, true, true, false, false, false, false, false, false, false, false, false, false, false, false, false, false] rfl rfl (by kernel_rfl) (fun _ _ _ h => h) (Or.inl ⟨by rfl, ?_⟩) ?_ ?_
              · intro w'
                go_simp
                try (with_reducible rfl)
              rotate_left
              · simp only [Act.put, List.setIfInBounds_toArray, List.set_cons_zero, List.set_cons_succ, i64_w, i32_w]
                rfl
              refine pure_ (i := 11) (N := some 98) (v := ?_) (a' := ?_) #[true, true, true, true, true, true, true, true, true, true, true, true, false, false, false, false, false, false, false, false, false, false, false, false, false] rfl rfl (by kernel_rfl) (fun _ _ _ h => h) (Or.inl ⟨by rfl, ?_⟩) ?_ ?_
              rotate_left
              · intro w'
                go_simp
                with_reducible rfl
              rotate_left
              · simp only [Act.put, List.setIfInBounds_toArray, List.set_cons_zero, List.set_cons_succ, i64_w, i32_w]
                rfl
              refine pure_ (i := 14) (N := some 101) (v := ?_) (a' := ?_) #[true, true, true, true, true, true, true, true, true, true, true, true, false, false, true, false, false, false, false, false, false, false, false, false, false] rfl rfl (by kernel_rfl) (fun _ _ _ h => h) (Or.inl ⟨by rfl, ?_⟩) ?_ ?_
              rotate_left
              · intro w'
                go_simp
                with_reducible rfl
              rotate_left
              · simp only [Act.put, List.setIfInBounds_toArray, List.set_cons_zero, List.set_cons_succ, i64_w, i32_w]
                rfl
              refine take_ (i := 12) (N := some 99) (v := .agg #[.int .i64 a0, .int .u32 a1, .int .i64 a2, .int .i64 a3, .int .u32 a4, .int .u32 a5, .int .u32 a6, .int .u32 a7, .slice A8 l8.length c8, .slice Ap m.length cp]) (a' := ?_) #[true, true, true, true, true, true, true, true, true, true, true, true, true, false, true, false, false, false, false, false, false, false, false, false, false] rfl rfl (by kernel_rfl) (fun _ _ _ h => h) (Or.inl ⟨by rfl, ?_⟩) hHeld ?_ ?_
              · rintro w' ⟨s0, s1, s2, s3, s4, s5, s6, s7, s8, s9, s10, s11, s12⟩
                go_simp
                try (with_reducible rfl)
              rotate_left
              · simp only [Act.put, List.setIfInBounds_toArray, List.set_cons_zero, List.set_cons_succ, i64_w, i32_w]
                rfl
              refine take_ (i := 15) (N := some 102) (v := ?_) (a' := ?_) #[true, true, true, true, true, true, true, true, true, true, true, true, true, false, true, true, false, false, false, false, false, false, false, false, false] rfl rfl (by kernel_rfl) (fun _ _ _ h => h) (Or.inl ⟨by rfl, ?_⟩) hHeld ?_ ?_
              rotate_left
              · rintro w' ⟨s0, s1, s2, s3, s4, s5, s6, s7, s8, s9, s10, s11, s12⟩
                go_simp
                with_reducible rfl
              rotate_left
              · simp only [Act.put, List.setIfInBounds_toArray, List.set_cons_zero, List.set_cons_succ, i64_w, i32_w]
                rfl
              refine one_ (i := 13) (N := some 100) #[true, true, true, true, true, true, true, true, true, true, true, true, true, true, true, true, false, false, false, false, false, false, false, false, false] rfl rfl (by kernel_rfl) (by decide) (fun K hK => ?_)
              refine goes_ Try.func14 (by kernel_rfl) rfl #[.agg #[.int .i64 a0, .int .u32 a1, .int .i64 a2, .int .i64 a3, .int .u32 a4, .int .u32 a5, .int .u32 a6, .int .u32 a7, .slice A8 l8.length c8, .slice Ap m.length cp]] (by rfl) rfl rfl (by (try simp only [List.map_toArray, List.map_cons, List.map_nil]); rfl) ?_
              obtain ⟨Wn, hWn⟩ : ∃ W, W = W2 := ⟨_, rfl⟩
              refine (packet_Kind.calls a0 a1 a2 a3 a4 a5 a6 a7 A8 c8 l8 Ap cp m x2 W2 (Kd.C_below H8.out HBB.out) HC8.out (Kd.N_reads' HNN.out).2.2 (Kd.N_reads' HNN.out).2.1 HKE.out).mono ?_
              rintro e w12 ⟨rfl, b12⟩
              have t1 := Lib.hid (blk_below HPP.out b12)
              have t2 := Lib.hid (blk_below HXX.out b12)
              have t3 := Lib.hid (Kd.N_below HNN.out b12)
              have t4 := Lib.hid (HBB.out.trans (b12.mono HBB.out.size))
              clear HPP HXX HNN HBB b12 hWn hHeld
              have HPP := t1
              have HXX := t2
              have HNN := t3
              have HBB := t4
              clear t1 t2 t3 t4
              refine ⟨_, rfl, ?_⟩
              refine hK.out _ _ ⟨(blk_cell HPP.out 0).trans rfl, (blk_cell HPP.out 1).trans rfl, (blk_cell HPP.out 2).trans rfl, (blk_cell HPP.out 3).trans rfl, (blk_cell HPP.out 4).trans rfl, (blk_cell HPP.out 5).trans rfl, (blk_cell HPP.out 6).trans rfl, (blk_cell HPP.out 7).trans rfl, (blk_cell HPP.out 8).trans rfl, (blk_cell HPP.out 9).trans rfl, (blk_cell HXX.out 0).trans rfl, (blk_cell HXX.out 1).trans rfl, (blk_cell HXX.out 2).trans rfl⟩ (fun hHeld => ?_)
              clear hK K
              try (refine norm_ (a' := ?_) ?_ ?_; rotate_left; focus (simp only [Act.put, List.setIfInBounds_toArray, List.set_cons_zero, List.set_cons_succ, i64_w, i32_w]; rfl))
              refine pure_ (i := 16) (N := some 103) (v := .bool true) (a' := ?_) #[true, true, true, true, true, true, true, true, true, true, true, true, true, true, true, true, true, false, false, false, false, false, false, false, false] rfl rfl (by kernel_rfl) (fun _ _ _ h => h) (Or.inl ⟨by rfl, ?_⟩) ?_ ?_
              · intro w'
                go_simp
                try (with_reducible rfl)
              rotate_left
              · simp only [Act.put, List.setIfInBounds_toArray, List.set_cons_zero, List.set_cons_succ, i64_w, i32_w]
                rfl
              refine pure_ (i := 17) (N := some 104) (v := .bool true) (a' := ?_) #[true, true, true, true, true, true, true, true, true, true, true, true, true, true, true, true, true, true, false, false, false, false, false, false, false] rfl rfl (by kernel_rfl) (fun _ _ _ h => h) (Or.inl ⟨by rfl, ?_⟩) ?_ ?_
              · intro w'
                go_simp
                try (with_reducible rfl)
              rotate_left
              · simp only [Act.put, List.setIfInBounds_toArray, List.set_cons_zero, List.set_cons_succ, i64_w, i32_w]
                rfl
              refine pure_ (i := 18) (N := some 105) (v := ?_) (a' := ?_) #[true, true, true, true, true, true, true, true, true, true, true, true, true, true, true, true, true, true, true, false, false, false, false, false, false] rfl rfl (by kernel_rfl) (fun _ _ _ h => h) (Or.inl ⟨by rfl, ?_⟩) ?_ ?_
              rotate_left
              · intro w'
                go_simp
                with_reducible rfl
              rotate_left
              · simp only [Act.put, List.setIfInBounds_toArray, List.set_cons_zero, List.set_cons_succ, i64_w, i32_w]
                rfl
              refine pure_ (i := 21) (N := some 108) (v := ?_) (a' := ?_) #[true, true, true, true, true, true, true, true, true, true, true, true, true, true, true, true, true, true, true, false, false, true, false, false, false] rfl rfl (by kernel_rfl) (fun _ _ _ h => h) (Or.inl ⟨by rfl, ?_⟩) ?_ ?_
              rotate_left
              · intro w'
                go_simp
                with_reducible rfl
              rotate_left
              · simp only [Act.put, List.setIfInBounds_toArray, List.set_cons_zero, List.set_cons_succ, i64_w, i32_w]
                rfl
              refine take_ (i := 19) (N := some 106) (v := .agg #[.int .i64 a0, .int .u32 a1, .int .i64 a2, .int .i64 a3, .int .u32 a4, .int .u32 a5, .int .u32 a6, .int .u32 a7, .slice A8 l8.length c8, .slice Ap m.length cp]) (a' := ?_) #[true, true, true, true, true, true, true, true, true, true, true, true, true, true, true, true, true, true, true, true, false, true, false, false, false] rfl rfl (by kernel_rfl) (fun _ _ _ h => h) (Or.inl ⟨by rfl, ?_⟩) hHeld ?_ ?_
              · rintro w' ⟨s0, s1, s2, s3, s4, s5, s6, s7, s8, s9, s10, s11, s12⟩
                go_simp
                try (with_reducible rfl)
              rotate_left
              · simp only [Act.put, List.setIfInBounds_toArray, List.set_cons_zero, List.set_cons_succ, i64_w, i32_w]
                rfl
              refine one_ (i := 20) (N := some 107) #[true, true, true, true, true, true, true, true, true, true, true, true, true, true, true, true, true, true, true, true, true, true, false, false, false] rfl rfl (by kernel_rfl) (by decide) (fun K hK => ?_)
              refine goes_ Try.func16 (by kernel_rfl) rfl #[.agg #[.int .i64 a0, .int .u32 a1, .int .i64 a2, .int .i64 a3, .int .u32 a4, .int .u32 a5, .int .u32 a6, .int .u32 a7, .slice A8 l8.length c8, .slice Ap m.length cp]] (by rfl) rfl rfl (by (try simp only [List.map_toArray, List.map_cons, List.map_nil]); rfl) ?_
              refine (packet_Client.calls a0 a1 a2 a3 a4 a5 a6 a7 A8 c8 l8 Ap cp m sc w12 (Kd.C_below H8.out HBB.out) HC8.out (Kd.N_reads' HNN.out).2.2 (Kd.N_reads' HNN.out).2.1 HCE.out).mono ?_
              rintro e w13 ⟨rfl, b13⟩
              have t1 := Lib.hid (blk_below HPP.out b13)
              have t2 := Lib.hid (blk_below HXX.out b13)
              have t4 := Lib.hid (HBB.out.trans (b13.mono HBB.out.size))
              clear HPP HXX HNN HBB b13 hHeld
              have HPP := t1
              have HXX := t2
              have HBB := t4
              clear t1 t2 t4
              refine ⟨_, rfl, ?_⟩
              refine hK.out _ _ ⟨(blk_cell HPP.out 0).trans rfl, (blk_cell HPP.out 1).trans rfl, (blk_cell HPP.out 2).trans rfl, (blk_cell HPP.out 3).trans rfl, (blk_cell HPP.out 4).trans rfl, (blk_cell HPP.out 5).trans rfl, (blk_cell HPP.out 6).trans rfl, (blk_cell HPP.out 7).trans rfl, (blk_cell HPP.out 8).trans rfl, (blk_cell HPP.out 9).trans rfl, (blk_cell HXX.out 0).trans rfl, (blk_cell HXX.out 1).trans rfl, (blk_cell HXX.out 2).trans rfl⟩ (fun hHeld => ?_)
              clear hK K
              try (refine norm_ (a' := ?_) ?_ ?_; rotate_left; focus (simp only [Act.put, List.setIfInBounds_toArray, List.set_cons_zero, List.set_cons_succ, i64_w, i32_w]; rfl))
              refine pure_ (i := 22) (N := some 109) (v := .bool true) (a' := ?_) #[true, true, true, true, true, true, true, true, true, true, true, true, true, true, true, true, true, true, true, true, true, true, true, false, false] rfl rfl (by kernel_rfl) (fun _ _ _ h => h) (Or.inl ⟨by rfl, ?_⟩) ?_ ?_
              · intro w'
                go_simp
                try (with_reducible rfl)
              rotate_left
              · simp only [Act.put, List.setIfInBounds_toArray, List.set_cons_zero, List.set_cons_succ, i64_w, i32_w]
                rfl
              refine pure_ (i := 23) (N := some 110) (v := .bool true) (a' := ?_) #[true, true, true, true, true, true, true, true, true, true, true, true, true, true, true, true, true, true, true, true, true, true, true, true, false] rfl rfl (by kernel_rfl) (fun _ _ _ h => h) (Or.inl ⟨by rfl, ?_⟩) ?_ ?_
              · intro w'
                go_simp
                try (with_reducible rfl)
              rotate_left
              · simp only [Act.put, List.setIfInBounds_toArray, List.set_cons_zero, List.set_cons_succ, i64_w, i32_w]
                rfl
              refine pure_ (i := 24) (N := some 6) (v := ?_) (a' := ?_) #[true, true, true, true, true, true, true, true, true, true, true, true, true, true, true, true, true, true, true, true, true, true, true, true, true] rfl rfl (by kernel_rfl) (fun _ _ _ h => h) (Or.inl ⟨by rfl, ?_⟩) ?_ ?_
              rotate_left
              · intro w'
                go_simp
                with_reducible rfl
              rotate_left
              · simp only [Act.put, List.setIfInBounds_toArray, List.set_cons_zero, List.set_cons_succ, i64_w, i32_w]
                rfl
              refine done_ (by kernel_rfl) ?_
              go_wp2_with fail
              go_ret
              exact ⟨by first | rfl | simp, HBB.out⟩
        · have q2' : (z2 != 0) = true := bne_iff_ne.2 q2
          go_wp2_with fail
          go_ret
          exact ⟨rfl, B5.out⟩
      · have q1' : (z1 != 0) = true := bne_iff_ne.2 q1
        go_wp2_with fail
        go_ret
        exact ⟨rfl, B5.out⟩
    · have q0' : (z0 != 0) = true := bne_iff_ne.2 q0
      go_wp2_with fail
      go_ret
      exact ⟨rfl, B5.out⟩

def lessorlaw03_PacketAsks.f (a0 a1 a2 a3 a4 a5 a6 a7 : Int) (l8 : List Int) (l9 : List OptF) (x0 x1 x2 : Int) (l2 : List Int) : Option Bool := if (x0 ≤ 9223372036854775807 ∧ x1 ≤ 9223372036854775807 ∧ x2 ≤ 9223372036854775807) ∧ (∀ x ∈ l9, ∀ y ∈ x.f1, 0 ≤ y ∧ y ≤ 255) ∧ ∀ y ∈ l2, 0 ≤ y ∧ y ≤ 255 then some true else none
theorem lessorlaw03_PacketAsks.calls (a0 a1 a2 a3 a4 a5 a6 a7 : Int) (A8 : Option Addr) (c8 : Nat) (l8 : List Int) (A9 : Option Addr) (c9 : Nat) (l9 : List OptF) (x0 x1 x2 : Int) (A2 : Option Addr) (c2 : Nat) (l2 : List Int) (r : Bool) (w : World) (hr8 : (Kd.int .u8).C w A8 l8.length l8) (hc8 : l8.length ≤ c8) (hr9 : Kd.C k42 w A9 l9.length l9) (hc9 : l9.length ≤ c9) (hr2 : (Kd.int .u8).C w A2 l2.length l2) (hc2 : l2.length ≤ c2) (h : lessorlaw03_PacketAsks.f a0 a1 a2 a3 a4 a5 a6 a7 l8 l9 x0 x1 x2 l2 = some r) :
    Calls Try.prog 5 #[.agg #[.int .i64 a0, .int .u32 a1, .int .i64 a2, .int .i64 a3, .int .u32 a4, .int .u32 a5, .int .u32 a6, .int .u32 a7, .slice A8 l8.length c8, .slice A9 l9.length c9], .agg #[.int .i64 x0, .int .i64 x1, .int .i64 x2], .slice A2 l2.length c2] w fun e w' => e = .returned (.bool r) ∧ Below w.heap.size w w' := by
  unfold lessorlaw03_PacketAsks.f at h
  split at h
  case isFalse => cases h
  rename_i hc
  obtain rfl : true = r := Option.some.inj h
  exact PacketAsks_calls a0 a1 a2 a3 a4 a5 a6 a7 A8 c8 l8 A9 c9 l9 x0 x1 x2 A2 c2 l2 w hr8 hc8 hr9 hc9 hr2 hc2 hc.1.1 hc.1.2.1 hc.1.2.2 hc.2.1 hc.2.2
end Go.Proofs.Ytmbfdmceameghaa
