/-
  The statement PacketBack walked: what is encoded is decoded, and what is decoded is encoded again. Condition: bytes, and 32-bit numbers.
  Printed: StPacketBack.
  The statement PacketBack over numbers and lists: its packets and bytes are of bytes (the rest is in the walk of the law). No condition.
-/
import Derived.Test.YtmbfdmceameghaaDoorMPB3
import Derived.Test.YtmbfdmceameghaaDoorMPB8
import Derived.Test.YtmbfdmceameghaaDoorMPB1

section
namespace Go.Proofs.YtmbfdmceameghaaDoor
open Go.RowKit Go.Proofs.YtmbfdmceameghaaDoor.Pr Go.Proofs.YtmbfdmceameghaaDoorW.PrintWords Go.Proofs.YtmbfdmceameghaaDoorW.PrintLast Go.Proofs.YtmbfdmceameghaaDoorW.PrintMore
attribute [local go_sem] max2_int min2_int max_two min_two max_three min_three max_four min_four
set_option linter.unusedVariables false
set_option linter.unusedSimpArgs false

instance (l : List Int) : Decidable (PQ.bytesL l) := by unfold PQ.bytesL; infer_instance
def lessorlaw03_PacketBack.f (a0 a1 a2 a3 a4 a5 a6 a7 : Int) (l8 : List Int) (l9 : List OptP) (l : List Int) : Option Bool := if pkOk a1 a4 a5 a6 a7 ∧ PQ.bytesL l8 ∧ (∀ x ∈ l9, PQ.bytesL x.f1) ∧ PQ.bytesL l then some true else none
theorem awakeC (w : World) : Calls Tryd.prog 5 #[] w fun e w' => e = .returned (.bool true) ∧ Below w.heap.size w w' := lessorlaw03_awake.calls 5000 true w (by decide +kernel)
theorem few3 (a0 a1 a2 a3 a4 a5 a6 a7 : Int) (l8 : List Int) (l9 : List OptP) : ∃ b, lessorref03_Few.f 5000 a0 a1 a2 a3 a4 a5 a6 a7 l8 l9 = some b ∧ (b = true → PO.few l9 ∧ l9.length ≤ 1000000) := by
  obtain ⟨u, hu, hfew⟩ := PD.few_eq l9 5000 (by omega)
  unfold lessorref03_Few.f
  rw [hu]
  cases u with
  | false => exact ⟨false, rfl, fun h => by cases h⟩
  | true => exact ⟨_, rfl, fun _ => by have hf := hfew.1 rfl; exact ⟨⟨by have := hf.1; omega, hf.2⟩, by have := hf.1; omega⟩⟩
set_option maxHeartbeats 8000000 in
set_option maxRecDepth 100000 in
theorem lessorlaw03_PacketBack.calls (a0 a1 a2 a3 a4 a5 a6 a7 : Int) (A8 : Option Addr) (c8 : Nat) (l8 : List Int) (A9 : Option Addr) (c9 : Nat) (l9 : List OptP) (A : Option Addr) (c : Nat) (l : List Int) (r : Bool) (w : World) (h8 : (Kd.int .u8).C w A8 l8.length l8) (hc8 : l8.length ≤ c8) (h9 : Kd.C k39 w A9 l9.length l9) (hc9 : l9.length ≤ c9) (hl : (Kd.int .u8).C w A l.length l) (hc : l.length ≤ c) (h : lessorlaw03_PacketBack.f a0 a1 a2 a3 a4 a5 a6 a7 l8 l9 l = some r) :
    Calls Tryd.prog 4 #[.agg #[.int .i64 a0, .int .u32 a1, .int .i64 a2, .int .i64 a3, .int .u32 a4, .int .u32 a5, .int .u32 a6, .int .u32 a7, .slice A8 l8.length c8, .slice A9 l9.length c9], .slice A l.length c] w fun e w' => e = .returned (.bool r) ∧ Below w.heap.size w w' := by
  unfold lessorlaw03_PacketBack.f at h
  split at h
  case isFalse => cases h
  rename_i hcond
  obtain ⟨hu, hb8, hb9, hbl⟩ := hcond
  obtain rfl : true = r := Option.some.inj h
  clear h
  obtain ⟨u, hfu, hfew⟩ := few3 a0 a1 a2 a3 a4 a5 a6 a7 l8 l9
  have HF := Lib.hid (fun W (hW : Below w.heap.size w W) => lessorref03_Few.calls 5000 a0 a1 a2 a3 a4 a5 a6 a7 A8 c8 l8 A9 c9 l9 u W (Kd.C_below h8 hW) hc8 (Kd.C_below h9 hW) hc9 hfu)
  have H8 := Lib.hid h8
  have H9 := Lib.hid h9
  have HL := Lib.hid hl
  have HC := Lib.hid hc
  have HU := Lib.hid hu
  have HC8 := Lib.hid hc8
  have HC9 := Lib.hid hc9
  have HB8 := Lib.hid hb8
  have HB9 := Lib.hid hb9
  have HBL := Lib.hid hbl
  have HFEW := Lib.hid hfew
  clear h8 h9 hl hc hu hc8 hc9 hb8 hb9 hbl hfew hfu
  go_enter Tryd.func4, Tryd.ntmps4
  go_upto_region 1 with fail
  obtain ⟨bp, hbp⟩ : ∃ b, w.heap.size = b := ⟨_, rfl⟩
  obtain ⟨w1, hw1⟩ : ∃ W, w.alloc (.cells #[.int .i64 a0, .int .u32 a1, .int .i64 a2, .int .i64 a3, .int .u32 a4, .int .u32 a5, .int .u32 a6, .int .u32 a7, .slice A8 l8.length c8, .slice A9 l9.length c9] 28) = W := ⟨_, rfl⟩
  have HP : Hid (w1.heap[bp]? = some (.cells #[.int .i64 a0, .int .u32 a1, .int .i64 a2, .int .i64 a3, .int .u32 a4, .int .u32 a5, .int .u32 a6, .int .u32 a7, .slice A8 l8.length c8, .slice A9 l9.length c9] 28 (0, 0))) := by show _ = _; rw [← hw1, ← hbp]; exact blk_new _ _
  have HW : Hid (Below w.heap.size w w1) := by show Below _ _ _; rw [← hw1]; exact below_alloc (Below.refl _ _) _
  try rw [hbp]
  try rw [hw1]
  clear hw1 hbp
  go_wp2_with fail
  refine (awakeC _).mono ?_
  rintro e W ⟨rfl, hb⟩
  have HP2 : Hid (_ = some _) := (hb.block _ (blk_lt HP.out)).trans HP.out
  have HW2 := Lib.hid (HW.out.trans (hb.mono HW.out.size))
  clear hb HP HW
  have HP := HP2
  have HW := HW2
  clear HP2 HW2
  have y0 := (blk_cell HP.out 0).trans rfl
  have y1 := (blk_cell HP.out 1).trans rfl
  have y2 := (blk_cell HP.out 2).trans rfl
  have y3 := (blk_cell HP.out 3).trans rfl
  have y4 := (blk_cell HP.out 4).trans rfl
  have y5 := (blk_cell HP.out 5).trans rfl
  have y6 := (blk_cell HP.out 6).trans rfl
  have y7 := (blk_cell HP.out 7).trans rfl
  have y8 := (blk_cell HP.out 8).trans rfl
  have y9 := (blk_cell HP.out 9).trans rfl
  go_wp2_with fail
  refine (HF.out _ HW.out).mono ?_
  rintro e W ⟨rfl, hb⟩
  clear y0 y1 y2 y3 y4 y5 y6 y7 y8 y9
  have HP2 : Hid (_ = some _) := (hb.block _ (blk_lt HP.out)).trans HP.out
  have HW2 := Lib.hid (HW.out.trans (hb.mono HW.out.size))
  clear hb HP HW
  have HP := HP2
  have HW := HW2
  clear HP2 HW2
  cases u with
  | false =>
    go_wp2_with fail
    go_ret
    exact ⟨rfl, HW.out⟩
  | true =>
    have HFW := Lib.hid (HFEW.out rfl)
    by_cases h3 : 3000 < l.length
    case pos =>
      have q1 : ((3000 : Int) < (l.length : Int)) = True := eq_true (by omega)
      have q2 : decide ((3000 : Int) < (l.length : Int)) = true := decide_eq_true (by omega)
      clear h3
      go_wp2_with fail
      go_ret
      exact ⟨rfl, HW.out⟩
    have q1 : ((3000 : Int) < (l.length : Int)) = False := eq_false (by omega)
    have q2 : decide ((3000 : Int) < (l.length : Int)) = false := decide_eq_false (by omega)
    have HL3 : Hid (l.length ≤ 3000) := Lib.hid (by omega)
    clear h3
    have y0 := (blk_cell HP.out 0).trans rfl
    have y1 := (blk_cell HP.out 1).trans rfl
    have y2 := (blk_cell HP.out 2).trans rfl
    have y3 := (blk_cell HP.out 3).trans rfl
    have y4 := (blk_cell HP.out 4).trans rfl
    have y5 := (blk_cell HP.out 5).trans rfl
    have y6 := (blk_cell HP.out 6).trans rfl
    have y7 := (blk_cell HP.out 7).trans rfl
    have y8 := (blk_cell HP.out 8).trans rfl
    have y9 := (blk_cell HP.out 9).trans rfl
    go_wp2_with fail
    -- @enc
    clear q1 q2
    clear y0 y1 y2 y3 y4 y5 y6 y7 y8 y9
    rcases PQ.enc_back a0 a1 a2 a3 a4 a5 a6 a7 l8 l9 HU.out HB8.out HB9.out with henc | ⟨cs, henc, gcb, gcl, gcd⟩
    · refine (packet_Encode.calls 3000 a0 a1 a2 a3 a4 a5 a6 a7 A8 c8 l8 A9 c9 l9 [] 1 W (Kd.C_below H8.out HW.out) HC8.out (Kd.C_below H9.out HW.out) HC9.out ((PP.pk_encode_eq a0 a1 a2 a3 a4 a5 a6 a7 HU.out l8 l9 HFW.out.1 3000 (by omega)).trans (congrArg some henc))).mono ?_
      rintro e W ⟨v0, rfl, hv0, hb⟩
      obtain ⟨A4, c4, rfl⟩ := Kd.R_slice hv0
      clear hv0 henc
      have HP2 : Hid (_ = some _) := (hb.block _ (blk_lt HP.out)).trans HP.out
      have HW2 := Lib.hid (HW.out.trans (hb.mono HW.out.size))
      clear hb HP HW
      have HP := HP2
      have HW := HW2
      clear HP2 HW2
      go_wp2_with fail
      -- @tail
      rcases PQ.back_pure l HBL.out HL3.out with hpd | ⟨b0, b1, b2, b3, b4, b5, b6, b7, m8, m9, ds, hpd, gu, gf, gn, ge, gb, g240, gle, gtk, gpd⟩
      · refine (packet_Decode.calls A c l 0 0 0 0 0 0 0 0 [] [] 2 _ (Kd.C_below HL.out HW.out) HC.out ((PQ.decode_eq l HBL.out (by have := HL3.out; omega)).trans (congrArg some hpd))).mono ?_
        rintro e W ⟨v8, v9, rfl, hv8, hv9, hb⟩
        obtain ⟨A5, c5, rfl⟩ := Kd.R_slice hv8
        obtain ⟨A6, c6, rfl⟩ := Kd.S_slice hv9
        clear hv8 hv9 hpd
        have HW2 := Lib.hid (HW.out.trans (hb.mono HW.out.size))
        clear hb HW
        have HW := HW2
        clear HW2
        simp only [List.length_nil]
        have y8 := (blk_cell (blk_new W (.cells #[.int .i64 0, .int .u32 0, .int .i64 0, .int .i64 0, .int .u32 0, .int .u32 0, .int .u32 0, .int .u32 0, .slice A5 0 c5, .slice A6 0 c6] 28)) 8).trans rfl
        go_wp2_with fail
        go_ret
        exact ⟨rfl, below_alloc HW.out _⟩
      · refine (packet_Decode.calls A c l b0 b1 b2 b3 b4 b5 b6 b7 m8 m9 0 _ (Kd.C_below HL.out HW.out) HC.out ((PQ.decode_eq l HBL.out (by have := HL3.out; omega)).trans (congrArg some hpd))).mono ?_
        rintro e W ⟨v8, v9, rfl, hv8, hv9, hb⟩
        obtain ⟨A5, c5, rfl⟩ := Kd.R_slice hv8
        obtain ⟨A6, c6, rfl⟩ := Kd.S_slice hv9
        have HM8 := Lib.hid (Kd.R_reads' hv8).2.2
        have HC5 := Lib.hid (Kd.R_reads' hv8).2.1
        have HM9 := Lib.hid (Kd.S_reads' hv9).2.2
        have HC6 := Lib.hid (Kd.S_reads' hv9).2.1
        clear hv8 hv9 hpd
        have HW2 := Lib.hid (HW.out.trans (hb.mono HW.out.size))
        clear hb HW
        have HW := HW2
        clear HW2
        have GEN := Lib.hid ((PP.pk_encode_eq b0 b1 b2 b3 b4 b5 b6 b7 gu m8 m9 gf 3000 (by omega)).trans (congrArg some ge))
        have GPD := Lib.hid ((PQ.decode_eq ds gb (by have := HL3.out; omega)).trans (congrArg some gpd))
        have GN := Lib.hid gn
        have G240 := Lib.hid g240
        have GLE := Lib.hid gle
        have GTK := Lib.hid gtk
        clear gu gf ge gb gpd gn g240 gle gtk
        go_upto_region 12 with fail
        -- @q
        obtain ⟨bq, hbx⟩ : ∃ b, W.heap.size = b := ⟨_, rfl⟩
        obtain ⟨V, hV⟩ : ∃ V, W.alloc (.cells #[.int .i64 b0, .int .u32 b1, .int .i64 b2, .int .i64 b3, .int .u32 b4, .int .u32 b5, .int .u32 b6, .int .u32 b7, .slice A5 m8.length c5, .slice A6 m9.length c6] 28) = V := ⟨_, rfl⟩
        have HQ : Hid (V.heap[bq]? = some (.cells #[.int .i64 b0, .int .u32 b1, .int .i64 b2, .int .i64 b3, .int .u32 b4, .int .u32 b5, .int .u32 b6, .int .u32 b7, .slice A5 m8.length c5, .slice A6 m9.length c6] 28 (0, 0))) := by show _ = _; rw [← hV, ← hbx]; exact blk_new _ _
        have HM82 := Lib.hid (show Kd.C _ V _ _ _ by rw [← hV]; exact Kd.C_alloc HM8.out _)
        have HM92 := Lib.hid (show Kd.C _ V _ _ _ by rw [← hV]; exact Kd.C_alloc HM9.out _)
        have HW2 : Hid (Below w.heap.size w V) := by show Below _ _ _; rw [← hV]; exact below_alloc HW.out _
        clear HW HM8 HM9
        have HW := HW2
        have HM8 := HM82
        have HM9 := HM92
        clear HW2 HM82 HM92
        rw [hbx]
        rw [hV]
        clear hV hbx
        have y0 := (blk_cell HQ.out 0).trans rfl
        have y1 := (blk_cell HQ.out 1).trans rfl
        have y2 := (blk_cell HQ.out 2).trans rfl
        have y3 := (blk_cell HQ.out 3).trans rfl
        have y4 := (blk_cell HQ.out 4).trans rfl
        have y5 := (blk_cell HQ.out 5).trans rfl
        have y6 := (blk_cell HQ.out 6).trans rfl
        have y7 := (blk_cell HQ.out 7).trans rfl
        have y8 := (blk_cell HQ.out 8).trans rfl
        have y9 := (blk_cell HQ.out 9).trans rfl
        go_wp2_with fail
        -- @enc2
        refine (packet_Encode.calls 3000 b0 b1 b2 b3 b4 b5 b6 b7 A5 c5 m8 A6 c6 m9 ds 0 _ HM8.out HC5.out HM9.out HC6.out GEN.out).mono ?_
        rintro e W ⟨vd, rfl, hvd, hb⟩
        clear y0 y1 y2 y3 y4 y5 y6 y7 y8 y9
        obtain ⟨Ad, cd, rfl⟩ := Kd.R_slice hvd
        have HD := Lib.hid (Kd.R_reads' hvd).2.2
        have HCD := Lib.hid (Kd.R_reads' hvd).2.1
        clear hvd
        have HQ2 : Hid (_ = some _) := (hb.block _ (blk_lt HQ.out)).trans HQ.out
        have HM82 := Lib.hid (Kd.C_below HM8.out hb)
        have HM92 := Lib.hid (Kd.C_below HM9.out hb)
        have HW2 := Lib.hid (HW.out.trans (hb.mono HW.out.size))
        clear hb HQ HM8 HM9 HW
        have HQ := HQ2
        have HM8 := HM82
        have HM9 := HM92
        have HW := HW2
        clear HQ2 HM82 HM92 HW2
        go_wp2_with fail
        -- @dec2
        refine (packet_Decode.calls Ad cd ds b0 b1 b2 b3 b4 b5 b6 b7 m8 m9 0 _ HD.out HCD.out GPD.out).mono ?_
        rintro e W ⟨v8, v9, rfl, hv8, hv9, hb⟩
        obtain ⟨A7, c7, rfl⟩ := Kd.R_slice hv8
        obtain ⟨AX, cx, rfl⟩ := Kd.S_slice hv9
        have HN8 := Lib.hid (Kd.R_reads' hv8).2.2
        have HN9 := Lib.hid (Kd.S_reads' hv9).2.2
        have HCX := Lib.hid (Kd.S_reads' hv9).2.1
        clear hv8 hv9
        have HQ2 : Hid (_ = some _) := (hb.block _ (blk_lt HQ.out)).trans HQ.out
        have HM82 := Lib.hid (Kd.C_below HM8.out hb)
        have HM92 := Lib.hid (Kd.C_below HM9.out hb)
        have HD2 := Lib.hid (Kd.C_below HD.out hb)
        have HW2 := Lib.hid (HW.out.trans (hb.mono HW.out.size))
        clear hb HQ HM8 HM9 HD HW
        have HQ := HQ2
        have HM8 := HM82
        have HM9 := HM92
        have HD := HD2
        have HW := HW2
        clear HQ2 HM82 HM92 HD2 HW2
        go_upto_region 16 with fail
        -- @r
        obtain ⟨br, hbx⟩ : ∃ b, W.heap.size = b := ⟨_, rfl⟩
        obtain ⟨V, hV⟩ : ∃ V, W.alloc (.cells #[.int .i64 b0, .int .u32 b1, .int .i64 b2, .int .i64 b3, .int .u32 b4, .int .u32 b5, .int .u32 b6, .int .u32 b7, .slice A7 m8.length c7, .slice AX m9.length cx] 28) = V := ⟨_, rfl⟩
        have HR : Hid (V.heap[br]? = some (.cells #[.int .i64 b0, .int .u32 b1, .int .i64 b2, .int .i64 b3, .int .u32 b4, .int .u32 b5, .int .u32 b6, .int .u32 b7, .slice A7 m8.length c7, .slice AX m9.length cx] 28 (0, 0))) := by show _ = _; rw [← hV, ← hbx]; exact blk_new _ _
        have HQ2 : Hid (V.heap[bq]? = some (.cells #[.int .i64 b0, .int .u32 b1, .int .i64 b2, .int .i64 b3, .int .u32 b4, .int .u32 b5, .int .u32 b6, .int .u32 b7, .slice A5 m8.length c5, .slice A6 m9.length c6] 28 (0, 0))) := by show _ = _; rw [← hV]; exact (Below.heap_alloc _ _ _ (by have := blk_lt HQ.out; omega)).trans HQ.out
        have HM82 := Lib.hid (show Kd.C _ V _ _ _ by rw [← hV]; exact Kd.C_alloc HM8.out _)
        have HM92 := Lib.hid (show Kd.C _ V _ _ _ by rw [← hV]; exact Kd.C_alloc HM9.out _)
        have HN82 := Lib.hid (show Kd.C _ V _ _ _ by rw [← hV]; exact Kd.C_alloc HN8.out _)
        have HN92 := Lib.hid (show Kd.C _ V _ _ _ by rw [← hV]; exact Kd.C_alloc HN9.out _)
        have HD2 := Lib.hid (show Kd.C _ V _ _ _ by rw [← hV]; exact Kd.C_alloc HD.out _)
        have HW2 : Hid (Below w.heap.size w V) := by show Below _ _ _; rw [← hV]; exact below_alloc HW.out _
        clear HW HQ HM8 HM9 HN8 HN9 HD
        have HW := HW2
        have HQ := HQ2
        have HM8 := HM82
        have HM9 := HM92
        have HN8 := HN82
        have HN9 := HN92
        have HD := HD2
        clear HW2 HQ2 HM82 HM92 HN82 HN92 HD2
        rw [hbx]
        rw [hV]
        clear hV hbx
        have y0 := (blk_cell HQ.out 0).trans rfl
        have y1 := (blk_cell HQ.out 1).trans rfl
        have y2 := (blk_cell HQ.out 2).trans rfl
        have y3 := (blk_cell HQ.out 3).trans rfl
        have y4 := (blk_cell HQ.out 4).trans rfl
        have y5 := (blk_cell HQ.out 5).trans rfl
        have y6 := (blk_cell HQ.out 6).trans rfl
        have y7 := (blk_cell HQ.out 7).trans rfl
        have y8 := (blk_cell HQ.out 8).trans rfl
        have y9 := (blk_cell HQ.out 9).trans rfl
        have z0 := (blk_cell HR.out 0).trans rfl
        have z1 := (blk_cell HR.out 1).trans rfl
        have z2 := (blk_cell HR.out 2).trans rfl
        have z3 := (blk_cell HR.out 3).trans rfl
        have z4 := (blk_cell HR.out 4).trans rfl
        have z5 := (blk_cell HR.out 5).trans rfl
        have z6 := (blk_cell HR.out 6).trans rfl
        have z7 := (blk_cell HR.out 7).trans rfl
        have z8 := (blk_cell HR.out 8).trans rfl
        have z9 := (blk_cell HR.out 9).trans rfl
        go_wp2_with fail
        -- @same
        refine (same3C b0 b1 b2 b3 b4 b5 b6 b7 A5 c5 m8 A6 c6 m9 A7 c7 AX cx _ HM8.out HM9.out HC6.out HN8.out HN9.out HCX.out GN.out).mono ?_
        rintro e W ⟨rfl, hb⟩
        clear y0 y1 y2 y3 y4 y5 y6 y7 y8 y9 z0 z1 z2 z3 z4 z5 z6 z7 z8 z9
        have HD2 := Lib.hid (Kd.C_below HD.out hb)
        have HW2 := Lib.hid (HW.out.trans (hb.mono HW.out.size))
        clear hb HD HW
        have HD := HD2
        have HW := HW2
        clear HD2 HW2
        have q1 : ((ds.length : Int) ≤ (l.length : Int)) = True := eq_true (by have := GLE.out; omega)
        have q2 : decide ((ds.length : Int) ≤ (l.length : Int)) = true := decide_eq_true (by have := GLE.out; omega)
        have q3 : ((240 : Int) ≤ (ds.length : Int)) = True := eq_true (by have := G240.out; omega)
        have q4 : ((240 : Int) ≤ (l.length : Int)) = True := eq_true (by have := G240.out; have := GLE.out; omega)
        obtain ⟨i0, hi0, _, _, _⟩ := info_parts info5
        have k1 := cut_to (P := Tryd.prog) 22 5 .i64 Tryd.underlying22 hi0 Ad ds.length cd 240 (by omega) (by have := G240.out; omega) HCD.out
        have k2 := cut_to (P := Tryd.prog) 22 5 .i64 Tryd.underlying22 hi0 A l.length c 240 (by omega) (by have := G240.out; have := GLE.out; omega) HC.out
        simp only [show (240 : Int).toNat = 240 from rfl] at k1 k2
        have t1 := Kd.C_take (m := 240) HD.out (by have := G240.out; omega)
        have t2 := Kd.C_take (m := 240) (Kd.C_below HL.out HW.out) (by have := G240.out; have := GLE.out; omega)
        rw [GTK.out] at t1
        obtain ⟨yy, hyy⟩ : ∃ y, l.take 240 = y := ⟨_, rfl⟩
        have hy2 : yy.length = 240 := by rw [← hyy, List.length_take]; have := G240.out; have := GLE.out; omega
        rw [hyy] at t1 t2
        have s1 := Kd.C_string (P := Tryd.prog) (A := Ad) (c := cd) Tryd.underlying22 Tryd.underlying5 Tryd.underlying9 t1
        have s2 := Kd.C_string (P := Tryd.prog) (A := A) (c := c) Tryd.underlying22 Tryd.underlying5 Tryd.underlying9 t2
        have s1q := fun n => Kd.C_string (P := Tryd.prog) (A := Ad) (c := cd) Tryd.underlying22 Tryd.underlying5 Tryd.underlying9 (Kd.C_drewN t1 n)
        have s2q := fun n => Kd.C_string (P := Tryd.prog) (A := A) (c := c) Tryd.underlying22 Tryd.underlying5 Tryd.underlying9 (Kd.C_drewN t2 n)
        rw [hy2] at s1 s2
        simp only [hy2] at s1q s2q
        clear hy2 hyy t1 t2 hi0
        go_wp2_with fail
        go_quiet (fail)
        go_wp2_with fail
        -- @fin
        go_ret
        exact ⟨rfl, pw_below_drewN HW.out _⟩
    · refine (packet_Encode.calls 3000 a0 a1 a2 a3 a4 a5 a6 a7 A8 c8 l8 A9 c9 l9 cs 0 W (Kd.C_below H8.out HW.out) HC8.out (Kd.C_below H9.out HW.out) HC9.out ((PP.pk_encode_eq a0 a1 a2 a3 a4 a5 a6 a7 HU.out l8 l9 HFW.out.1 3000 (by omega)).trans (congrArg some henc))).mono ?_
      rintro e W ⟨v0, rfl, hv0, hb⟩
      obtain ⟨A4, c4, rfl⟩ := Kd.R_slice hv0
      have HD := Lib.hid (Kd.R_reads' hv0).2.2
      have HCD := Lib.hid (Kd.R_reads' hv0).2.1
      clear hv0 henc
      have HP2 : Hid (_ = some _) := (hb.block _ (blk_lt HP.out)).trans HP.out
      have HW2 := Lib.hid (HW.out.trans (hb.mono HW.out.size))
      clear hb HP HW
      have HP := HP2
      have HW := HW2
      clear HP2 HW2
      have GPD := Lib.hid ((PQ.decode_eq cs gcb gcl).trans (congrArg some gcd))
      clear gcb gcl gcd
      go_wp2_with fail
      -- @dec1
      refine (packet_Decode.calls A4 c4 cs a0 a1 a2 a3 a4 a5 a6 a7 l8 l9 0 _ HD.out HCD.out GPD.out).mono ?_
      rintro e W ⟨v8, v9, rfl, hv8, hv9, hb⟩
      obtain ⟨A5, c5, rfl⟩ := Kd.R_slice hv8
      obtain ⟨A6, c6, rfl⟩ := Kd.S_slice hv9
      have HM8 := Lib.hid (Kd.R_reads' hv8).2.2
      have HM9 := Lib.hid (Kd.S_reads' hv9).2.2
      have HC6 := Lib.hid (Kd.S_reads' hv9).2.1
      clear hv8 hv9 HD HCD GPD
      have HP2 : Hid (_ = some _) := (hb.block _ (blk_lt HP.out)).trans HP.out
      have HW2 := Lib.hid (HW.out.trans (hb.mono HW.out.size))
      clear hb HP HW
      have HP := HP2
      have HW := HW2
      clear HP2 HW2
      go_upto_region 8 with fail
      -- @q1
      obtain ⟨bq, hbx⟩ : ∃ b, W.heap.size = b := ⟨_, rfl⟩
      obtain ⟨V, hV⟩ : ∃ V, W.alloc (.cells #[.int .i64 a0, .int .u32 a1, .int .i64 a2, .int .i64 a3, .int .u32 a4, .int .u32 a5, .int .u32 a6, .int .u32 a7, .slice A5 l8.length c5, .slice A6 l9.length c6] 28) = V := ⟨_, rfl⟩
      have HQ : Hid (V.heap[bq]? = some (.cells #[.int .i64 a0, .int .u32 a1, .int .i64 a2, .int .i64 a3, .int .u32 a4, .int .u32 a5, .int .u32 a6, .int .u32 a7, .slice A5 l8.length c5, .slice A6 l9.length c6] 28 (0, 0))) := by show _ = _; rw [← hV, ← hbx]; exact blk_new _ _
      have HP2 : Hid (V.heap[bp]? = some (.cells #[.int .i64 a0, .int .u32 a1, .int .i64 a2, .int .i64 a3, .int .u32 a4, .int .u32 a5, .int .u32 a6, .int .u32 a7, .slice A8 l8.length c8, .slice A9 l9.length c9] 28 (0, 0))) := by show _ = _; rw [← hV]; exact (Below.heap_alloc _ _ _ (by have := blk_lt HP.out; omega)).trans HP.out
      have HM82 := Lib.hid (show Kd.C _ V _ _ _ by rw [← hV]; exact Kd.C_alloc HM8.out _)
      have HM92 := Lib.hid (show Kd.C _ V _ _ _ by rw [← hV]; exact Kd.C_alloc HM9.out _)
      have HW2 : Hid (Below w.heap.size w V) := by show Below _ _ _; rw [← hV]; exact below_alloc HW.out _
      clear HW HP HM8 HM9
      have HW := HW2
      have HP := HP2
      have HM8 := HM82
      have HM9 := HM92
      clear HW2 HP2 HM82 HM92
      rw [hbx]
      rw [hV]
      clear hV hbx
      have y0 := (blk_cell HP.out 0).trans rfl
      have y1 := (blk_cell HP.out 1).trans rfl
      have y2 := (blk_cell HP.out 2).trans rfl
      have y3 := (blk_cell HP.out 3).trans rfl
      have y4 := (blk_cell HP.out 4).trans rfl
      have y5 := (blk_cell HP.out 5).trans rfl
      have y6 := (blk_cell HP.out 6).trans rfl
      have y7 := (blk_cell HP.out 7).trans rfl
      have y8 := (blk_cell HP.out 8).trans rfl
      have y9 := (blk_cell HP.out 9).trans rfl
      have z0 := (blk_cell HQ.out 0).trans rfl
      have z1 := (blk_cell HQ.out 1).trans rfl
      have z2 := (blk_cell HQ.out 2).trans rfl
      have z3 := (blk_cell HQ.out 3).trans rfl
      have z4 := (blk_cell HQ.out 4).trans rfl
      have z5 := (blk_cell HQ.out 5).trans rfl
      have z6 := (blk_cell HQ.out 6).trans rfl
      have z7 := (blk_cell HQ.out 7).trans rfl
      have z8 := (blk_cell HQ.out 8).trans rfl
      have z9 := (blk_cell HQ.out 9).trans rfl
      go_wp2_with fail
      -- @same1
      refine (same3C a0 a1 a2 a3 a4 a5 a6 a7 A8 c8 l8 A9 c9 l9 A5 c5 A6 c6 _ (Kd.C_below H8.out HW.out) (Kd.C_below H9.out HW.out) HC9.out HM8.out HM9.out HC6.out HFW.out.2).mono ?_
      rintro e W ⟨rfl, hb⟩
      clear y0 y1 y2 y3 y4 y5 y6 y7 y8 y9 z0 z1 z2 z3 z4 z5 z6 z7 z8 z9
      clear HQ HM8 HM9 HC6
      have HP2 : Hid (_ = some _) := (hb.block _ (blk_lt HP.out)).trans HP.out
      have HW2 := Lib.hid (HW.out.trans (hb.mono HW.out.size))
      clear hb HP HW
      have HP := HP2
      have HW := HW2
      clear HP2 HW2
      go_wp2_with fail
      -- @tail
      rcases PQ.back_pure l HBL.out HL3.out with hpd | ⟨b0, b1, b2, b3, b4, b5, b6, b7, m8, m9, ds, hpd, gu, gf, gn, ge, gb, g240, gle, gtk, gpd⟩
      · refine (packet_Decode.calls A c l 0 0 0 0 0 0 0 0 [] [] 2 _ (Kd.C_below HL.out HW.out) HC.out ((PQ.decode_eq l HBL.out (by have := HL3.out; omega)).trans (congrArg some hpd))).mono ?_
        rintro e W ⟨v8, v9, rfl, hv8, hv9, hb⟩
        obtain ⟨A5, c5, rfl⟩ := Kd.R_slice hv8
        obtain ⟨A6, c6, rfl⟩ := Kd.S_slice hv9
        clear hv8 hv9 hpd
        have HW2 := Lib.hid (HW.out.trans (hb.mono HW.out.size))
        clear hb HW
        have HW := HW2
        clear HW2
        simp only [List.length_nil]
        have y8 := (blk_cell (blk_new W (.cells #[.int .i64 0, .int .u32 0, .int .i64 0, .int .i64 0, .int .u32 0, .int .u32 0, .int .u32 0, .int .u32 0, .slice A5 0 c5, .slice A6 0 c6] 28)) 8).trans rfl
        go_wp2_with fail
        go_ret
        exact ⟨rfl, below_alloc HW.out _⟩
      · refine (packet_Decode.calls A c l b0 b1 b2 b3 b4 b5 b6 b7 m8 m9 0 _ (Kd.C_below HL.out HW.out) HC.out ((PQ.decode_eq l HBL.out (by have := HL3.out; omega)).trans (congrArg some hpd))).mono ?_
        rintro e W ⟨v8, v9, rfl, hv8, hv9, hb⟩
        obtain ⟨A5, c5, rfl⟩ := Kd.R_slice hv8
        obtain ⟨A6, c6, rfl⟩ := Kd.S_slice hv9
        have HM8 := Lib.hid (Kd.R_reads' hv8).2.2
        have HC5 := Lib.hid (Kd.R_reads' hv8).2.1
        have HM9 := Lib.hid (Kd.S_reads' hv9).2.2
        have HC6 := Lib.hid (Kd.S_reads' hv9).2.1
        clear hv8 hv9 hpd
        have HW2 := Lib.hid (HW.out.trans (hb.mono HW.out.size))
        clear hb HW
        have HW := HW2
        clear HW2
        have GEN := Lib.hid ((PP.pk_encode_eq b0 b1 b2 b3 b4 b5 b6 b7 gu m8 m9 gf 3000 (by omega)).trans (congrArg some ge))
        have GPD := Lib.hid ((PQ.decode_eq ds gb (by have := HL3.out; omega)).trans (congrArg some gpd))
        have GN := Lib.hid gn
        have G240 := Lib.hid g240
        have GLE := Lib.hid gle
        have GTK := Lib.hid gtk
        clear gu gf ge gb gpd gn g240 gle gtk
        go_upto_region 12 with fail
        -- @q
        obtain ⟨bq, hbx⟩ : ∃ b, W.heap.size = b := ⟨_, rfl⟩
        obtain ⟨V, hV⟩ : ∃ V, W.alloc (.cells #[.int .i64 b0, .int .u32 b1, .int .i64 b2, .int .i64 b3, .int .u32 b4, .int .u32 b5, .int .u32 b6, .int .u32 b7, .slice A5 m8.length c5, .slice A6 m9.length c6] 28) = V := ⟨_, rfl⟩
        have HQ : Hid (V.heap[bq]? = some (.cells #[.int .i64 b0, .int .u32 b1, .int .i64 b2, .int .i64 b3, .int .u32 b4, .int .u32 b5, .int .u32 b6, .int .u32 b7, .slice A5 m8.length c5, .slice A6 m9.length c6] 28 (0, 0))) := by show _ = _; rw [← hV, ← hbx]; exact blk_new _ _
        have HM82 := Lib.hid (show Kd.C _ V _ _ _ by rw [← hV]; exact Kd.C_alloc HM8.out _)
        have HM92 := Lib.hid (show Kd.C _ V _ _ _ by rw [← hV]; exact Kd.C_alloc HM9.out _)
        have HW2 : Hid (Below w.heap.size w V) := by show Below _ _ _; rw [← hV]; exact below_alloc HW.out _
        clear HW HM8 HM9
        have HW := HW2
        have HM8 := HM82
        have HM9 := HM92
        clear HW2 HM82 HM92
        rw [hbx]
        rw [hV]
        clear hV hbx
        have y0 := (blk_cell HQ.out 0).trans rfl
        have y1 := (blk_cell HQ.out 1).trans rfl
        have y2 := (blk_cell HQ.out 2).trans rfl
        have y3 := (blk_cell HQ.out 3).trans rfl
        have y4 := (blk_cell HQ.out 4).trans rfl
        have y5 := (blk_cell HQ.out 5).trans rfl
        have y6 := (blk_cell HQ.out 6).trans rfl
        have y7 := (blk_cell HQ.out 7).trans rfl
        have y8 := (blk_cell HQ.out 8).trans rfl
        have y9 := (blk_cell HQ.out 9).trans rfl
        go_wp2_with fail
        -- @enc2
        refine (packet_Encode.calls 3000 b0 b1 b2 b3 b4 b5 b6 b7 A5 c5 m8 A6 c6 m9 ds 0 _ HM8.out HC5.out HM9.out HC6.out GEN.out).mono ?_
        rintro e W ⟨vd, rfl, hvd, hb⟩
        clear y0 y1 y2 y3 y4 y5 y6 y7 y8 y9
        obtain ⟨Ad, cd, rfl⟩ := Kd.R_slice hvd
        have HD := Lib.hid (Kd.R_reads' hvd).2.2
        have HCD := Lib.hid (Kd.R_reads' hvd).2.1
        clear hvd
        have HQ2 : Hid (_ = some _) := (hb.block _ (blk_lt HQ.out)).trans HQ.out
        have HM82 := Lib.hid (Kd.C_below HM8.out hb)
        have HM92 := Lib.hid (Kd.C_below HM9.out hb)
        have HW2 := Lib.hid (HW.out.trans (hb.mono HW.out.size))
        clear hb HQ HM8 HM9 HW
        have HQ := HQ2
        have HM8 := HM82
        have HM9 := HM92
        have HW := HW2
        clear HQ2 HM82 HM92 HW2
        go_wp2_with fail
        -- @dec2
        refine (packet_Decode.calls Ad cd ds b0 b1 b2 b3 b4 b5 b6 b7 m8 m9 0 _ HD.out HCD.out GPD.out).mono ?_
        rintro e W ⟨v8, v9, rfl, hv8, hv9, hb⟩
        obtain ⟨A7, c7, rfl⟩ := Kd.R_slice hv8
        obtain ⟨AX, cx, rfl⟩ := Kd.S_slice hv9
        have HN8 := Lib.hid (Kd.R_reads' hv8).2.2
        have HN9 := Lib.hid (Kd.S_reads' hv9).2.2
        have HCX := Lib.hid (Kd.S_reads' hv9).2.1
        clear hv8 hv9
        have HQ2 : Hid (_ = some _) := (hb.block _ (blk_lt HQ.out)).trans HQ.out
        have HM82 := Lib.hid (Kd.C_below HM8.out hb)
        have HM92 := Lib.hid (Kd.C_below HM9.out hb)
        have HD2 := Lib.hid (Kd.C_below HD.out hb)
        have HW2 := Lib.hid (HW.out.trans (hb.mono HW.out.size))
        clear hb HQ HM8 HM9 HD HW
        have HQ := HQ2
        have HM8 := HM82
        have HM9 := HM92
        have HD := HD2
        have HW := HW2
        clear HQ2 HM82 HM92 HD2 HW2
        go_upto_region 16 with fail
        -- @r
        obtain ⟨br, hbx⟩ : ∃ b, W.heap.size = b := ⟨_, rfl⟩
        obtain ⟨V, hV⟩ : ∃ V, W.alloc (.cells #[.int .i64 b0, .int .u32 b1, .int .i64 b2, .int .i64 b3, .int .u32 b4, .int .u32 b5, .int .u32 b6, .int .u32 b7, .slice A7 m8.length c7, .slice AX m9.length cx] 28) = V := ⟨_, rfl⟩
        have HR : Hid (V.heap[br]? = some (.cells #[.int .i64 b0, .int .u32 b1, .int .i64 b2, .int .i64 b3, .int .u32 b4, .int .u32 b5, .int .u32 b6, .int .u32 b7, .slice A7 m8.length c7, .slice AX m9.length cx] 28 (0, 0))) := by show _ = _; rw [← hV, ← hbx]; exact blk_new _ _
        have HQ2 : Hid (V.heap[bq]? = some (.cells #[.int .i64 b0, .int .u32 b1, .int .i64 b2, .int .i64 b3, .int .u32 b4, .int .u32 b5, .int .u32 b6, .int .u32 b7, .slice A5 m8.length c5, .slice A6 m9.length c6] 28 (0, 0))) := by show _ = _; rw [← hV]; exact (Below.heap_alloc _ _ _ (by have := blk_lt HQ.out; omega)).trans HQ.out
        have HM82 := Lib.hid (show Kd.C _ V _ _ _ by rw [← hV]; exact Kd.C_alloc HM8.out _)
        have HM92 := Lib.hid (show Kd.C _ V _ _ _ by rw [← hV]; exact Kd.C_alloc HM9.out _)
        have HN82 := Lib.hid (show Kd.C _ V _ _ _ by rw [← hV]; exact Kd.C_alloc HN8.out _)
        have HN92 := Lib.hid (show Kd.C _ V _ _ _ by rw [← hV]; exact Kd.C_alloc HN9.out _)
        have HD2 := Lib.hid (show Kd.C _ V _ _ _ by rw [← hV]; exact Kd.C_alloc HD.out _)
        have HW2 : Hid (Below w.heap.size w V) := by show Below _ _ _; rw [← hV]; exact below_alloc HW.out _
        clear HW HQ HM8 HM9 HN8 HN9 HD
        have HW := HW2
        have HQ := HQ2
        have HM8 := HM82
        have HM9 := HM92
        have HN8 := HN82
        have HN9 := HN92
        have HD := HD2
        clear HW2 HQ2 HM82 HM92 HN82 HN92 HD2
        rw [hbx]
        rw [hV]
        clear hV hbx
        have y0 := (blk_cell HQ.out 0).trans rfl
        have y1 := (blk_cell HQ.out 1).trans rfl
        have y2 := (blk_cell HQ.out 2).trans rfl
        have y3 := (blk_cell HQ.out 3).trans rfl
        have y4 := (blk_cell HQ.out 4).trans rfl
        have y5 := (blk_cell HQ.out 5).trans rfl
        have y6 := (blk_cell HQ.out 6).trans rfl
        have y7 := (blk_cell HQ.out 7).trans rfl
        have y8 := (blk_cell HQ.out 8).trans rfl
        have y9 := (blk_cell HQ.out 9).trans rfl
        have z0 := (blk_cell HR.out 0).trans rfl
        have z1 := (blk_cell HR.out 1).trans rfl
        have z2 := (blk_cell HR.out 2).trans rfl
        have z3 := (blk_cell HR.out 3).trans rfl
        have z4 := (blk_cell HR.out 4).trans rfl
        have z5 := (blk_cell HR.out 5).trans rfl
        have z6 := (blk_cell HR.out 6).trans rfl
        have z7 := (blk_cell HR.out 7).trans rfl
        have z8 := (blk_cell HR.out 8).trans rfl
        have z9 := (blk_cell HR.out 9).trans rfl
        go_wp2_with fail
        -- @same
        refine (same3C b0 b1 b2 b3 b4 b5 b6 b7 A5 c5 m8 A6 c6 m9 A7 c7 AX cx _ HM8.out HM9.out HC6.out HN8.out HN9.out HCX.out GN.out).mono ?_
        rintro e W ⟨rfl, hb⟩
        clear y0 y1 y2 y3 y4 y5 y6 y7 y8 y9 z0 z1 z2 z3 z4 z5 z6 z7 z8 z9
        have HD2 := Lib.hid (Kd.C_below HD.out hb)
        have HW2 := Lib.hid (HW.out.trans (hb.mono HW.out.size))
        clear hb HD HW
        have HD := HD2
        have HW := HW2
        clear HD2 HW2
        have q1 : ((ds.length : Int) ≤ (l.length : Int)) = True := eq_true (by have := GLE.out; omega)
        have q2 : decide ((ds.length : Int) ≤ (l.length : Int)) = true := decide_eq_true (by have := GLE.out; omega)
        have q3 : ((240 : Int) ≤ (ds.length : Int)) = True := eq_true (by have := G240.out; omega)
        have q4 : ((240 : Int) ≤ (l.length : Int)) = True := eq_true (by have := G240.out; have := GLE.out; omega)
        obtain ⟨i0, hi0, _, _, _⟩ := info_parts info5
        have k1 := cut_to (P := Tryd.prog) 22 5 .i64 Tryd.underlying22 hi0 Ad ds.length cd 240 (by omega) (by have := G240.out; omega) HCD.out
        have k2 := cut_to (P := Tryd.prog) 22 5 .i64 Tryd.underlying22 hi0 A l.length c 240 (by omega) (by have := G240.out; have := GLE.out; omega) HC.out
        simp only [show (240 : Int).toNat = 240 from rfl] at k1 k2
        have t1 := Kd.C_take (m := 240) HD.out (by have := G240.out; omega)
        have t2 := Kd.C_take (m := 240) (Kd.C_below HL.out HW.out) (by have := G240.out; have := GLE.out; omega)
        rw [GTK.out] at t1
        obtain ⟨yy, hyy⟩ : ∃ y, l.take 240 = y := ⟨_, rfl⟩
        have hy2 : yy.length = 240 := by rw [← hyy, List.length_take]; have := G240.out; have := GLE.out; omega
        rw [hyy] at t1 t2
        have s1 := Kd.C_string (P := Tryd.prog) (A := Ad) (c := cd) Tryd.underlying22 Tryd.underlying5 Tryd.underlying9 t1
        have s2 := Kd.C_string (P := Tryd.prog) (A := A) (c := c) Tryd.underlying22 Tryd.underlying5 Tryd.underlying9 t2
        have s1q := fun n => Kd.C_string (P := Tryd.prog) (A := Ad) (c := cd) Tryd.underlying22 Tryd.underlying5 Tryd.underlying9 (Kd.C_drewN t1 n)
        have s2q := fun n => Kd.C_string (P := Tryd.prog) (A := A) (c := c) Tryd.underlying22 Tryd.underlying5 Tryd.underlying9 (Kd.C_drewN t2 n)
        rw [hy2] at s1 s2
        simp only [hy2] at s1q s2q
        clear hy2 hyy t1 t2 hi0
        go_wp2_with fail
        go_quiet (fail)
        go_wp2_with fail
        -- @fin
        go_ret
        exact ⟨rfl, pw_below_drewN HW.out _⟩
end Go.Proofs.YtmbfdmceameghaaDoor
end

section
-- written by a program of this session (wip/tools/gen.py) over the kit's print
namespace Go.Proofs.YtmbfdmceameghaaDoor
open Go.RowKit Go.Proofs.YtmbfdmceameghaaDoor.Pr Go.Proofs.YtmbfdmceameghaaDoorW.PrintWords Go.Proofs.YtmbfdmceameghaaDoorW.PrintLast Go.Proofs.YtmbfdmceameghaaDoorW.PrintMore
set_option linter.unusedVariables false
namespace packetBack
def PS39 (x : S39) : Prop := ((Lit.int .i64 x.f0).wf = true) ∧ (x.f1.length ≤ maxLen ∧ ∀ y ∈ x.f1, (Lit.int .u8 y).wf = true)
theorem opens_S39 {H : Type} {enc : TypeId × Value → H} {w : World} {base : Nat} {spare : Nat → Bool} {held : Bool} : Opens enc Tryd.prog w base spare held 39 k39 PS39 :=
  opens_iso (P := Tryd.prog) (fun a => ⟨a.1, a.2⟩) (fun _ => rfl) (opens_struct Tryd.underlying39 (by kernel_rfl) (opensF_cons rfl (by kernel_rfl) rfl (opens_int Tryd.underlying3) (opensF_one rfl (by kernel_rfl) (opens_slice Tryd.underlying22 (by kernel_rfl) (opens_int Tryd.underlying5)))))
def PS28 (x : S28) : Prop := ((Lit.int .i64 x.f0).wf = true) ∧ ((Lit.int .u32 x.f1).wf = true) ∧ ((Lit.int .i64 x.f2).wf = true) ∧ ((Lit.int .i64 x.f3).wf = true) ∧ ((Lit.int .u32 x.f4).wf = true) ∧ ((Lit.int .u32 x.f5).wf = true) ∧ ((Lit.int .u32 x.f6).wf = true) ∧ ((Lit.int .u32 x.f7).wf = true) ∧ (x.f8.length ≤ maxLen ∧ ∀ y ∈ x.f8, (Lit.int .u8 y).wf = true) ∧ (x.f9.length ≤ maxLen ∧ ∀ y ∈ x.f9, PS39 y)
theorem opens_S28 {H : Type} {enc : TypeId × Value → H} {w : World} {base : Nat} {spare : Nat → Bool} {held : Bool} : Opens enc Tryd.prog w base spare held 28 k28 PS28 :=
  opens_iso (P := Tryd.prog) (fun a => ⟨a.1, a.2.1, a.2.2.1, a.2.2.2.1, a.2.2.2.2.1, a.2.2.2.2.2.1, a.2.2.2.2.2.2.1, a.2.2.2.2.2.2.2.1, a.2.2.2.2.2.2.2.2.1, a.2.2.2.2.2.2.2.2.2⟩) (fun _ => rfl) (opens_struct Tryd.underlying28 (by kernel_rfl) (opensF_cons rfl (by kernel_rfl) rfl (opens_int Tryd.underlying3) (opensF_cons rfl (by kernel_rfl) rfl (opens_int Tryd.underlying24) (opensF_cons rfl (by kernel_rfl) rfl (opens_int Tryd.underlying3) (opensF_cons rfl (by kernel_rfl) rfl (opens_int Tryd.underlying3) (opensF_cons rfl (by kernel_rfl) rfl (opens_int Tryd.underlying25) (opensF_cons rfl (by kernel_rfl) rfl (opens_int Tryd.underlying25) (opensF_cons rfl (by kernel_rfl) rfl (opens_int Tryd.underlying25) (opensF_cons rfl (by kernel_rfl) rfl (opens_int Tryd.underlying25) (opensF_cons rfl (by kernel_rfl) rfl (opens_slice Tryd.underlying22 (by kernel_rfl) (opens_int Tryd.underlying5)) (opensF_one rfl (by kernel_rfl) (opens_slice Tryd.underlying26 (by kernel_rfl) opens_S39))))))))))))
/-- What is left to prove, over numbers and lists. -/
def Pure : Prop := ∀ (s0 : S28) (l1 : List Int), PS28 s0 → l1.length ≤ maxLen → (∀ x ∈ l1, (Lit.int .u8 x).wf = true) → lessorlaw03_PacketBack.f s0.f0 s0.f1 s0.f2 s0.f3 s0.f4 s0.f5 s0.f6 s0.f7 s0.f8 s0.f9 l1 = some true
end packetBack
end Go.Proofs.YtmbfdmceameghaaDoor
end

section
namespace Go.Proofs.YtmbfdmceameghaaDoor.packetBack.Pure
open Go.RowKit Go.Proofs.YtmbfdmceameghaaDoor Go.Proofs.YtmbfdmceameghaaDoor.Pr Go.Proofs.YtmbfdmceameghaaDoor.PQ Go.Proofs.YtmbfdmceameghaaDoorW.PrintWords Go.Proofs.YtmbfdmceameghaaDoorW.PrintLast
set_option linter.unusedVariables false
set_option linter.unusedSimpArgs false

theorem wf_u32 {x : Int} (h : (Lit.int .u32 x).wf = true) : 0 ≤ x ∧ x < 4294967296 := by
  have : 0 ≤ x ∧ x ≤ 4294967295 := by simpa [Lit.wf, IntKind.min, IntKind.max, IntKind.signed, IntKind.bits] using h
  omega
theorem PacketBack : packetBack.Pure := by
  intro p l hp hm hb
  obtain ⟨h0, h1, h2, h3, h4, h5, h6, h7, h8, h9⟩ := hp
  have hbl : bytesL l := fun x h => PD.wf_byte (hb x h)
  have hb8 : bytesL p.f8 := fun x h => PD.wf_byte (h8.2 x h)
  have hb9 : ∀ x ∈ p.f9, bytesL x.f1 := fun x hx => PD.opt_bytes (h9.2 x hx)
  exact if_pos ⟨⟨wf_u32 h1, wf_u32 h4, wf_u32 h5, wf_u32 h6, wf_u32 h7⟩, hb8, hb9, hbl⟩
end Go.Proofs.YtmbfdmceameghaaDoor.packetBack.Pure
end
