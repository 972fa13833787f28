/-
  The statement RelayPackets walked: both Adds and both Strips, and what is told of them. Condition: the options' data are bytes.
  Printed: StRelayPackets.
  The statement RelayPackets over numbers and lists: its options are of bytes (the rest is in the walk of the law). No condition.
-/
import Derived.Test.YtnkajghemggaaaaMRP2
import Derived.Test.YtnkajghemggaaaaMRP8
import Derived.Test.YtnkajghemggaaaaMRP10
import Derived.Test.YtnkajghemggaaaaMRP1

section
namespace Go.Proofs.Ytnkajghemggaaaa
open Go.RowKit Go.Proofs.Ytnkajghemggaaaa.Pr Go.Proofs.YtnkajghemggaaaaW.PrintWords Go.Proofs.YtnkajghemggaaaaW.PrintLast Go.Proofs.YtnkajghemggaaaaW.PrintMore
attribute [local go_sem] max2_int min2_int max_two min_two max_three min_three max_four min_four
set_option linter.unusedVariables false
set_option linter.unusedSimpArgs false

def lessorlaw26_RelayPackets.f (a0 a1 a2 a3 a4 a5 a6 a7 : Int) (l8 : List Int) (l9 : List OptF) (by_ : Int) (l : List OptF) : Option Bool := if bytesO l9 then some true else none
theorem awakeC (w : World) : Calls Try.prog 8 #[] w fun e w' => e = .returned (.bool true) ∧ Below w.heap.size w w' := by
  refine lessorlaw26_awake.calls 3000 true w ?_
  unfold lessorlaw26_awake.f
  rw [PL.encode_eq _ ⟨by simp, by simp⟩ 3000 (by omega)]
  decide +kernel
/-- What an Add or a Strip hands back, to be read. -/
def PkAt (W : World) (q8 : List Int) (q9 : List OptF) (v8 v9 : Value) : Prop := ∃ A8 c8 A9 c9, v8 = .slice A8 q8.length c8 ∧ v9 = .slice A9 q9.length c9 ∧ (Kd.int .u8).C W A8 q8.length q8 ∧ Kd.C k48 W A9 q9.length q9 ∧ q9.length ≤ c9
set_option maxHeartbeats 8000000 in
set_option maxRecDepth 100000 in
theorem lessorlaw26_RelayPackets.calls (a0 a1 a2 a3 a4 a5 a6 a7 : Int) (A8 : Option Addr) (c8 : Nat) (l8 : List Int) (A9 : Option Addr) (c9 : Nat) (l9 : List OptF) (by_ : Int) (A : Option Addr) (c : Nat) (l : List OptF) (r : Bool) (w : World) (h8 : (Kd.int .u8).C w A8 l8.length l8) (hc8 : l8.length ≤ c8) (h9 : Kd.C k48 w A9 l9.length l9) (hc9 : l9.length ≤ c9) (hl : Kd.C k48 w A l.length l) (hc : l.length ≤ c) (h : lessorlaw26_RelayPackets.f a0 a1 a2 a3 a4 a5 a6 a7 l8 l9 by_ l = some r) :
    Calls Try.prog 6 #[.agg #[.int .i64 a0, .int .u32 a1, .int .i64 a2, .int .i64 a3, .int .u32 a4, .int .u32 a5, .int .u32 a6, .int .u32 a7, .slice A8 l8.length c8, .slice A9 l9.length c9], .int .u32 by_, .slice A l.length c] w fun e w' => e = .returned (.bool r) ∧ Below w.heap.size w w' := by
  unfold lessorlaw26_RelayPackets.f at h
  split at h
  case isFalse => cases h
  rename_i hby
  obtain rfl : true = r := Option.some.inj h
  clear h
  obtain ⟨b, hb, hbf⟩ := PS.few3_eq a0 a1 a2 a3 a4 a5 a6 a7 l8 l9 200 (by omega)
  obtain ⟨u, hu, huf⟩ := PL.few_eq l 200 (by omega)
  have HF3 := Lib.hid (fun W (hW : Below w.heap.size w W) => lessorref03_Few.calls 200 a0 a1 a2 a3 a4 a5 a6 a7 A8 c8 l8 A9 c9 l9 b W (Kd.C_below h8 hW) hc8 (Kd.C_below h9 hW) hc9 hb)
  have HF2 := Lib.hid (fun W (hW : Below w.heap.size w W) => lessorref02_Few.calls 200 A c l u W (Kd.C_below hl hW) hc hu)
  have H8 := Lib.hid h8
  have H9 := Lib.hid h9
  have HL := Lib.hid hl
  have HBY := Lib.hid hby
  have HBF := Lib.hid hbf
  have HUF := Lib.hid huf
  clear h8 h9 hl hby hbf huf hb hu
  go_enter Try.func6, Try.ntmps6
  go_upto_region 1 with fail
  obtain ⟨bp, hbp⟩ : ∃ b, w.heap.size = b := ⟨_, rfl⟩
  obtain ⟨w1, hw1⟩ : ∃ W, w.alloc (.cells #[.int .i64 a0, .int .u32 a1, .int .i64 a2, .int .i64 a3, .int .u32 a4, .int .u32 a5, .int .u32 a6, .int .u32 a7, .slice A8 l8.length c8, .slice A9 l9.length c9] 28) = W := ⟨_, rfl⟩
  have HP : Hid (w1.heap[bp]? = some (.cells #[.int .i64 a0, .int .u32 a1, .int .i64 a2, .int .i64 a3, .int .u32 a4, .int .u32 a5, .int .u32 a6, .int .u32 a7, .slice A8 l8.length c8, .slice A9 l9.length c9] 28 (0, 0))) := by show _ = _; rw [← hw1, ← hbp]; exact blk_new _ _
  have HW : Hid (Below w.heap.size w w1) := by show Below _ _ _; rw [← hw1]; exact below_alloc (Below.refl _ _) _
  try rw [hbp]
  try rw [hw1]
  clear hw1 hbp
  go_wp2_with fail
  refine (awakeC _).mono ?_
  rintro e w2 ⟨rfl, hb2⟩
  have HP2 : Hid (_ = some _) := (hb2.block _ (blk_lt HP.out)).trans HP.out
  have HW2 := Lib.hid (HW.out.trans (hb2.mono HW.out.size))
  clear HW HP
  have HW := HW2
  have HP := HP2
  clear HW2 HP2
  clear hb2
  have y0 := (blk_cell HP.out 0).trans rfl
  have y1 := (blk_cell HP.out 1).trans rfl
  have y2 := (blk_cell HP.out 2).trans rfl
  have y3 := (blk_cell HP.out 3).trans rfl
  have y4 := (blk_cell HP.out 4).trans rfl
  have y5 := (blk_cell HP.out 5).trans rfl
  have y6 := (blk_cell HP.out 6).trans rfl
  have y7 := (blk_cell HP.out 7).trans rfl
  have y8 := (blk_cell HP.out 8).trans rfl
  have y9 := (blk_cell HP.out 9).trans rfl
  go_wp2_with fail
  refine (HF3.out _ HW.out).mono ?_
  rintro e w3 ⟨rfl, hb3⟩
  clear y0 y1 y2 y3 y4 y5 y6 y7 y8 y9
  have HP2 : Hid (_ = some _) := (hb3.block _ (blk_lt HP.out)).trans HP.out
  have HW2 := Lib.hid (HW.out.trans (hb3.mono HW.out.size))
  clear HW HP
  have HW := HW2
  have HP := HP2
  clear HW2 HP2
  clear hb3
  go_wp2_with fail
  refine (HF2.out _ HW.out).mono ?_
  rintro e w4 ⟨rfl, hd4⟩
  have hb4 := drawn_below hd4
  clear hd4
  have HP2 : Hid (_ = some _) := (hb4.block _ (blk_lt HP.out)).trans HP.out
  have HW2 := Lib.hid (HW.out.trans (hb4.mono HW.out.size))
  clear HW HP
  have HW := HW2
  have HP := HP2
  clear HW2 HP2
  clear hb4 HF2 HF3
  cases b with
  | false =>
    go_wp2_with fail
    go_ret
    exact ⟨rfl, HW.out⟩
  | true =>
    cases u with
    | false =>
      go_wp2_with fail
      go_ret
      exact ⟨rfl, HW.out⟩
    | true =>
      have hf := HBF.out rfl
      have hfl := HUF.out.1 rfl
      have hfp := PS.few_fewP hf.1 hf.2
      have m1 := PS.addR_len a0 a1 a2 a3 a4 a5 a6 a7 l8 l9 by_ l hfp.2.1
      have m2 := PS.stripR_len a0 a1 a2 a3 a4 a5 a6 a7 l8 l9 hfp.2.1
      have e1 : relay_Add.f a0 a1 a2 a3 a4 a5 a6 a7 l8 l9 by_ l = some (addR a0 a1 a2 a3 a4 a5 a6 a7 l8 l9 by_ l) := if_pos ⟨hfp, hfl⟩
      have e2 : lessorref26_Add.f a0 a1 a2 a3 a4 a5 a6 a7 l8 l9 by_ l = some (addR a0 a1 a2 a3 a4 a5 a6 a7 l8 l9 by_ l) := if_pos ⟨hfp, hfl⟩
      have e3 : relay_Strip.f a0 a1 a2 a3 a4 a5 a6 a7 l8 l9 = some (stripR a0 a1 a2 a3 a4 a5 a6 a7 l8 l9) := if_pos ⟨hfp, HBY.out⟩
      have e4 := PS.ref_strip_eq a0 a1 a2 a3 a4 a5 a6 a7 l8 l9 hfp HBY.out 520 (Nat.le_refl _)
      generalize addR a0 a1 a2 a3 a4 a5 a6 a7 l8 l9 by_ l = q at e1 e2 m1
      generalize stripR a0 a1 a2 a3 a4 a5 a6 a7 l8 l9 = s at e3 e4 m2
      obtain ⟨q0, q1, q2, q3, q4, q5, q6, q7, q8, q9, q10⟩ := q
      obtain ⟨s0, s1, s2, s3, s4, s5, s6, s7, s8, s9, s10, s11⟩ := s
      dsimp only at m1 m2
      have V8 : ∀ W, Below w.heap.size w W → Kd.V (Kd.int .u8) 5 W W.heap.size (fun k => k < w.heap.size) (.slice A8 l8.length c8) l8 := fun W hW => Kd.V_mk hc8 (Kd.F_below (Kd.C_F (Kd.heap_int .u8) H8.out) hW)
      have V9 : ∀ W, Below w.heap.size w W → Kd.V k48 48 W W.heap.size (fun k => k < w.heap.size) (.slice A9 l9.length c9) l9 := fun W hW => Kd.V_mk hc9 (Kd.F_below (Kd.C_F opt_heap H9.out) hW)
      have HA1 := Lib.hid (fun (W : World) (hW : Below w.heap.size w W) => show Calls Try.prog 18 #[.agg #[.int .i64 a0, .int .u32 a1, .int .i64 a2, .int .i64 a3, .int .u32 a4, .int .u32 a5, .int .u32 a6, .int .u32 a7, .slice A8 l8.length c8, .slice A9 l9.length c9], .int .u32 by_, .slice A l.length c] W (fun e w' => ∃ v8 v9, e = .returned (.tuple #[.agg #[.int .i64 q0, .int .u32 q1, .int .i64 q2, .int .i64 q3, .int .u32 q4, .int .u32 q5, .int .u32 q6, .int .u32 q7, v8, v9], .int .i64 q10]) ∧ PkAt w' q8 q9 v8 v9 ∧ Below W.heap.size W w') from
        (relay_Add.calls a0 a1 a2 a3 a4 a5 a6 a7 A8 c8 l8 _ A9 c9 l9 by_ A c l q0 q1 q2 q3 q4 q5 q6 q7 q8 q9 q10 W (Kd.C_below H8.out hW) hc8 (V9 W hW) (Kd.C_below HL.out hW) hc e1).mono fun e w' he => by
          obtain ⟨v8, v9, rfl, h1, h2, h3⟩ := he
          obtain ⟨A8', c8', rfl⟩ := Kd.R_slice h1
          obtain ⟨A9', c9', rfl⟩ := Kd.N_slice h2
          exact ⟨_, _, rfl, ⟨_, _, _, _, rfl, rfl, (Kd.R_reads' h1).2.2, (Kd.N_reads' h2).2.2, (Kd.N_reads' h2).2.1⟩, h3⟩)
      have HA2 := Lib.hid (fun (W : World) (hW : Below w.heap.size w W) => show Calls Try.prog 19 #[.agg #[.int .i64 a0, .int .u32 a1, .int .i64 a2, .int .i64 a3, .int .u32 a4, .int .u32 a5, .int .u32 a6, .int .u32 a7, .slice A8 l8.length c8, .slice A9 l9.length c9], .int .u32 by_, .slice A l.length c] W (fun e w' => ∃ v8 v9, e = .returned (.tuple #[.agg #[.int .i64 q0, .int .u32 q1, .int .i64 q2, .int .i64 q3, .int .u32 q4, .int .u32 q5, .int .u32 q6, .int .u32 q7, v8, v9], .int .i64 q10]) ∧ PkAt w' q8 q9 v8 v9 ∧ Below W.heap.size W w') from
        (lessorref26_Add.calls a0 a1 a2 a3 a4 a5 a6 a7 _ A8 c8 l8 _ A9 c9 l9 by_ A c l q0 q1 q2 q3 q4 q5 q6 q7 q8 q9 q10 W (V8 W hW) (V9 W hW) (Kd.C_below HL.out hW) hc e2).mono fun e w' he => by
          obtain ⟨v8, v9, rfl, h1, h2, h3⟩ := he
          obtain ⟨A8', c8', rfl⟩ := Kd.V_slice h1
          obtain ⟨A9', c9', rfl⟩ := Kd.N_slice h2
          exact ⟨_, _, rfl, ⟨_, _, _, _, rfl, rfl, (Kd.V_reads' h1).2.2, (Kd.N_reads' h2).2.2, (Kd.N_reads' h2).2.1⟩, h3⟩)
      have HS1 := Lib.hid (fun (W : World) (hW : Below w.heap.size w W) => show Calls Try.prog 21 #[.agg #[.int .i64 a0, .int .u32 a1, .int .i64 a2, .int .i64 a3, .int .u32 a4, .int .u32 a5, .int .u32 a6, .int .u32 a7, .slice A8 l8.length c8, .slice A9 l9.length c9]] W (fun e w' => ∃ v8 v9 At ct, e = .returned (.tuple #[.agg #[.int .i64 s0, .int .u32 s1, .int .i64 s2, .int .i64 s3, .int .u32 s4, .int .u32 s5, .int .u32 s6, .int .u32 s7, v8, v9], .slice At s10.length ct, .int .i64 s11]) ∧ PkAt w' s8 s9 v8 v9 ∧ Kd.C k48 w' At s10.length s10 ∧ s10.length ≤ ct ∧ Below W.heap.size W w') from
        (relay_Strip.calls a0 a1 a2 a3 a4 a5 a6 a7 A8 c8 l8 _ A9 c9 l9 s0 s1 s2 s3 s4 s5 s6 s7 s8 s9 s10 s11 W (Kd.C_below H8.out hW) hc8 (V9 W hW) e3).mono fun e w' he => by
          obtain ⟨v8, v9, v10, rfl, h1, h2, h4, h3⟩ := he
          obtain ⟨A8', c8', rfl⟩ := Kd.R_slice h1
          obtain ⟨A9', c9', rfl⟩ := Kd.N_slice h2
          obtain ⟨At, ct, rfl⟩ := Kd.N_slice h4
          exact ⟨_, _, _, _, rfl, ⟨_, _, _, _, rfl, rfl, (Kd.R_reads' h1).2.2, (Kd.N_reads' h2).2.2, (Kd.N_reads' h2).2.1⟩, (Kd.N_reads' h4).2.2, (Kd.N_reads' h4).2.1, h3⟩)
      have HS2 := Lib.hid (fun (W : World) (hW : Below w.heap.size w W) => show Calls Try.prog 22 #[.agg #[.int .i64 a0, .int .u32 a1, .int .i64 a2, .int .i64 a3, .int .u32 a4, .int .u32 a5, .int .u32 a6, .int .u32 a7, .slice A8 l8.length c8, .slice A9 l9.length c9]] W (fun e w' => ∃ v8 v9 At ct, e = .returned (.tuple #[.agg #[.int .i64 s0, .int .u32 s1, .int .i64 s2, .int .i64 s3, .int .u32 s4, .int .u32 s5, .int .u32 s6, .int .u32 s7, v8, v9], .slice At s10.length ct, .int .i64 s11]) ∧ PkAt w' s8 s9 v8 v9 ∧ Kd.C k48 w' At s10.length s10 ∧ s10.length ≤ ct ∧ Below W.heap.size W w') from
        (lessorref26_Strip.calls 520 a0 a1 a2 a3 a4 a5 a6 a7 _ A8 c8 l8 _ A9 c9 l9 s0 s1 s2 s3 s4 s5 s6 s7 s8 s9 s10 s11 W (V8 W hW) (V9 W hW) e4).mono fun e w' he => by
          obtain ⟨v8, v9, v10, rfl, h1, h2, h4, h3⟩ := he
          obtain ⟨A8', c8', rfl⟩ := Kd.V_slice h1
          obtain ⟨A9', c9', rfl⟩ := Kd.N_slice h2
          obtain ⟨At, ct, rfl⟩ := Kd.N_slice h4
          exact ⟨_, _, _, _, rfl, ⟨_, _, _, _, rfl, rfl, (Kd.V_reads' h1).2.2, (Kd.N_reads' h2).2.2, (Kd.N_reads' h2).2.1⟩, (Kd.N_reads' h4).2.2, (Kd.N_reads' h4).2.1, h3⟩)
      clear e1 e2 e3 e4 V8 V9 hf hfl hfp
      have y0 := (blk_cell HP.out 0).trans rfl
      have y1 := (blk_cell HP.out 1).trans rfl
      have y2 := (blk_cell HP.out 2).trans rfl
      have y3 := (blk_cell HP.out 3).trans rfl
      have y4 := (blk_cell HP.out 4).trans rfl
      have y5 := (blk_cell HP.out 5).trans rfl
      have y6 := (blk_cell HP.out 6).trans rfl
      have y7 := (blk_cell HP.out 7).trans rfl
      have y8 := (blk_cell HP.out 8).trans rfl
      have y9 := (blk_cell HP.out 9).trans rfl
      go_wp2_with fail
      refine (HA1.out _ HW.out).mono ?_
      rintro e w5 ⟨_, _, rfl, ⟨E8xa, f8xa, E9xa, f9xa, rfl, rfl, g8, g9, g9c⟩, hb5⟩
      have G8xa := Lib.hid g8
      have G9xa := Lib.hid g9
      have K9xa := Lib.hid g9c
      clear g8 g9 g9c y0 y1 y2 y3 y4 y5 y6 y7 y8 y9
      have HP2 : Hid (_ = some _) := (hb5.block _ (blk_lt HP.out)).trans HP.out
      have HW2 := Lib.hid (HW.out.trans (hb5.mono HW.out.size))
      clear HP HW
      have HP := HP2
      have HW := HW2
      clear HP2 HW2
      clear hb5 HA1
      go_upto_region 7 with fail
      obtain ⟨xa, hxa⟩ : ∃ b, w5.heap.size = b := ⟨_, rfl⟩
      obtain ⟨w6, hw6⟩ : ∃ W, w5.alloc (.cells #[.int .i64 q0, .int .u32 q1, .int .i64 q2, .int .i64 q3, .int .u32 q4, .int .u32 q5, .int .u32 q6, .int .u32 q7, .slice E8xa q8.length f8xa, .slice E9xa q9.length f9xa] 28) = W := ⟨_, rfl⟩
      have hb6 : Below w5.heap.size w5 w6 := by rw [← hw6]; exact below_alloc (Below.refl _ _) _
      have Hxa : Hid (w6.heap[xa]? = some (.cells #[.int .i64 q0, .int .u32 q1, .int .i64 q2, .int .i64 q3, .int .u32 q4, .int .u32 q5, .int .u32 q6, .int .u32 q7, .slice E8xa q8.length f8xa, .slice E9xa q9.length f9xa] 28 (0, 0))) := by show _ = _; rw [← hw6, ← hxa]; exact blk_new _ _
      have HP2 : Hid (_ = some _) := (hb6.block _ (blk_lt HP.out)).trans HP.out
      have G8xa2 := Lib.hid (Kd.C_below G8xa.out hb6)
      have G9xa2 := Lib.hid (Kd.C_below G9xa.out hb6)
      have HW2 := Lib.hid (HW.out.trans (hb6.mono HW.out.size))
      clear HP G8xa G9xa HW
      have HP := HP2
      have G8xa := G8xa2
      have G9xa := G9xa2
      have HW := HW2
      clear HP2 G8xa2 G9xa2 HW2
      try rw [hw6]
      try rw [hxa]
      clear hw6 hxa hb6
      have y0 := (blk_cell HP.out 0).trans rfl
      have y1 := (blk_cell HP.out 1).trans rfl
      have y2 := (blk_cell HP.out 2).trans rfl
      have y3 := (blk_cell HP.out 3).trans rfl
      have y4 := (blk_cell HP.out 4).trans rfl
      have y5 := (blk_cell HP.out 5).trans rfl
      have y6 := (blk_cell HP.out 6).trans rfl
      have y7 := (blk_cell HP.out 7).trans rfl
      have y8 := (blk_cell HP.out 8).trans rfl
      have y9 := (blk_cell HP.out 9).trans rfl
      go_wp2_with fail
      refine (HA2.out _ HW.out).mono ?_
      rintro e w7 ⟨_, _, rfl, ⟨E8xb, f8xb, E9xb, f9xb, rfl, rfl, g8, g9, g9c⟩, hb7⟩
      have G8xb := Lib.hid g8
      have G9xb := Lib.hid g9
      have K9xb := Lib.hid g9c
      clear g8 g9 g9c y0 y1 y2 y3 y4 y5 y6 y7 y8 y9
      have HP2 : Hid (_ = some _) := (hb7.block _ (blk_lt HP.out)).trans HP.out
      have Hxa2 : Hid (_ = some _) := (hb7.block _ (blk_lt Hxa.out)).trans Hxa.out
      have G8xa2 := Lib.hid (Kd.C_below G8xa.out hb7)
      have G9xa2 := Lib.hid (Kd.C_below G9xa.out hb7)
      have HW2 := Lib.hid (HW.out.trans (hb7.mono HW.out.size))
      clear HP Hxa G8xa G9xa HW
      have HP := HP2
      have Hxa := Hxa2
      have G8xa := G8xa2
      have G9xa := G9xa2
      have HW := HW2
      clear HP2 Hxa2 G8xa2 G9xa2 HW2
      clear hb7 HA2
      go_upto_region 8 with fail
      obtain ⟨xb, hxb⟩ : ∃ b, w7.heap.size = b := ⟨_, rfl⟩
      obtain ⟨w8, hw8⟩ : ∃ W, w7.alloc (.cells #[.int .i64 q0, .int .u32 q1, .int .i64 q2, .int .i64 q3, .int .u32 q4, .int .u32 q5, .int .u32 q6, .int .u32 q7, .slice E8xb q8.length f8xb, .slice E9xb q9.length f9xb] 28) = W := ⟨_, rfl⟩
      have hb8 : Below w7.heap.size w7 w8 := by rw [← hw8]; exact below_alloc (Below.refl _ _) _
      have Hxb : Hid (w8.heap[xb]? = some (.cells #[.int .i64 q0, .int .u32 q1, .int .i64 q2, .int .i64 q3, .int .u32 q4, .int .u32 q5, .int .u32 q6, .int .u32 q7, .slice E8xb q8.length f8xb, .slice E9xb q9.length f9xb] 28 (0, 0))) := by show _ = _; rw [← hw8, ← hxb]; exact blk_new _ _
      have HP2 : Hid (_ = some _) := (hb8.block _ (blk_lt HP.out)).trans HP.out
      have Hxa2 : Hid (_ = some _) := (hb8.block _ (blk_lt Hxa.out)).trans Hxa.out
      have G8xa2 := Lib.hid (Kd.C_below G8xa.out hb8)
      have G9xa2 := Lib.hid (Kd.C_below G9xa.out hb8)
      have G8xb2 := Lib.hid (Kd.C_below G8xb.out hb8)
      have G9xb2 := Lib.hid (Kd.C_below G9xb.out hb8)
      have HW2 := Lib.hid (HW.out.trans (hb8.mono HW.out.size))
      clear HP Hxa G8xa G9xa G8xb G9xb HW
      have HP := HP2
      have Hxa := Hxa2
      have G8xa := G8xa2
      have G9xa := G9xa2
      have G8xb := G8xb2
      have G9xb := G9xb2
      have HW := HW2
      clear HP2 Hxa2 G8xa2 G9xa2 G8xb2 G9xb2 HW2
      try rw [hw8]
      try rw [hxb]
      clear hw8 hxb hb8
      have y0 := (blk_cell Hxa.out 0).trans rfl
      have y1 := (blk_cell Hxa.out 1).trans rfl
      have y2 := (blk_cell Hxa.out 2).trans rfl
      have y3 := (blk_cell Hxa.out 3).trans rfl
      have y4 := (blk_cell Hxa.out 4).trans rfl
      have y5 := (blk_cell Hxa.out 5).trans rfl
      have y6 := (blk_cell Hxa.out 6).trans rfl
      have y7 := (blk_cell Hxa.out 7).trans rfl
      have y8 := (blk_cell Hxa.out 8).trans rfl
      have y9 := (blk_cell Hxa.out 9).trans rfl
      have z0 := (blk_cell Hxb.out 0).trans rfl
      have z1 := (blk_cell Hxb.out 1).trans rfl
      have z2 := (blk_cell Hxb.out 2).trans rfl
      have z3 := (blk_cell Hxb.out 3).trans rfl
      have z4 := (blk_cell Hxb.out 4).trans rfl
      have z5 := (blk_cell Hxb.out 5).trans rfl
      have z6 := (blk_cell Hxb.out 6).trans rfl
      have z7 := (blk_cell Hxb.out 7).trans rfl
      have z8 := (blk_cell Hxb.out 8).trans rfl
      have z9 := (blk_cell Hxb.out 9).trans rfl
      have HSM := Lib.hid (same3C q0 q1 q2 q3 q4 q5 q6 q7 E8xa f8xa q8 E9xa f9xa q9 E8xb f8xb E9xb f9xb _ G8xa.out G9xa.out K9xa.out G8xb.out G9xb.out K9xb.out (by omega))
      go_wp2_with fail
      refine HSM.out.mono ?_
      rintro e w9 ⟨rfl, hb9⟩
      clear HSM y0 z0 y1 z1 y2 z2 y3 z3 y4 z4 y5 z5 y6 z6 y7 z7 y8 z8 y9 z9
      have HP2 : Hid (_ = some _) := (hb9.block _ (blk_lt HP.out)).trans HP.out
      have Hxa2 : Hid (_ = some _) := (hb9.block _ (blk_lt Hxa.out)).trans Hxa.out
      have Hxb2 : Hid (_ = some _) := (hb9.block _ (blk_lt Hxb.out)).trans Hxb.out
      have G8xa2 := Lib.hid (Kd.C_below G8xa.out hb9)
      have G9xa2 := Lib.hid (Kd.C_below G9xa.out hb9)
      have G8xb2 := Lib.hid (Kd.C_below G8xb.out hb9)
      have G9xb2 := Lib.hid (Kd.C_below G9xb.out hb9)
      have HW2 := Lib.hid (HW.out.trans (hb9.mono HW.out.size))
      clear HP Hxa Hxb G8xa G9xa G8xb G9xb HW
      have HP := HP2
      have Hxa := Hxa2
      have Hxb := Hxb2
      have G8xa := G8xa2
      have G9xa := G9xa2
      have G8xb := G8xb2
      have G9xb := G9xb2
      have HW := HW2
      clear HP2 Hxa2 Hxb2 G8xa2 G9xa2 G8xb2 G9xb2 HW2
      clear hb9
      have y0 := (blk_cell HP.out 0).trans rfl
      have y1 := (blk_cell HP.out 1).trans rfl
      have y2 := (blk_cell HP.out 2).trans rfl
      have y3 := (blk_cell HP.out 3).trans rfl
      have y4 := (blk_cell HP.out 4).trans rfl
      have y5 := (blk_cell HP.out 5).trans rfl
      have y6 := (blk_cell HP.out 6).trans rfl
      have y7 := (blk_cell HP.out 7).trans rfl
      have y8 := (blk_cell HP.out 8).trans rfl
      have y9 := (blk_cell HP.out 9).trans rfl
      go_wp2_with fail
      refine (HS1.out _ HW.out).mono ?_
      rintro e w10 ⟨_, _, Txc, txc, rfl, ⟨E8xc, f8xc, E9xc, f9xc, rfl, rfl, g8, g9, g9c⟩, gt, gtc, hb10⟩
      have G8xc := Lib.hid g8
      have G9xc := Lib.hid g9
      have K9xc := Lib.hid g9c
      have GTxc := Lib.hid gt
      have KTxc := Lib.hid gtc
      clear g8 g9 g9c gt gtc y0 y1 y2 y3 y4 y5 y6 y7 y8 y9
      have HP2 : Hid (_ = some _) := (hb10.block _ (blk_lt HP.out)).trans HP.out
      have Hxa2 : Hid (_ = some _) := (hb10.block _ (blk_lt Hxa.out)).trans Hxa.out
      have Hxb2 : Hid (_ = some _) := (hb10.block _ (blk_lt Hxb.out)).trans Hxb.out
      have G8xa2 := Lib.hid (Kd.C_below G8xa.out hb10)
      have G9xa2 := Lib.hid (Kd.C_below G9xa.out hb10)
      have G8xb2 := Lib.hid (Kd.C_below G8xb.out hb10)
      have G9xb2 := Lib.hid (Kd.C_below G9xb.out hb10)
      have HW2 := Lib.hid (HW.out.trans (hb10.mono HW.out.size))
      clear HP Hxa Hxb G8xa G9xa G8xb G9xb HW
      have HP := HP2
      have Hxa := Hxa2
      have Hxb := Hxb2
      have G8xa := G8xa2
      have G9xa := G9xa2
      have G8xb := G8xb2
      have G9xb := G9xb2
      have HW := HW2
      clear HP2 Hxa2 Hxb2 G8xa2 G9xa2 G8xb2 G9xb2 HW2
      clear hb10 HS1
      go_upto_region 10 with fail
      obtain ⟨xc, hxc⟩ : ∃ b, w10.heap.size = b := ⟨_, rfl⟩
      obtain ⟨w11, hw11⟩ : ∃ W, w10.alloc (.cells #[.int .i64 s0, .int .u32 s1, .int .i64 s2, .int .i64 s3, .int .u32 s4, .int .u32 s5, .int .u32 s6, .int .u32 s7, .slice E8xc s8.length f8xc, .slice E9xc s9.length f9xc] 28) = W := ⟨_, rfl⟩
      have hb11 : Below w10.heap.size w10 w11 := by rw [← hw11]; exact below_alloc (Below.refl _ _) _
      have Hxc : Hid (w11.heap[xc]? = some (.cells #[.int .i64 s0, .int .u32 s1, .int .i64 s2, .int .i64 s3, .int .u32 s4, .int .u32 s5, .int .u32 s6, .int .u32 s7, .slice E8xc s8.length f8xc, .slice E9xc s9.length f9xc] 28 (0, 0))) := by show _ = _; rw [← hw11, ← hxc]; exact blk_new _ _
      have HP2 : Hid (_ = some _) := (hb11.block _ (blk_lt HP.out)).trans HP.out
      have Hxa2 : Hid (_ = some _) := (hb11.block _ (blk_lt Hxa.out)).trans Hxa.out
      have Hxb2 : Hid (_ = some _) := (hb11.block _ (blk_lt Hxb.out)).trans Hxb.out
      have G8xa2 := Lib.hid (Kd.C_below G8xa.out hb11)
      have G9xa2 := Lib.hid (Kd.C_below G9xa.out hb11)
      have G8xb2 := Lib.hid (Kd.C_below G8xb.out hb11)
      have G9xb2 := Lib.hid (Kd.C_below G9xb.out hb11)
      have G8xc2 := Lib.hid (Kd.C_below G8xc.out hb11)
      have G9xc2 := Lib.hid (Kd.C_below G9xc.out hb11)
      have GTxc2 := Lib.hid (Kd.C_below GTxc.out hb11)
      have HW2 := Lib.hid (HW.out.trans (hb11.mono HW.out.size))
      clear HP Hxa Hxb G8xa G9xa G8xb G9xb G8xc G9xc GTxc HW
      have HP := HP2
      have Hxa := Hxa2
      have Hxb := Hxb2
      have G8xa := G8xa2
      have G9xa := G9xa2
      have G8xb := G8xb2
      have G9xb := G9xb2
      have G8xc := G8xc2
      have G9xc := G9xc2
      have GTxc := GTxc2
      have HW := HW2
      clear HP2 Hxa2 Hxb2 G8xa2 G9xa2 G8xb2 G9xb2 G8xc2 G9xc2 GTxc2 HW2
      try rw [hw11]
      try rw [hxc]
      clear hw11 hxc hb11
      have y0 := (blk_cell HP.out 0).trans rfl
      have y1 := (blk_cell HP.out 1).trans rfl
      have y2 := (blk_cell HP.out 2).trans rfl
      have y3 := (blk_cell HP.out 3).trans rfl
      have y4 := (blk_cell HP.out 4).trans rfl
      have y5 := (blk_cell HP.out 5).trans rfl
      have y6 := (blk_cell HP.out 6).trans rfl
      have y7 := (blk_cell HP.out 7).trans rfl
      have y8 := (blk_cell HP.out 8).trans rfl
      have y9 := (blk_cell HP.out 9).trans rfl
      go_wp2_with fail
      refine (HS2.out _ HW.out).mono ?_
      rintro e w12 ⟨_, _, Txd, txd, rfl, ⟨E8xd, f8xd, E9xd, f9xd, rfl, rfl, g8, g9, g9c⟩, gt, gtc, hb12⟩
      have G8xd := Lib.hid g8
      have G9xd := Lib.hid g9
      have K9xd := Lib.hid g9c
      have GTxd := Lib.hid gt
      have KTxd := Lib.hid gtc
      clear g8 g9 g9c gt gtc y0 y1 y2 y3 y4 y5 y6 y7 y8 y9
      have HP2 : Hid (_ = some _) := (hb12.block _ (blk_lt HP.out)).trans HP.out
      have Hxa2 : Hid (_ = some _) := (hb12.block _ (blk_lt Hxa.out)).trans Hxa.out
      have Hxb2 : Hid (_ = some _) := (hb12.block _ (blk_lt Hxb.out)).trans Hxb.out
      have Hxc2 : Hid (_ = some _) := (hb12.block _ (blk_lt Hxc.out)).trans Hxc.out
      have G8xa2 := Lib.hid (Kd.C_below G8xa.out hb12)
      have G9xa2 := Lib.hid (Kd.C_below G9xa.out hb12)
      have G8xb2 := Lib.hid (Kd.C_below G8xb.out hb12)
      have G9xb2 := Lib.hid (Kd.C_below G9xb.out hb12)
      have G8xc2 := Lib.hid (Kd.C_below G8xc.out hb12)
      have G9xc2 := Lib.hid (Kd.C_below G9xc.out hb12)
      have GTxc2 := Lib.hid (Kd.C_below GTxc.out hb12)
      have HW2 := Lib.hid (HW.out.trans (hb12.mono HW.out.size))
      clear HP Hxa Hxb Hxc G8xa G9xa G8xb G9xb G8xc G9xc GTxc HW
      have HP := HP2
      have Hxa := Hxa2
      have Hxb := Hxb2
      have Hxc := Hxc2
      have G8xa := G8xa2
      have G9xa := G9xa2
      have G8xb := G8xb2
      have G9xb := G9xb2
      have G8xc := G8xc2
      have G9xc := G9xc2
      have GTxc := GTxc2
      have HW := HW2
      clear HP2 Hxa2 Hxb2 Hxc2 G8xa2 G9xa2 G8xb2 G9xb2 G8xc2 G9xc2 GTxc2 HW2
      clear hb12 HS2
      go_upto_region 11 with fail
      obtain ⟨xd, hxd⟩ : ∃ b, w12.heap.size = b := ⟨_, rfl⟩
      obtain ⟨w13, hw13⟩ : ∃ W, w12.alloc (.cells #[.int .i64 s0, .int .u32 s1, .int .i64 s2, .int .i64 s3, .int .u32 s4, .int .u32 s5, .int .u32 s6, .int .u32 s7, .slice E8xd s8.length f8xd, .slice E9xd s9.length f9xd] 28) = W := ⟨_, rfl⟩
      have hb13 : Below w12.heap.size w12 w13 := by rw [← hw13]; exact below_alloc (Below.refl _ _) _
      have Hxd : Hid (w13.heap[xd]? = some (.cells #[.int .i64 s0, .int .u32 s1, .int .i64 s2, .int .i64 s3, .int .u32 s4, .int .u32 s5, .int .u32 s6, .int .u32 s7, .slice E8xd s8.length f8xd, .slice E9xd s9.length f9xd] 28 (0, 0))) := by show _ = _; rw [← hw13, ← hxd]; exact blk_new _ _
      have HP2 : Hid (_ = some _) := (hb13.block _ (blk_lt HP.out)).trans HP.out
      have Hxa2 : Hid (_ = some _) := (hb13.block _ (blk_lt Hxa.out)).trans Hxa.out
      have Hxb2 : Hid (_ = some _) := (hb13.block _ (blk_lt Hxb.out)).trans Hxb.out
      have Hxc2 : Hid (_ = some _) := (hb13.block _ (blk_lt Hxc.out)).trans Hxc.out
      have G8xa2 := Lib.hid (Kd.C_below G8xa.out hb13)
      have G9xa2 := Lib.hid (Kd.C_below G9xa.out hb13)
      have G8xb2 := Lib.hid (Kd.C_below G8xb.out hb13)
      have G9xb2 := Lib.hid (Kd.C_below G9xb.out hb13)
      have G8xc2 := Lib.hid (Kd.C_below G8xc.out hb13)
      have G9xc2 := Lib.hid (Kd.C_below G9xc.out hb13)
      have GTxc2 := Lib.hid (Kd.C_below GTxc.out hb13)
      have G8xd2 := Lib.hid (Kd.C_below G8xd.out hb13)
      have G9xd2 := Lib.hid (Kd.C_below G9xd.out hb13)
      have GTxd2 := Lib.hid (Kd.C_below GTxd.out hb13)
      have HW2 := Lib.hid (HW.out.trans (hb13.mono HW.out.size))
      clear HP Hxa Hxb Hxc G8xa G9xa G8xb G9xb G8xc G9xc GTxc G8xd G9xd GTxd HW
      have HP := HP2
      have Hxa := Hxa2
      have Hxb := Hxb2
      have Hxc := Hxc2
      have G8xa := G8xa2
      have G9xa := G9xa2
      have G8xb := G8xb2
      have G9xb := G9xb2
      have G8xc := G8xc2
      have G9xc := G9xc2
      have GTxc := GTxc2
      have G8xd := G8xd2
      have G9xd := G9xd2
      have GTxd := GTxd2
      have HW := HW2
      clear HP2 Hxa2 Hxb2 Hxc2 G8xa2 G9xa2 G8xb2 G9xb2 G8xc2 G9xc2 GTxc2 G8xd2 G9xd2 GTxd2 HW2
      try rw [hw13]
      try rw [hxd]
      clear hw13 hxd hb13
      have y0 := (blk_cell Hxc.out 0).trans rfl
      have y1 := (blk_cell Hxc.out 1).trans rfl
      have y2 := (blk_cell Hxc.out 2).trans rfl
      have y3 := (blk_cell Hxc.out 3).trans rfl
      have y4 := (blk_cell Hxc.out 4).trans rfl
      have y5 := (blk_cell Hxc.out 5).trans rfl
      have y6 := (blk_cell Hxc.out 6).trans rfl
      have y7 := (blk_cell Hxc.out 7).trans rfl
      have y8 := (blk_cell Hxc.out 8).trans rfl
      have y9 := (blk_cell Hxc.out 9).trans rfl
      have z0 := (blk_cell Hxd.out 0).trans rfl
      have z1 := (blk_cell Hxd.out 1).trans rfl
      have z2 := (blk_cell Hxd.out 2).trans rfl
      have z3 := (blk_cell Hxd.out 3).trans rfl
      have z4 := (blk_cell Hxd.out 4).trans rfl
      have z5 := (blk_cell Hxd.out 5).trans rfl
      have z6 := (blk_cell Hxd.out 6).trans rfl
      have z7 := (blk_cell Hxd.out 7).trans rfl
      have z8 := (blk_cell Hxd.out 8).trans rfl
      have z9 := (blk_cell Hxd.out 9).trans rfl
      have HSM := Lib.hid (same3C s0 s1 s2 s3 s4 s5 s6 s7 E8xc f8xc s8 E9xc f9xc s9 E8xd f8xd E9xd f9xd _ G8xc.out G9xc.out K9xc.out G8xd.out G9xd.out K9xd.out (by omega))
      go_wp2_with fail
      refine HSM.out.mono ?_
      rintro e w14 ⟨rfl, hb14⟩
      clear HSM y0 z0 y1 z1 y2 z2 y3 z3 y4 z4 y5 z5 y6 z6 y7 z7 y8 z8 y9 z9
      have HP2 : Hid (_ = some _) := (hb14.block _ (blk_lt HP.out)).trans HP.out
      have Hxa2 : Hid (_ = some _) := (hb14.block _ (blk_lt Hxa.out)).trans Hxa.out
      have Hxb2 : Hid (_ = some _) := (hb14.block _ (blk_lt Hxb.out)).trans Hxb.out
      have Hxc2 : Hid (_ = some _) := (hb14.block _ (blk_lt Hxc.out)).trans Hxc.out
      have Hxd2 : Hid (_ = some _) := (hb14.block _ (blk_lt Hxd.out)).trans Hxd.out
      have G8xa2 := Lib.hid (Kd.C_below G8xa.out hb14)
      have G9xa2 := Lib.hid (Kd.C_below G9xa.out hb14)
      have G8xb2 := Lib.hid (Kd.C_below G8xb.out hb14)
      have G9xb2 := Lib.hid (Kd.C_below G9xb.out hb14)
      have G8xc2 := Lib.hid (Kd.C_below G8xc.out hb14)
      have G9xc2 := Lib.hid (Kd.C_below G9xc.out hb14)
      have GTxc2 := Lib.hid (Kd.C_below GTxc.out hb14)
      have G8xd2 := Lib.hid (Kd.C_below G8xd.out hb14)
      have G9xd2 := Lib.hid (Kd.C_below G9xd.out hb14)
      have GTxd2 := Lib.hid (Kd.C_below GTxd.out hb14)
      have HW2 := Lib.hid (HW.out.trans (hb14.mono HW.out.size))
      clear HP Hxa Hxb Hxc Hxd G8xa G9xa G8xb G9xb G8xc G9xc GTxc G8xd G9xd GTxd HW
      have HP := HP2
      have Hxa := Hxa2
      have Hxb := Hxb2
      have Hxc := Hxc2
      have Hxd := Hxd2
      have G8xa := G8xa2
      have G9xa := G9xa2
      have G8xb := G8xb2
      have G9xb := G9xb2
      have G8xc := G8xc2
      have G9xc := G9xc2
      have GTxc := GTxc2
      have G8xd := G8xd2
      have G9xd := G9xd2
      have GTxd := GTxd2
      have HW := HW2
      clear HP2 Hxa2 Hxb2 Hxc2 Hxd2 G8xa2 G9xa2 G8xb2 G9xb2 G8xc2 G9xc2 GTxc2 G8xd2 G9xd2 GTxd2 HW2
      clear hb14
      have HST := Lib.hid (lessorref02_Same.calls 1000001 Txc txc s10 Txd txd s10 true _ GTxc.out KTxc.out GTxd.out KTxd.out (PL.same_refl s10 (by omega) 1000001 (by omega)))
      go_wp2_with fail
      refine HST.out.mono ?_
      rintro e w15 ⟨rfl, hd15⟩
      have hb15 := drawn_below hd15
      clear hd15
      have HWE := Lib.hid (HW.out.trans (hb15.mono HW.out.size))
      clear hb15 HST
      go_wp2_with fail
      go_ret
      exact ⟨rfl, HWE.out⟩
end Go.Proofs.Ytnkajghemggaaaa
end

section
-- written by a program of this session (wip/tools/gen.py) over the kit's print
namespace Go.Proofs.Ytnkajghemggaaaa
open Go.RowKit Go.Proofs.Ytnkajghemggaaaa.Pr Go.Proofs.YtnkajghemggaaaaW.PrintWords Go.Proofs.YtnkajghemggaaaaW.PrintLast Go.Proofs.YtnkajghemggaaaaW.PrintMore
set_option linter.unusedVariables false
namespace relayPackets
def PS48 (x : S48) : Prop := ((Lit.int .i64 x.f0).wf = true) ∧ (x.f1.length ≤ maxLen ∧ ∀ y ∈ x.f1, (Lit.int .u8 y).wf = true)
theorem opens_S48 {H : Type} {enc : TypeId × Value → H} {w : World} {base : Nat} {spare : Nat → Bool} {held : Bool} : Opens enc Try.prog w base spare held 48 k48 PS48 :=
  opens_iso (P := Try.prog) (fun a => ⟨a.1, a.2⟩) (fun _ => rfl) (opens_struct Try.underlying48 (by kernel_rfl) (opensF_cons rfl (by kernel_rfl) rfl (opens_int Try.underlying3) (opensF_one rfl (by kernel_rfl) (opens_slice Try.underlying25 (by kernel_rfl) (opens_int Try.underlying5)))))
def PS28 (x : S28) : Prop := ((Lit.int .i64 x.f0).wf = true) ∧ ((Lit.int .u32 x.f1).wf = true) ∧ ((Lit.int .i64 x.f2).wf = true) ∧ ((Lit.int .i64 x.f3).wf = true) ∧ ((Lit.int .u32 x.f4).wf = true) ∧ ((Lit.int .u32 x.f5).wf = true) ∧ ((Lit.int .u32 x.f6).wf = true) ∧ ((Lit.int .u32 x.f7).wf = true) ∧ (x.f8.length ≤ maxLen ∧ ∀ y ∈ x.f8, (Lit.int .u8 y).wf = true) ∧ (x.f9.length ≤ maxLen ∧ ∀ y ∈ x.f9, PS48 y)
theorem opens_S28 {H : Type} {enc : TypeId × Value → H} {w : World} {base : Nat} {spare : Nat → Bool} {held : Bool} : Opens enc Try.prog w base spare held 28 k28 PS28 :=
  opens_iso (P := Try.prog) (fun a => ⟨a.1, a.2.1, a.2.2.1, a.2.2.2.1, a.2.2.2.2.1, a.2.2.2.2.2.1, a.2.2.2.2.2.2.1, a.2.2.2.2.2.2.2.1, a.2.2.2.2.2.2.2.2.1, a.2.2.2.2.2.2.2.2.2⟩) (fun _ => rfl) (opens_struct Try.underlying28 (by kernel_rfl) (opensF_cons rfl (by kernel_rfl) rfl (opens_int Try.underlying3) (opensF_cons rfl (by kernel_rfl) rfl (opens_int Try.underlying23) (opensF_cons rfl (by kernel_rfl) rfl (opens_int Try.underlying3) (opensF_cons rfl (by kernel_rfl) rfl (opens_int Try.underlying3) (opensF_cons rfl (by kernel_rfl) rfl (opens_int Try.underlying24) (opensF_cons rfl (by kernel_rfl) rfl (opens_int Try.underlying24) (opensF_cons rfl (by kernel_rfl) rfl (opens_int Try.underlying24) (opensF_cons rfl (by kernel_rfl) rfl (opens_int Try.underlying24) (opensF_cons rfl (by kernel_rfl) rfl (opens_slice Try.underlying25 (by kernel_rfl) (opens_int Try.underlying5)) (opensF_one rfl (by kernel_rfl) (opens_slice Try.underlying26 (by kernel_rfl) opens_S48))))))))))))
/-- What is left to prove, over numbers and lists. -/
def Pure : Prop := ∀ (s0 : S28) (a1 : Int) (l2 : List (S48)), PS28 s0 → (Lit.int .u32 a1).wf = true → l2.length ≤ maxLen → (∀ x ∈ l2, PS48 x) → lessorlaw26_RelayPackets.f s0.f0 s0.f1 s0.f2 s0.f3 s0.f4 s0.f5 s0.f6 s0.f7 s0.f8 s0.f9 a1 l2 = some true
end relayPackets
end Go.Proofs.Ytnkajghemggaaaa
end

section
namespace Go.Proofs.Ytnkajghemggaaaa.relayPackets.Pure
open Go.RowKit Go.Proofs.Ytnkajghemggaaaa Go.Proofs.Ytnkajghemggaaaa.Pr Go.Proofs.YtnkajghemggaaaaW.PrintWords Go.Proofs.YtnkajghemggaaaaW.PrintLast
set_option linter.unusedVariables false
set_option linter.unusedSimpArgs false

theorem RelayPackets : relayPackets.Pure := by
  intro p g l hp hg hl hx
  obtain ⟨h0, h1, h2, h3, h4, h5, h6, h7, h8, h9⟩ := hp
  have hb : bytesO p.f9 := fun x hx y hy => PL.opt_bytes (h9.2 x hx) y hy
  exact if_pos hb
end Go.Proofs.Ytnkajghemggaaaa.relayPackets.Pure
end
