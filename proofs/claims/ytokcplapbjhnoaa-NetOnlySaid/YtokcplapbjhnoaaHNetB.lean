/-
  NetOnly: what is taken was put to that one, and as often, at most, as it was put and doubled. No condition.
-/
import Derived.Test.YtokcplapbjhnoaaHNetB0
namespace Go.Proofs.Ytokcplapbjhnoaa
open Go.RowKit Go.Maps Go.Proofs.Ytokcplapbjhnoaa.Pr Go.Proofs.YtokcplapbjhnoaaW.PrintWords Go.Proofs.YtokcplapbjhnoaaW.PrintLast Go.Proofs.YtokcplapbjhnoaaW.PrintMore
attribute [local go_sem] max2_int min2_int max_two min_two max_three min_three max_four min_four
set_option linter.unusedVariables false
set_option linter.unusedSimpArgs false

abbrev NsO := S40
theorem rd_no (l : List NsO) {i : Nat} (h : i < l.length) : rd_T40 l (i : Int) = l[i] := by
  unfold rd_T40
  rw [Int.toNat_natCast, List.getD_eq_getElem?_getD, List.getElem?_eq_getElem h]; rfl
theorem at_no5 {w : World} {A : Option Addr} {l : List NsO} (hC : Kd.C k40 w A l.length l) {k : Nat} (hk : k < l.length) :
    ∃ ad A4 c4, A = some ad ∧ w.cell? (ad.add (k * 5)) = some (.int .i64 l[k].f0) ∧ w.cell? ⟨(ad.add (k * 5)).block, (ad.add (k * 5)).off + 1, none⟩ = some (.int .i64 l[k].f1) ∧ w.cell? ⟨(ad.add (k * 5)).block, (ad.add (k * 5)).off + 2, none⟩ = some (.int .i64 l[k].f2) ∧
      w.cell? ⟨(ad.add (k * 5)).block, (ad.add (k * 5)).off + 3, none⟩ = some (.bool l[k].f3) ∧ w.cell? ⟨(ad.add (k * 5)).block, (ad.add (k * 5)).off + 4, none⟩ = some (.slice A4 l[k].f4.length c4) := by
  have := at_T40 hC (k : Int) (by omega) (by omega)
  rw [rd_no l hk, Int.toNat_natCast] at this
  obtain ⟨ad, A4, c4, h1, h2, h3, h4, h5, h6, _⟩ := this
  exact ⟨ad, A4, c4, h1, h2, h3, h4, h5, h6⟩
theorem u8_w {n : Int} (h0 : 0 ≤ n) (h1 : n ≤ 255) : IntKind.u8.wrap n = n := by rw [IntKind.wrap_u8]; omega
theorem cell_blw {w W : World} {a : Addr} {v : Value} (hb : Below w.heap.size w W) (h : w.cell? a = some v) : W.cell? a = some v := (hb.cell (World.block_lt_of_cell? w _ h)).trans h

set_option maxHeartbeats 8000000 in
set_option maxRecDepth 100000 in
theorem NetOnly_calls (room : Int) (A : Option Addr) (c0 : Nat) (l : List NsO) (w : World) (hC : Kd.C k40 w A l.length l) (hc : l.length ≤ c0) (hl : l.length ≤ 9223372036854775807) :
    Calls Try.prog 5 #[.int .i64 room, .slice A l.length c0] w fun e w' => e = .returned (.bool true) ∧ Below w.heap.size w w' := by
  have HC := Lib.hid hC
  clear hC
  have hmm := @run_makeMap Try.prog
  go_enter Try.func5, Try.ntmps5
  go_wp2_with (go_at_call 7; refine (nawake_calls _).mono ?_; rintro e w1 ⟨rfl, b1⟩; have B1 := Lib.hid b1; clear b1)
  by_cases hroom : 1 ≤ room ∧ room ≤ 1000
  · obtain ⟨h1, h2⟩ := hroom
    have OK0 := Lib.hid (NtS.ok_new h1 h2)
    have HRO : Hid (1 ≤ room ∧ room ≤ 1000) := ⟨h1, h2⟩
    refine (net_New_ok room _ h1 h2).mono ?_
    rintro e w3 ⟨rfl, rfl⟩
    obtain ⟨g, hg⟩ : ∃ g, w1.heap.size = g := ⟨_, rfl⟩
    obtain ⟨W3, hW3⟩ : ∃ W3, w1.alloc (.cells #[.int .i64 room, .bool false, .slice none 0 0, .slice none 0 0] 49) = W3 := ⟨_, rfl⟩
    have D3 := NtAt.new' 49 5 28 room w1 W3 g hg hW3
    have b3 := below_alloc B1.out (.cells #[.int .i64 room, .bool false, .slice none 0 0, .slice none 0 0] 49)
    rw [hW3] at b3
    rw [hW3, hg]
    have GG : Hid (w.heap.size ≤ g) := by show _ ≤ _; rw [← hg]; exact B1.out.size
    have DD := Lib.hid D3
    have B3 := Lib.hid b3
    clear hg hW3 D3 b3 B1 h1 h2
    go_upto_region 6 with fail
    obtain ⟨bm, hbm⟩ : ∃ b, W3.heap.size = b := ⟨_, rfl⟩
    obtain ⟨W4, hW4⟩ : ∃ W, W3.alloc (.map #[] 0) = W := ⟨_, rfl⟩
    have M4 : Hid (W4.ownsMap Try.prog 9 (plainElem Try.prog 3) bm 0 (.map [] : DataW Unit)) := by show World.ownsMap _ _ _ _ _ _ _; rw [← hW4, ← hbm]; exact World.ownsMap_made _ _ _ _
    have hb4 : Below W3.heap.size W3 W4 := by rw [← hW4]; exact below_alloc (Below.refl _ _) _
    have D4 := Lib.hid (DD.out.below hb4)
    have B4 := Lib.hid (B3.out.trans (hb4.mono B3.out.size))
    have GB : Hid (w.heap.size ≤ bm) := by have := B3.out.size; show _ ≤ _; omega
    try rw [hW4]
    try rw [hbm]
    clear hW4 hbm hb4 DD B3
    go_upto_region 7 with fail
    obtain ⟨ga, hga⟩ : ∃ b, W4.heap.size = b := ⟨_, rfl⟩
    obtain ⟨W5, hW5⟩ : ∃ W, W4.alloc (.cells #[.int .i64 0, .int .i64 0] 44) = W := ⟨_, rfl⟩
    have Kga : Hid (W5.heap[ga]? = some (.cells #[.int .i64 0, .int .i64 0] 44 (0, 0))) := by show _ = _; rw [← hW5, ← hga]; exact blk_new _ _
    have hb5 : Below W4.heap.size W4 W5 := by rw [← hW5]; exact below_alloc (Below.refl _ _) _
    have D5 := Lib.hid (D4.out.below hb5)
    have B5 := Lib.hid (B4.out.trans (hb5.mono B4.out.size))
    have M5 := Lib.hid (map_blw M4.out (hb5.block bm M4.out.lt))
    have Gga : Hid (w.heap.size ≤ ga) := by have := B4.out.size; show _ ≤ _; omega
    try rw [hW5]
    try rw [hga]
    clear hW5 hga hb5 D4 B4 M4
    go_upto_region 8 with fail
    obtain ⟨gt, hgt⟩ : ∃ b, W5.heap.size = b := ⟨_, rfl⟩
    obtain ⟨W6, hW6⟩ : ∃ W, W5.alloc (.cells #[.int .i64 0, .int .i64 0] 44) = W := ⟨_, rfl⟩
    have Kgt : Hid (W6.heap[gt]? = some (.cells #[.int .i64 0, .int .i64 0] 44 (0, 0))) := by show _ = _; rw [← hW6, ← hgt]; exact blk_new _ _
    have hb6 : Below W5.heap.size W5 W6 := by rw [← hW6]; exact below_alloc (Below.refl _ _) _
    have D6 := Lib.hid (D5.out.below hb6)
    have B6 := Lib.hid (B5.out.trans (hb6.mono B5.out.size))
    have M6 := Lib.hid (map_blw M5.out (hb6.block bm M5.out.lt))
    have Ggt : Hid (w.heap.size ≤ gt) := by have := B5.out.size; show _ ≤ _; omega
    have Ngagt : Hid (ga ≠ gt) := by have := blk_lt Kga.out; show _ ≠ _; omega
    have Kga' : Hid (W6.heap[ga]? = some (.cells #[.int .i64 0, .int .i64 0] 44 (0, 0))) := (hb6.block ga (blk_lt Kga.out)).trans Kga.out
    clear Kga
    have Kga := Kga'
    clear Kga'
    try rw [hW6]
    try rw [hgt]
    clear hW6 hgt hb6 D5 B5 M5
    go_upto_region 9 with fail
    obtain ⟨gp, hgp⟩ : ∃ b, W6.heap.size = b := ⟨_, rfl⟩
    obtain ⟨W7, hW7⟩ : ∃ W, W6.alloc (.cells #[.int .i64 0, .int .i64 0] 44) = W := ⟨_, rfl⟩
    have Kgp : Hid (W7.heap[gp]? = some (.cells #[.int .i64 0, .int .i64 0] 44 (0, 0))) := by show _ = _; rw [← hW7, ← hgp]; exact blk_new _ _
    have hb7 : Below W6.heap.size W6 W7 := by rw [← hW7]; exact below_alloc (Below.refl _ _) _
    have D7 := Lib.hid (D6.out.below hb7)
    have B7 := Lib.hid (B6.out.trans (hb7.mono B6.out.size))
    have M7 := Lib.hid (map_blw M6.out (hb7.block bm M6.out.lt))
    have Ggp : Hid (w.heap.size ≤ gp) := by have := B6.out.size; show _ ≤ _; omega
    have Ngagp : Hid (ga ≠ gp) := by have := blk_lt Kga.out; show _ ≠ _; omega
    have Kga' : Hid (W7.heap[ga]? = some (.cells #[.int .i64 0, .int .i64 0] 44 (0, 0))) := (hb7.block ga (blk_lt Kga.out)).trans Kga.out
    clear Kga
    have Kga := Kga'
    clear Kga'
    have Ngtgp : Hid (gt ≠ gp) := by have := blk_lt Kgt.out; show _ ≠ _; omega
    have Kgt' : Hid (W7.heap[gt]? = some (.cells #[.int .i64 0, .int .i64 0] 44 (0, 0))) := (hb7.block gt (blk_lt Kgt.out)).trans Kgt.out
    clear Kgt
    have Kgt := Kgt'
    clear Kgt'
    try rw [hW7]
    try rw [hgp]
    clear hW7 hgp hb7 D6 B6 M6
    have HA0 : Hid (OAt w W7 g (fun k => k = g) (NtS.new room) bm 0 ga gt gp (.map []) (fun _ => 0) (fun _ => 0) (fun _ => 0)) :=
      ⟨D7.out, OK0.out, M7.out, Kga.out, Kgt.out, Kgp.out, B7.out, fun k hk => by have e1 : k = g := hk; have := GG.out; omega, ⟨Ngagt.out, Ngagp.out, Ngtgp.out⟩, Gga.out, Ggt.out, Ggp.out, GB.out⟩
    have HV0 : Hid (OInv room 0 (NtS.new room) (.map []) (fun _ => 0) (fun _ => 0) (fun _ => 0)) := by
      refine ⟨rfl, fun j hj => ?_, fun j hj => by simp, ⟨_, rfl⟩, fun j hj => ?_⟩
      · obtain rfl | rfl : j = 0 ∨ j = 1 := by omega
        · rfl
        · rfl
      · obtain rfl | rfl : j = 0 ∨ j = 1 := by omega
        · intro b hb; cases hb
        · intro b hb; cases hb
    clear D7 M7 Kga Kgt Kgp B7 GG OK0 Ngagt Ngagp Ngtgp Gga Ggt Ggp GB
    go_wp2_with fail
    go_loopg [12] (l.length + 1) (fun kq v12 wr => ∃ (i : Nat) (O : Nat → Prop) (n : NtS) (k : Nat) (D : DataW Unit) (c t p : Nat → Int), v12 = .int .i64 i ∧ Hid (i ≤ l.length ∧ i ≤ 200 ∧ l.length + 1 ≤ kq + i) ∧ Hid (OAt w wr g O n bm k ga gt gp D c t p) ∧ Hid (OInv room i n D c t p) ∧ Hid (k ≤ i))
    case atStart => exact ⟨0, _, _, 0, _, _, _, _, rfl, Lib.hid (by omega), HA0, HV0, Lib.hid (Nat.le_refl _)⟩
    case round =>
      clear HA0 HV0
      obtain ⟨i, O, n, k, D, c, t, p, rfl, HI0, HA0, HV0, HK0⟩ := hrel
      by_cases hlt : i < l.length ∧ i < 200
      · obtain ⟨hlt, h200⟩ := hlt
        have HI : Hid (i < l.length ∧ i < 200 ∧ l.length + 1 ≤ gk + i) := by have := HI0.out; show _ ∧ _ ∧ _; omega
        clear HI0
        obtain ⟨ad, A4, c4, rfl, hx0, hx1, hx2, hx3, hx4⟩ := at_no5 HC.out hlt
        obtain ⟨x, hx⟩ : ∃ x, l[i] = x := ⟨_, rfl⟩
        rw [hx] at hx0 hx1 hx2 hx3 hx4
        replace hx0 := cell_blw HA0.out.out hx0
        replace hx1 := cell_blw HA0.out.out hx1
        replace hx2 := cell_blw HA0.out.out hx2
        replace hx3 := cell_blw HA0.out.out hx3
        replace hx4 := cell_blw HA0.out.out hx4
        clear hx
        have p1 : (0 ≤ (i : Int)) = True := eq_true (by omega)
        have p2 : ((i : Int) < (l.length : Int)) = True := eq_true (by omega)
        have p3 : ((i : Int) < 200) = True := eq_true (by omega)
        have p4 : (i < l.length) = True := eq_true hlt
        have p5 : (i < 200) = True := eq_true h200
        go_upto_region 13 with fail
        obtain ⟨gs, hgs⟩ : ∃ b, wr.heap.size = b := ⟨_, rfl⟩
        obtain ⟨W1, hW1⟩ : ∃ W, wr.alloc (.cells #[.int .i64 x.f0, .int .i64 x.f1, .int .i64 x.f2, .bool x.f3, .slice A4 x.f4.length c4] 40) = W := ⟨_, rfl⟩
        have KS : Hid (W1.heap[gs]? = some (.cells #[.int .i64 x.f0, .int .i64 x.f1, .int .i64 x.f2, .bool x.f3, .slice A4 x.f4.length c4] 40 (0, 0))) := by show _ = _; rw [← hW1, ← hgs]; exact blk_new _ _
        have HA1 : Hid (OAt w W1 g O n bm k ga gt gp D c t p) := by show OAt _ _ _ _ _ _ _ _ _ _ _ _ _ _; rw [← hW1]; exact HA0.out.below (below_alloc (Below.refl _ _) _)
        try rw [hW1]
        try rw [hgs]
        clear hW1 hgs hx0 hx1 hx2 hx3 hx4 HA0 p1 p2 p3 p4 p5 hlt h200
        have y1 := (blk_cell KS.out 1).trans rfl
        obtain ⟨j, hj, hto⟩ : ∃ j : Nat, j < 2 ∧ bits .and .i64 x.f1 1 = (j : Int) := by
          rcases and_one x.f1 with h | h
          · exact ⟨0, by decide, h⟩
          · exact ⟨1, by decide, h⟩
        have HJ := Lib.hid hj
        clear hj
        go_upto_region 14 with fail
        clear hto y1
        have hi := HI.out
        have hjj := HJ.out
        have wu1 : IntKind.u8.wrap (j : Int) = (j : Int) := u8_w (by omega) (by omega)
        have wu2 : IntKind.u8.wrap (i : Int) = (i : Int) := u8_w (by omega) (by omega)
        have wu3 : (j : Int) % 256 = (j : Int) := by omega
        have wu4 : (i : Int) % 256 = (i : Int) := by omega
        clear hi hjj
        go_upto_region 15 with (first | ((with_reducible refine gate_dst (N := 70) rfl ?_); refine conv_at rfl (.tmp 69) rfl _ _ _ [(j : Int)] rfl ?c1 ?_; (case c1 => exact C_new _ _ (by first | rfl | simp) [(j : Int)] 5 _ rfl (by simp))) | ((with_reducible refine gate_dst (N := 74) rfl ?_); refine conv_at rfl (.tmp 73) rfl _ _ _ [(i : Int)] rfl ?c2 ?_; (case c2 => exact C_new _ _ (by first | rfl | simp) [(i : Int)] 5 _ rfl (by simp))) | fail)
        have hks : strOfNums [(j : Int)] ++ strOfNums [(i : Int)] = kst (j : Int) (i : Int) := rfl
        try rw [hks]
        clear hks
        obtain ⟨W2, hW2⟩ : ∃ W, (W1.alloc (.cells #[.int .u8 (j : Int)] 5)).alloc (.cells #[.int .u8 (i : Int)] 5) = W := ⟨_, rfl⟩
        have hb2 : Below W1.heap.size W1 W2 := by rw [← hW2]; exact below_alloc (below_alloc (Below.refl _ _) _) _
        have HA2 := Lib.hid (HA1.out.below hb2)
        have KS2 : Hid (_ = some _) := (hb2.block gs (blk_lt KS.out)).trans KS.out
        try rw [hW2]
        clear hW2 hb2 HA1 KS wu2 wu4
        have y0 := (blk_cell KS2.out 0).trans rfl
        have y2 := (blk_cell KS2.out 2).trans rfl
        have y3 := (blk_cell KS2.out 3).trans rfl
        have KIN : Hid (k ≤ i) := HK0
        clear HK0 KS2
        by_cases h0 : x.f0 = 0
        · have q0 : (x.f0 == 0) = true := beq_iff_eq.2 h0
          go_wp2_with (first | ((with_reducible refine gate_dst (N := 83) rfl ?_); refine conv_sb rfl (.tmp 82) rfl (j : Int) (i : Int) (by have := HJ.out; omega) (by have := HI.out; omega) rfl ?_; intro W5 A5 c5 hb5 hC5 hc5) | fail)
          have HA5 := Lib.hid (HA2.out.below hb5)
          have hput := net_Put g O n (j : Int) A5 c5 [(j : Int), (i : Int)] W5 HA5.out.net HA5.out.ok hC5 hc5 (by simp)
          have HPT : Hid (Calls Try.prog 9 #[.pointer (some ⟨g, 0, none⟩), .int .i64 (j : Int), .slice A5 2 c5] W5 _) := hput
          clear hput hb5 hC5 hc5 HA2
          refine HPT.out.mono ?_
          clear HPT
          rintro e W6 ⟨O6, rfl, hn6, E6⟩
          have HA6 := Lib.hid (HA5.out.ext hn6 (NtS.ok_put HA5.out.ok _ (by simp)) E6)
          clear hn6 E6 HA5
          obtain ⟨z, hz⟩ : ∃ z, (n.put (j : Int) [(j : Int), (i : Int)]).1 = z := ⟨_, rfl⟩
          rw [hz]
          by_cases hz0 : z = 0
          · subst hz0
            have en := put_ok HJ.out hz
            have HAY := HA6.out
            rw [en] at HAY
            have HA7 := Lib.hid HAY
            clear HAY en hz HA6
            go_upto_region 20 with (first | (at_mapUpdate; refine wpList_mapUpdate_own _ rfl _ _ _ 43 rfl 9 3 lawS Try.underlying43 _ bm k D rfl HA7.out.map (by have := KIN.out; have := HI.out; unfold maxLen; omega) _ _ _ rfl rfl (kst_key (j : Int) (i : Int)) _ [] (plainElem_int Try.underlying3 (by decide)) ?_; intro W8 hm8 hg8) | fail)
            have HA8 := Lib.hid (HA7.out.mapped hm8 hg8)
            clear hm8 hg8 HA7
            have ix : ∀ W, (Instr.indexAt 44 (.pointer (some ⟨gp, 0, none⟩)) (.int .i64 (j : Int))).run Try.prog W = .ok (.pointer (some ⟨gp, j, none⟩)) W := idx2 gp j HJ.out
            have hat := at_two HA8.out.pa HJ.out
            have u1 := hat.1
            have u2 := hat.2
            have ew : IntKind.i64.wrap (p j + 1) = p j + 1 := IntWalk.i64_in _ (by have := HV0.out.bd j HJ.out; have := HI.out; omega)
            clear hat
            go_upto_region 37 with fail
            clear ix u1 u2 ew
            have HAX := HA8.out.setP HJ.out (p j + 1)
            have HVX := HV0.out.putted HJ.out (v := (i : Int)) (by have := HI.out; omega)
            have HKX : k + 1 ≤ i + 1 := Nat.succ_le_succ KIN.out
            clear HA8 HV0 KIN
            obtain ⟨W9, hW9⟩ : ∃ q, W8.setCell ⟨gp, j, none⟩ (.int .i64 (p j + 1)) = q := ⟨_, rfl⟩
            obtain ⟨O9, hO9⟩ : ∃ q, O6 = q := ⟨_, rfl⟩
            obtain ⟨n9, hn9⟩ : ∃ q, n.setWay (j : Int) (n.way (j : Int) ++ [[(j : Int), (i : Int)]]) = q := ⟨_, rfl⟩
            obtain ⟨k9, hk9⟩ : ∃ q, k + 1 = q := ⟨_, rfl⟩
            obtain ⟨D9, hD9⟩ : ∃ q, D.put (.string (kst (j : Int) (i : Int)).data.toList) (.lit (.int .i64 1)) = q := ⟨_, rfl⟩
            obtain ⟨c9, hc9⟩ : ∃ q, c = q := ⟨_, rfl⟩
            obtain ⟨t9, ht9⟩ : ∃ q, t = q := ⟨_, rfl⟩
            obtain ⟨p9, hp9⟩ : ∃ q, upd p j (p j + 1) = q := ⟨_, rfl⟩
            try rw [hW9] at HAX
            try rw [hW9] at HVX
            try rw [hW9] at HKX
            try rw [hW9]
            try rw [hO9] at HAX
            try rw [hO9] at HVX
            try rw [hO9] at HKX
            try rw [hO9]
            try rw [hn9] at HAX
            try rw [hn9] at HVX
            try rw [hn9] at HKX
            try rw [hn9]
            try rw [hk9] at HAX
            try rw [hk9] at HVX
            try rw [hk9] at HKX
            try rw [hk9]
            try rw [hD9] at HAX
            try rw [hD9] at HVX
            try rw [hD9] at HKX
            try rw [hD9]
            try rw [hc9] at HAX
            try rw [hc9] at HVX
            try rw [hc9] at HKX
            try rw [hc9]
            try rw [ht9] at HAX
            try rw [ht9] at HVX
            try rw [ht9] at HKX
            try rw [ht9]
            try rw [hp9] at HAX
            try rw [hp9] at HVX
            try rw [hp9] at HKX
            try rw [hp9]
            have HA := Lib.hid HAX
            have HV := Lib.hid HVX
            have HK := Lib.hid HKX
            clear HAX HVX HKX hW9 hO9 hn9 hk9 hD9 hc9 ht9 hp9
            have hcc := at_two HA.out.ca HJ.out
            have htt := at_two HA.out.ta HJ.out
            have hpp := at_two HA.out.pa HJ.out
            obtain ⟨lw, hlw⟩ : ∃ q : Nat, (n9.way (j : Int)).length = q := ⟨_, rfl⟩
            have hle := HV.out.e j HJ.out
            have hwi := way_in HA.out.ok j
            have hro := HV.out.room
            have hbd := HV.out.bd j HJ.out
            rw [hlw] at hle hwi
            obtain ⟨pj, hpj⟩ : ∃ q, p9 j = q := ⟨_, rfl⟩
            obtain ⟨cj, hcj⟩ : ∃ q, c9 j = q := ⟨_, rfl⟩
            obtain ⟨tj, htj⟩ : ∃ q, t9 j = q := ⟨_, rfl⟩
            rw [hpj] at hpp hle hbd
            rw [hcj] at hcc hle hbd
            rw [htj] at htt hle hbd
            have HLEN : Hid (∀ W, NN W g O9 n9 → Calls Try.prog 13 #[.pointer (some ⟨g, 0, none⟩), .int .i64 (j : Int)] W fun e w' => e = .returned (.int .i64 (lw : Int)) ∧ w' = W) := by
              intro W hW
              have := net_Len g O9 n9 (j : Int) W hW
              rw [len_j HJ.out, hlw] at this
              exact this
            have hi := HI.out
            have s1 : IntKind.i64.wrap (pj + cj) = pj + cj := IntWalk.i64_in _ (by omega)
            have s2 : IntKind.i64.wrap (tj + (lw : Int)) = pj + cj := by rw [IntWalk.i64_in _ (by omega)]; omega
            have s3 : ((lw : Int) > room) = False := eq_false (by omega)
            have s4 : decide ((lw : Int) > room) = false := decide_eq_false (by omega)
            have i1 : ∀ W, (Instr.indexAt 44 (.pointer (some ⟨gp, 0, none⟩)) (.int .i64 (j : Int))).run Try.prog W = .ok (.pointer (some ⟨gp, j, none⟩)) W := idx2 gp j HJ.out
            have i2 : ∀ W, (Instr.indexAt 44 (.pointer (some ⟨ga, 0, none⟩)) (.int .i64 (j : Int))).run Try.prog W = .ok (.pointer (some ⟨ga, j, none⟩)) W := idx2 ga j HJ.out
            have i3 : ∀ W, (Instr.indexAt 44 (.pointer (some ⟨gt, 0, none⟩)) (.int .i64 (j : Int))).run Try.prog W = .ok (.pointer (some ⟨gt, j, none⟩)) W := idx2 gt j HJ.out
            have q1 := hpp.1
            have q2 := hcc.1
            have q3 := htt.1
            clear hcc htt hpp hle hwi hro hbd hpj hcj htj hlw hi
            go_wp2_with fail
            refine start_ (n := 22) (S := fun w' => w'.cell? ⟨gp, j, none⟩ = some (.int .i64 pj) ∧ w'.cell? ⟨ga, j, none⟩ = some (.int .i64 cj) ∧ w'.cell? ⟨gt, j, none⟩ = some (.int .i64 tj)) (ds := []) #[false, false, false, false, false, false, false, false, false, false, false, false, false, false, false, false, false, false, false, false, false, false] (by kernel_rfl) rfl rfl ⟨q1, q2, q3⟩ (fun hHeld => ?_)
            obtain ⟨WD, hWD⟩ : ∃ W, W9.drew = W := ⟨_, rfl⟩
            have HA2 : Hid (OAt w WD g O9 n9 bm k9 ga gt gp D9 c9 t9 p9) := by show OAt _ _ _ _ _ _ _ _ _ _ _ _ _ _; rw [← hWD]; exact HA.out.below (below_drew (Below.refl _ _))
            rw [hWD] at hHeld ⊢
            clear hWD HA q1 q2 q3
            refine pure_ (i := 0) (N := some 158) (v := .int .i64 (j : Int)) (a' := ?_) #[true, false, false, false, false, false, false, false, false, false, false, false, false, false, false, false, false, false, false, false, false, false] rfl rfl (by kernel_rfl) (fun _ _ _ h => h) (Or.inl ⟨by rfl, ?_⟩) ?_ ?_
            · intro w'
              go_simp
              try (with_reducible rfl)
            rotate_left
            · simp only [Act.put, List.setIfInBounds_toArray, List.set_cons_zero, List.set_cons_succ, i64_w, i32_w]
              rfl
            refine pure_ (i := 1) (N := some 159) (v := .pointer (some ⟨gp, j, none⟩)) (a' := ?_) #[true, true, false, false, false, false, false, false, false, false, false, false, false, false, false, false, false, false, false, false, false, false] rfl rfl (by kernel_rfl) (fun _ _ _ h => h) (Or.inl ⟨by rfl, ?_⟩) ?_ ?_
            · intro w'
              go_simp
              try (with_reducible rfl)
            rotate_left
            · simp only [Act.put, List.setIfInBounds_toArray, List.set_cons_zero, List.set_cons_succ, i64_w, i32_w]
              rfl
            refine pure_ (i := 3) (N := some 161) (v := .int .i64 (j : Int)) (a' := ?_) #[true, true, false, true, false, false, false, false, false, false, false, false, false, false, false, false, false, false, false, false, false, false] rfl rfl (by kernel_rfl) (fun _ _ _ h => h) (Or.inl ⟨by rfl, ?_⟩) ?_ ?_
            · intro w'
              go_simp
              try (with_reducible rfl)
            rotate_left
            · simp only [Act.put, List.setIfInBounds_toArray, List.set_cons_zero, List.set_cons_succ, i64_w, i32_w]
              rfl
            refine pure_ (i := 4) (N := some 162) (v := .pointer (some ⟨ga, j, none⟩)) (a' := ?_) #[true, true, false, true, true, false, false, false, false, false, false, false, false, false, false, false, false, false, false, false, false, false] rfl rfl (by kernel_rfl) (fun _ _ _ h => h) (Or.inl ⟨by rfl, ?_⟩) ?_ ?_
            · intro w'
              go_simp
              try (with_reducible rfl)
            rotate_left
            · simp only [Act.put, List.setIfInBounds_toArray, List.set_cons_zero, List.set_cons_succ, i64_w, i32_w]
              rfl
            refine pure_ (i := 7) (N := some 165) (v := .int .i64 (j : Int)) (a' := ?_) #[true, true, false, true, true, false, false, true, false, false, false, false, false, false, false, false, false, false, false, false, false, false] rfl rfl (by kernel_rfl) (fun _ _ _ h => h) (Or.inl ⟨by rfl, ?_⟩) ?_ ?_
            · intro w'
              go_simp
              try (with_reducible rfl)
            rotate_left
            · simp only [Act.put, List.setIfInBounds_toArray, List.set_cons_zero, List.set_cons_succ, i64_w, i32_w]
              rfl
            refine pure_ (i := 8) (N := some 166) (v := .pointer (some ⟨gt, j, none⟩)) (a' := ?_) #[true, true, false, true, true, false, false, true, true, false, false, false, false, false, false, false, false, false, false, false, false, false] rfl rfl (by kernel_rfl) (fun _ _ _ h => h) (Or.inl ⟨by rfl, ?_⟩) ?_ ?_
            · intro w'
              go_simp
              try (with_reducible rfl)
            rotate_left
            · simp only [Act.put, List.setIfInBounds_toArray, List.set_cons_zero, List.set_cons_succ, i64_w, i32_w]
              rfl
            refine pure_ (i := 10) (N := some 168) (v := .pointer (some ⟨g, 0, none⟩)) (a' := ?_) #[true, true, false, true, true, false, false, true, true, false, true, false, false, false, false, false, false, false, false, false, false, false] rfl rfl (by kernel_rfl) (fun _ _ _ h => h) (Or.inl ⟨by rfl, ?_⟩) ?_ ?_
            · intro w'
              go_simp
              try (with_reducible rfl)
            rotate_left
            · simp only [Act.put, List.setIfInBounds_toArray, List.set_cons_zero, List.set_cons_succ, i64_w, i32_w]
              rfl
            refine pure_ (i := 11) (N := some 169) (v := .int .i64 (j : Int)) (a' := ?_) #[true, true, false, true, true, false, false, true, true, false, true, true, false, false, false, false, false, false, false, false, false, false] rfl rfl (by kernel_rfl) (fun _ _ _ h => h) (Or.inl ⟨by rfl, ?_⟩) ?_ ?_
            · intro w'
              go_simp
              try (with_reducible rfl)
            rotate_left
            · simp only [Act.put, List.setIfInBounds_toArray, List.set_cons_zero, List.set_cons_succ, i64_w, i32_w]
              rfl
            refine take_ (i := 2) (N := some 160) (v := .int .i64 pj) (a' := ?_) #[true, true, true, true, true, false, false, true, true, false, true, true, false, false, false, false, false, false, false, false, false, false] rfl rfl (by kernel_rfl) (fun _ _ _ h => h) (Or.inl ⟨by rfl, ?_⟩) hHeld ?_ ?_
            · rintro w' ⟨s0, s5, s6⟩
              go_simp
              try (with_reducible rfl)
            rotate_left
            · simp only [Act.put, List.setIfInBounds_toArray, List.set_cons_zero, List.set_cons_succ, i64_w, i32_w]
              rfl
            refine take_ (i := 5) (N := some 163) (v := .int .i64 cj) (a' := ?_) #[true, true, true, true, true, true, false, true, true, false, true, true, false, false, false, false, false, false, false, false, false, false] rfl rfl (by kernel_rfl) (fun _ _ _ h => h) (Or.inl ⟨by rfl, ?_⟩) hHeld ?_ ?_
            · rintro w' ⟨s0, s5, s6⟩
              go_simp
              try (with_reducible rfl)
            rotate_left
            · simp only [Act.put, List.setIfInBounds_toArray, List.set_cons_zero, List.set_cons_succ, i64_w, i32_w]
              rfl
            refine pure_ (i := 6) (N := some 164) (v := .int .i64 (pj + cj)) (a' := ?_) #[true, true, true, true, true, true, true, true, true, false, true, true, false, false, false, false, false, false, false, false, false, false] rfl rfl (by kernel_rfl) (fun _ _ _ h => h) (Or.inl ⟨by rfl, ?_⟩) ?_ ?_
            · intro w'
              go_simp
              try (with_reducible rfl)
            rotate_left
            · simp only [Act.put, List.setIfInBounds_toArray, List.set_cons_zero, List.set_cons_succ, i64_w, i32_w]
              rfl
            refine take_ (i := 9) (N := some 167) (v := .int .i64 tj) (a' := ?_) #[true, true, true, true, true, true, true, true, true, true, true, true, false, false, false, false, false, false, false, false, false, false] rfl rfl (by kernel_rfl) (fun _ _ _ h => h) (Or.inl ⟨by rfl, ?_⟩) hHeld ?_ ?_
            · rintro w' ⟨s0, s5, s6⟩
              go_simp
              try (with_reducible rfl)
            rotate_left
            · simp only [Act.put, List.setIfInBounds_toArray, List.set_cons_zero, List.set_cons_succ, i64_w, i32_w]
              rfl
            refine one_ (i := 12) (N := some 170) #[true, true, true, true, true, true, true, true, true, true, true, true, true, false, false, false, false, false, false, false, false, false] rfl rfl (by kernel_rfl) (by decide) (fun K hK => ?_)
            refine goes_ Try.func13 (by kernel_rfl) rfl #[.pointer (some ⟨g, 0, none⟩), .int .i64 (j : Int)] (by rfl) rfl rfl (by (try simp only [List.map_toArray, List.map_cons, List.map_nil]); rfl) ?_
            refine (HLEN.out _ HA2.out.net).mono ?_
            rintro e w' ⟨rfl, rfl⟩
            refine ⟨_, rfl, ?_⟩
            refine hK.out _ _ hHeld (fun hHeld => ?_)
            clear hK K
            try (refine norm_ (a' := ?_) ?_ ?_; rotate_left; focus (simp only [Act.put, List.setIfInBounds_toArray, List.set_cons_zero, List.set_cons_succ, i64_w, i32_w]; rfl))
            refine pure_ (i := 13) (N := some 171) (v := .int .i64 (pj + cj)) (a' := ?_) #[true, true, true, true, true, true, true, true, true, true, true, true, true, true, false, false, false, false, false, false, false, false] rfl rfl (by kernel_rfl) (fun _ _ _ h => h) (Or.inl ⟨by rfl, ?_⟩) ?_ ?_
            · intro w'
              go_simp
              try (with_reducible rfl)
            rotate_left
            · simp only [Act.put, List.setIfInBounds_toArray, List.set_cons_zero, List.set_cons_succ, i64_w, i32_w]
              rfl
            refine pure_ (i := 14) (N := some 172) (v := .bool false) (a' := ?_) #[true, true, true, true, true, true, true, true, true, true, true, true, true, true, true, false, false, false, false, false, false, false] rfl rfl (by kernel_rfl) (fun _ _ _ h => h) (Or.inl ⟨by rfl, ?_⟩) ?_ ?_
            · intro w'
              go_simp
              try (with_reducible rfl)
            rotate_left
            · simp only [Act.put, List.setIfInBounds_toArray, List.set_cons_zero, List.set_cons_succ, i64_w, i32_w]
              rfl
            refine pure_ (i := 15) (N := some 173) (v := .bool false) (a' := ?_) #[true, true, true, true, true, true, true, true, true, true, true, true, true, true, true, true, false, false, false, false, false, false] rfl rfl (by kernel_rfl) (fun _ _ _ h => h) (Or.inl ⟨by rfl, ?_⟩) ?_ ?_
            · intro w'
              go_simp
              try (with_reducible rfl)
            rotate_left
            · simp only [Act.put, List.setIfInBounds_toArray, List.set_cons_zero, List.set_cons_succ, i64_w, i32_w]
              rfl
            refine pure_ (i := 16) (N := some 174) (v := .pointer (some ⟨g, 0, none⟩)) (a' := ?_) #[true, true, true, true, true, true, true, true, true, true, true, true, true, true, true, true, true, false, false, false, false, false] rfl rfl (by kernel_rfl) (fun _ _ _ h => h) (Or.inl ⟨by rfl, ?_⟩) ?_ ?_
            · intro w'
              go_simp
              try (with_reducible rfl)
            rotate_left
            · simp only [Act.put, List.setIfInBounds_toArray, List.set_cons_zero, List.set_cons_succ, i64_w, i32_w]
              rfl
            refine pure_ (i := 17) (N := some 175) (v := .int .i64 (j : Int)) (a' := ?_) #[true, true, true, true, true, true, true, true, true, true, true, true, true, true, true, true, true, true, false, false, false, false] rfl rfl (by kernel_rfl) (fun _ _ _ h => h) (Or.inl ⟨by rfl, ?_⟩) ?_ ?_
            · intro w'
              go_simp
              try (with_reducible rfl)
            rotate_left
            · simp only [Act.put, List.setIfInBounds_toArray, List.set_cons_zero, List.set_cons_succ, i64_w, i32_w]
              rfl
            refine pure_ (i := 19) (N := some 177) (v := .int .i64 room) (a' := ?_) #[true, true, true, true, true, true, true, true, true, true, true, true, true, true, true, true, true, true, false, true, false, false] rfl rfl (by kernel_rfl) (fun _ _ _ h => h) (Or.inl ⟨by rfl, ?_⟩) ?_ ?_
            · intro w'
              go_simp
              try (with_reducible rfl)
            rotate_left
            · simp only [Act.put, List.setIfInBounds_toArray, List.set_cons_zero, List.set_cons_succ, i64_w, i32_w]
              rfl
            refine one_ (i := 18) (N := some 176) #[true, true, true, true, true, true, true, true, true, true, true, true, true, true, true, true, true, true, true, true, false, false] rfl rfl (by kernel_rfl) (by decide) (fun K hK => ?_)
            refine goes_ Try.func13 (by kernel_rfl) rfl #[.pointer (some ⟨g, 0, none⟩), .int .i64 (j : Int)] (by rfl) rfl rfl (by (try simp only [List.map_toArray, List.map_cons, List.map_nil]); rfl) ?_
            refine (HLEN.out _ HA2.out.net).mono ?_
            rintro e w' ⟨rfl, rfl⟩
            refine ⟨_, rfl, ?_⟩
            refine hK.out _ _ hHeld (fun hHeld => ?_)
            clear hK K
            try (refine norm_ (a' := ?_) ?_ ?_; rotate_left; focus (simp only [Act.put, List.setIfInBounds_toArray, List.set_cons_zero, List.set_cons_succ, i64_w, i32_w]; rfl))
            refine pure_ (i := 20) (N := some 178) (v := .bool false) (a' := ?_) #[true, true, true, true, true, true, true, true, true, true, true, true, true, true, true, true, true, true, true, true, true, false] rfl rfl (by kernel_rfl) (fun _ _ _ h => h) (Or.inl ⟨by rfl, ?_⟩) ?_ ?_
            · intro w'
              go_simp
              try (with_reducible rfl)
            rotate_left
            · simp only [Act.put, List.setIfInBounds_toArray, List.set_cons_zero, List.set_cons_succ, i64_w, i32_w]
              rfl
            refine pure_ (i := 21) (N := some 179) (v := .bool false) (a' := ?_) #[true, true, true, true, true, true, true, true, true, true, true, true, true, true, true, true, true, true, true, true, true, true] rfl rfl (by kernel_rfl) (fun _ _ _ h => h) (Or.inl ⟨by rfl, ?_⟩) ?_ ?_
            · intro w'
              go_simp
              try (with_reducible rfl)
            rotate_left
            · simp only [Act.put, List.setIfInBounds_toArray, List.set_cons_zero, List.set_cons_succ, i64_w, i32_w]
              rfl
            refine done_ (by kernel_rfl) ?_
            clear i1 i2 i3 s1 s2 s3 s4
            have s7 : IntKind.i64.wrap ((i : Int) + 1) = ((i + 1 : Nat) : Int) := by rw [IntWalk.i64_in _ (by have := HI.out; omega)]; rfl
            go_wp2_with fail
            go_roundg (l.length - i)
            case measure => have := HI.out; omega
            case rel => exact ⟨i + 1, O9, n9, k9, D9, c9, t9, p9, by first | rfl | (rw [← s7]; done) | (simp [s7]; done), Lib.hid (by have := HI.out; omega), HA2, HV, HK⟩
          · have qz : (z == 0) = false := beq_eq_false_iff_ne.2 hz0
            have en := put_no HJ.out (fun h => hz0 (hz.symm.trans h))
            have HAX := HA6.out
            rw [en] at HAX
            clear en hz hz0 HA6
            go_upto_region 37 with fail
            clear qz
            have HVX := HV0.out.same
            have HKX : k ≤ i + 1 := Nat.le_succ_of_le KIN.out
            clear HV0 KIN
            obtain ⟨W9, hW9⟩ : ∃ q, W6 = q := ⟨_, rfl⟩
            obtain ⟨O9, hO9⟩ : ∃ q, O6 = q := ⟨_, rfl⟩
            obtain ⟨n9, hn9⟩ : ∃ q, n = q := ⟨_, rfl⟩
            obtain ⟨k9, hk9⟩ : ∃ q, k = q := ⟨_, rfl⟩
            obtain ⟨D9, hD9⟩ : ∃ q, D = q := ⟨_, rfl⟩
            obtain ⟨c9, hc9⟩ : ∃ q, c = q := ⟨_, rfl⟩
            obtain ⟨t9, ht9⟩ : ∃ q, t = q := ⟨_, rfl⟩
            obtain ⟨p9, hp9⟩ : ∃ q, p = q := ⟨_, rfl⟩
            try rw [hW9] at HAX
            try rw [hW9] at HVX
            try rw [hW9] at HKX
            try rw [hW9]
            try rw [hO9] at HAX
            try rw [hO9] at HVX
            try rw [hO9] at HKX
            try rw [hO9]
            try rw [hn9] at HAX
            try rw [hn9] at HVX
            try rw [hn9] at HKX
            try rw [hn9]
            try rw [hk9] at HAX
            try rw [hk9] at HVX
            try rw [hk9] at HKX
            try rw [hk9]
            try rw [hD9] at HAX
            try rw [hD9] at HVX
            try rw [hD9] at HKX
            try rw [hD9]
            try rw [hc9] at HAX
            try rw [hc9] at HVX
            try rw [hc9] at HKX
            try rw [hc9]
            try rw [ht9] at HAX
            try rw [ht9] at HVX
            try rw [ht9] at HKX
            try rw [ht9]
            try rw [hp9] at HAX
            try rw [hp9] at HVX
            try rw [hp9] at HKX
            try rw [hp9]
            have HA := Lib.hid HAX
            have HV := Lib.hid HVX
            have HK := Lib.hid HKX
            clear HAX HVX HKX hW9 hO9 hn9 hk9 hD9 hc9 ht9 hp9
            have hcc := at_two HA.out.ca HJ.out
            have htt := at_two HA.out.ta HJ.out
            have hpp := at_two HA.out.pa HJ.out
            obtain ⟨lw, hlw⟩ : ∃ q : Nat, (n9.way (j : Int)).length = q := ⟨_, rfl⟩
            have hle := HV.out.e j HJ.out
            have hwi := way_in HA.out.ok j
            have hro := HV.out.room
            have hbd := HV.out.bd j HJ.out
            rw [hlw] at hle hwi
            obtain ⟨pj, hpj⟩ : ∃ q, p9 j = q := ⟨_, rfl⟩
            obtain ⟨cj, hcj⟩ : ∃ q, c9 j = q := ⟨_, rfl⟩
            obtain ⟨tj, htj⟩ : ∃ q, t9 j = q := ⟨_, rfl⟩
            rw [hpj] at hpp hle hbd
            rw [hcj] at hcc hle hbd
            rw [htj] at htt hle hbd
            have HLEN : Hid (∀ W, NN W g O9 n9 → Calls Try.prog 13 #[.pointer (some ⟨g, 0, none⟩), .int .i64 (j : Int)] W fun e w' => e = .returned (.int .i64 (lw : Int)) ∧ w' = W) := by
              intro W hW
              have := net_Len g O9 n9 (j : Int) W hW
              rw [len_j HJ.out, hlw] at this
              exact this
            have hi := HI.out
            have s1 : IntKind.i64.wrap (pj + cj) = pj + cj := IntWalk.i64_in _ (by omega)
            have s2 : IntKind.i64.wrap (tj + (lw : Int)) = pj + cj := by rw [IntWalk.i64_in _ (by omega)]; omega
            have s3 : ((lw : Int) > room) = False := eq_false (by omega)
            have s4 : decide ((lw : Int) > room) = false := decide_eq_false (by omega)
            have i1 : ∀ W, (Instr.indexAt 44 (.pointer (some ⟨gp, 0, none⟩)) (.int .i64 (j : Int))).run Try.prog W = .ok (.pointer (some ⟨gp, j, none⟩)) W := idx2 gp j HJ.out
            have i2 : ∀ W, (Instr.indexAt 44 (.pointer (some ⟨ga, 0, none⟩)) (.int .i64 (j : Int))).run Try.prog W = .ok (.pointer (some ⟨ga, j, none⟩)) W := idx2 ga j HJ.out
            have i3 : ∀ W, (Instr.indexAt 44 (.pointer (some ⟨gt, 0, none⟩)) (.int .i64 (j : Int))).run Try.prog W = .ok (.pointer (some ⟨gt, j, none⟩)) W := idx2 gt j HJ.out
            have q1 := hpp.1
            have q2 := hcc.1
            have q3 := htt.1
            clear hcc htt hpp hle hwi hro hbd hpj hcj htj hlw hi
            go_wp2_with fail
            refine start_ (n := 22) (S := fun w' => w'.cell? ⟨gp, j, none⟩ = some (.int .i64 pj) ∧ w'.cell? ⟨ga, j, none⟩ = some (.int .i64 cj) ∧ w'.cell? ⟨gt, j, none⟩ = some (.int .i64 tj)) (ds := []) #[false, false, false, false, false, false, false, false, false, false, false, false, false, false, false, false, false, false, false, false, false, false] (by kernel_rfl) rfl rfl ⟨q1, q2, q3⟩ (fun hHeld => ?_)
            obtain ⟨WD, hWD⟩ : ∃ W, W9.drew = W := ⟨_, rfl⟩
            have HA2 : Hid (OAt w WD g O9 n9 bm k9 ga gt gp D9 c9 t9 p9) := by show OAt _ _ _ _ _ _ _ _ _ _ _ _ _ _; rw [← hWD]; exact HA.out.below (below_drew (Below.refl _ _))
            rw [hWD] at hHeld ⊢
            clear hWD HA q1 q2 q3
            refine pure_ (i := 0) (N := some 158) (v := .int .i64 (j : Int)) (a' := ?_) #[true, false, false, false, false, false, false, false, false, false, false, false, false, false, false, false, false, false, false, false, false, false] rfl rfl (by kernel_rfl) (fun _ _ _ h => h) (Or.inl ⟨by rfl, ?_⟩) ?_ ?_
            · intro w'
              go_simp
              try (with_reducible rfl)
            rotate_left
            · simp only [Act.put, List.setIfInBounds_toArray, List.set_cons_zero, List.set_cons_succ, i64_w, i32_w]
              rfl
            refine pure_ (i := 1) (N := some 159) (v := .pointer (some ⟨gp, j, none⟩)) (a' := ?_) #[true, true, false, false, false, false, false, false, false, false, false, false, false, false, false, false, false, false, false, false, false, false] rfl rfl (by kernel_rfl) (fun _ _ _ h => h) (Or.inl ⟨by rfl, ?_⟩) ?_ ?_
            · intro w'
              go_simp
              try (with_reducible rfl)
            rotate_left
            · simp only [Act.put, List.setIfInBounds_toArray, List.set_cons_zero, List.set_cons_succ, i64_w, i32_w]
              rfl
            refine pure_ (i := 3) (N := some 161) (v := .int .i64 (j : Int)) (a' := ?_) #[true, true, false, true, false, false, false, false, false, false, false, false, false, false, false, false, false, false, false, false, false, false] rfl rfl (by kernel_rfl) (fun _ _ _ h => h) (Or.inl ⟨by rfl, ?_⟩) ?_ ?_
            · intro w'
              go_simp
              try (with_reducible rfl)
            rotate_left
            · simp only [Act.put, List.setIfInBounds_toArray, List.set_cons_zero, List.set_cons_succ, i64_w, i32_w]
              rfl
            refine pure_ (i := 4) (N := some 162) (v := .pointer (some ⟨ga, j, none⟩)) (a' := ?_) #[true, true, false, true, true, false, false, false, false, false, false, false, false, false, false, false, false, false, false, false, false, false] rfl rfl (by kernel_rfl) (fun _ _ _ h => h) (Or.inl ⟨by rfl, ?_⟩) ?_ ?_
            · intro w'
              go_simp
              try (with_reducible rfl)
            rotate_left
            · simp only [Act.put, List.setIfInBounds_toArray, List.set_cons_zero, List.set_cons_succ, i64_w, i32_w]
              rfl
            refine pure_ (i := 7) (N := some 165) (v := .int .i64 (j : Int)) (a' := ?_) #[true, true, false, true, true, false, false, true, false, false, false, false, false, false, false, false, false, false, false, false, false, false] rfl rfl (by kernel_rfl) (fun _ _ _ h => h) (Or.inl ⟨by rfl, ?_⟩) ?_ ?_
            · intro w'
              go_simp
              try (with_reducible rfl)
            rotate_left
            · simp only [Act.put, List.setIfInBounds_toArray, List.set_cons_zero, List.set_cons_succ, i64_w, i32_w]
              rfl
            refine pure_ (i := 8) (N := some 166) (v := .pointer (some ⟨gt, j, none⟩)) (a' := ?_) #[true, true, false, true, true, false, false, true, true, false, false, false, false, false, false, false, false, false, false, false, false, false] rfl rfl (by kernel_rfl) (fun _ _ _ h => h) (Or.inl ⟨by rfl, ?_⟩) ?_ ?_
            · intro w'
              go_simp
              try (with_reducible rfl)
            rotate_left
            · simp only [Act.put, List.setIfInBounds_toArray, List.set_cons_zero, List.set_cons_succ, i64_w, i32_w]
              rfl
            refine pure_ (i := 10) (N := some 168) (v := .pointer (some ⟨g, 0, none⟩)) (a' := ?_) #[true, true, false, true, true, false, false, true, true, false, true, false, false, false, false, false, false, false, false, false, false, false] rfl rfl (by kernel_rfl) (fun _ _ _ h => h) (Or.inl ⟨by rfl, ?_⟩) ?_ ?_
            · intro w'
              go_simp
              try (with_reducible rfl)
            rotate_left
            · simp only [Act.put, List.setIfInBounds_toArray, List.set_cons_zero, List.set_cons_succ, i64_w, i32_w]
              rfl
            refine pure_ (i := 11) (N := some 169) (v := .int .i64 (j : Int)) (a' := ?_) #[true, true, false, true, true, false, false, true, true, false, true, true, false, false, false, false, false, false, false, false, false, false] rfl rfl (by kernel_rfl) (fun _ _ _ h => h) (Or.inl ⟨by rfl, ?_⟩) ?_ ?_
            · intro w'
              go_simp
              try (with_reducible rfl)
            rotate_left
            · simp only [Act.put, List.setIfInBounds_toArray, List.set_cons_zero, List.set_cons_succ, i64_w, i32_w]
              rfl
            refine take_ (i := 2) (N := some 160) (v := .int .i64 pj) (a' := ?_) #[true, true, true, true, true, false, false, true, true, false, true, true, false, false, false, false, false, false, false, false, false, false] rfl rfl (by kernel_rfl) (fun _ _ _ h => h) (Or.inl ⟨by rfl, ?_⟩) hHeld ?_ ?_
            · rintro w' ⟨s0, s5, s6⟩
              go_simp
              try (with_reducible rfl)
            rotate_left
            · simp only [Act.put, List.setIfInBounds_toArray, List.set_cons_zero, List.set_cons_succ, i64_w, i32_w]
              rfl
            refine take_ (i := 5) (N := some 163) (v := .int .i64 cj) (a' := ?_) #[true, true, true, true, true, true, false, true, true, false, true, true, false, false, false, false, false, false, false, false, false, false] rfl rfl (by kernel_rfl) (fun _ _ _ h => h) (Or.inl ⟨by rfl, ?_⟩) hHeld ?_ ?_
            · rintro w' ⟨s0, s5, s6⟩
              go_simp
              try (with_reducible rfl)
            rotate_left
            · simp only [Act.put, List.setIfInBounds_toArray, List.set_cons_zero, List.set_cons_succ, i64_w, i32_w]
              rfl
            refine pure_ (i := 6) (N := some 164) (v := .int .i64 (pj + cj)) (a' := ?_) #[true, true, true, true, true, true, true, true, true, false, true, true, false, false, false, false, false, false, false, false, false, false] rfl rfl (by kernel_rfl) (fun _ _ _ h => h) (Or.inl ⟨by rfl, ?_⟩) ?_ ?_
            · intro w'
              go_simp
              try (with_reducible rfl)
            rotate_left
            · simp only [Act.put, List.setIfInBounds_toArray, List.set_cons_zero, List.set_cons_succ, i64_w, i32_w]
              rfl
            refine take_ (i := 9) (N := some 167) (v := .int .i64 tj) (a' := ?_) #[true, true, true, true, true, true, true, true, true, true, true, true, false, false, false, false, false, false, false, false, false, false] rfl rfl (by kernel_rfl) (fun _ _ _ h => h) (Or.inl ⟨by rfl, ?_⟩) hHeld ?_ ?_
            · rintro w' ⟨s0, s5, s6⟩
              go_simp
              try (with_reducible rfl)
            rotate_left
            · simp only [Act.put, List.setIfInBounds_toArray, List.set_cons_zero, List.set_cons_succ, i64_w, i32_w]
              rfl
            refine one_ (i := 12) (N := some 170) #[true, true, true, true, true, true, true, true, true, true, true, true, true, false, false, false, false, false, false, false, false, false] rfl rfl (by kernel_rfl) (by decide) (fun K hK => ?_)
            refine goes_ Try.func13 (by kernel_rfl) rfl #[.pointer (some ⟨g, 0, none⟩), .int .i64 (j : Int)] (by rfl) rfl rfl (by (try simp only [List.map_toArray, List.map_cons, List.map_nil]); rfl) ?_
            refine (HLEN.out _ HA2.out.net).mono ?_
            rintro e w' ⟨rfl, rfl⟩
            refine ⟨_, rfl, ?_⟩
            refine hK.out _ _ hHeld (fun hHeld => ?_)
            clear hK K
            try (refine norm_ (a' := ?_) ?_ ?_; rotate_left; focus (simp only [Act.put, List.setIfInBounds_toArray, List.set_cons_zero, List.set_cons_succ, i64_w, i32_w]; rfl))
            refine pure_ (i := 13) (N := some 171) (v := .int .i64 (pj + cj)) (a' := ?_) #[true, true, true, true, true, true, true, true, true, true, true, true, true, true, false, false, false, false, false, false, false, false] rfl rfl (by kernel_rfl) (fun _ _ _ h => h) (Or.inl ⟨by rfl, ?_⟩) ?_ ?_
            · intro w'
              go_simp
              try (with_reducible rfl)
            rotate_left
            · simp only [Act.put, List.setIfInBounds_toArray, List.set_cons_zero, List.set_cons_succ, i64_w, i32_w]
              rfl
            refine pure_ (i := 14) (N := some 172) (v := .bool false) (a' := ?_) #[true, true, true, true, true, true, true, true, true, true, true, true, true, true, true, false, false, false, false, false, false, false] rfl rfl (by kernel_rfl) (fun _ _ _ h => h) (Or.inl ⟨by rfl, ?_⟩) ?_ ?_
            · intro w'
              go_simp
              try (with_reducible rfl)
            rotate_left
            · simp only [Act.put, List.setIfInBounds_toArray, List.set_cons_zero, List.set_cons_succ, i64_w, i32_w]
              rfl
            refine pure_ (i := 15) (N := some 173) (v := .bool false) (a' := ?_) #[true, true, true, true, true, true, true, true, true, true, true, true, true, true, true, true, false, false, false, false, false, false] rfl rfl (by kernel_rfl) (fun _ _ _ h => h) (Or.inl ⟨by rfl, ?_⟩) ?_ ?_
            · intro w'
              go_simp
              try (with_reducible rfl)
            rotate_left
            · simp only [Act.put, List.setIfInBounds_toArray, List.set_cons_zero, List.set_cons_succ, i64_w, i32_w]
              rfl
            refine pure_ (i := 16) (N := some 174) (v := .pointer (some ⟨g, 0, none⟩)) (a' := ?_) #[true, true, true, true, true, true, true, true, true, true, true, true, true, true, true, true, true, false, false, false, false, false] rfl rfl (by kernel_rfl) (fun _ _ _ h => h) (Or.inl ⟨by rfl, ?_⟩) ?_ ?_
            · intro w'
              go_simp
              try (with_reducible rfl)
            rotate_left
            · simp only [Act.put, List.setIfInBounds_toArray, List.set_cons_zero, List.set_cons_succ, i64_w, i32_w]
              rfl
            refine pure_ (i := 17) (N := some 175) (v := .int .i64 (j : Int)) (a' := ?_) #[true, true, true, true, true, true, true, true, true, true, true, true, true, true, true, true, true, true, false, false, false, false] rfl rfl (by kernel_rfl) (fun _ _ _ h => h) (Or.inl ⟨by rfl, ?_⟩) ?_ ?_
            · intro w'
              go_simp
              try (with_reducible rfl)
            rotate_left
            · simp only [Act.put, List.setIfInBounds_toArray, List.set_cons_zero, List.set_cons_succ, i64_w, i32_w]
              rfl
            refine pure_ (i := 19) (N := some 177) (v := .int .i64 room) (a' := ?_) #[true, true, true, true, true, true, true, true, true, true, true, true, true, true, true, true, true, true, false, true, false, false] rfl rfl (by kernel_rfl) (fun _ _ _ h => h) (Or.inl ⟨by rfl, ?_⟩) ?_ ?_
            · intro w'
              go_simp
              try (with_reducible rfl)
            rotate_left
            · simp only [Act.put, List.setIfInBounds_toArray, List.set_cons_zero, List.set_cons_succ, i64_w, i32_w]
              rfl
            refine one_ (i := 18) (N := some 176) #[true, true, true, true, true, true, true, true, true, true, true, true, true, true, true, true, true, true, true, true, false, false] rfl rfl (by kernel_rfl) (by decide) (fun K hK => ?_)
            refine goes_ Try.func13 (by kernel_rfl) rfl #[.pointer (some ⟨g, 0, none⟩), .int .i64 (j : Int)] (by rfl) rfl rfl (by (try simp only [List.map_toArray, List.map_cons, List.map_nil]); rfl) ?_
            refine (HLEN.out _ HA2.out.net).mono ?_
            rintro e w' ⟨rfl, rfl⟩
            refine ⟨_, rfl, ?_⟩
            refine hK.out _ _ hHeld (fun hHeld => ?_)
            clear hK K
            try (refine norm_ (a' := ?_) ?_ ?_; rotate_left; focus (simp only [Act.put, List.setIfInBounds_toArray, List.set_cons_zero, List.set_cons_succ, i64_w, i32_w]; rfl))
            refine pure_ (i := 20) (N := some 178) (v := .bool false) (a' := ?_) #[true, true, true, true, true, true, true, true, true, true, true, true, true, true, true, true, true, true, true, true, true, false] rfl rfl (by kernel_rfl) (fun _ _ _ h => h) (Or.inl ⟨by rfl, ?_⟩) ?_ ?_
            · intro w'
              go_simp
              try (with_reducible rfl)
            rotate_left
            · simp only [Act.put, List.setIfInBounds_toArray, List.set_cons_zero, List.set_cons_succ, i64_w, i32_w]
              rfl
            refine pure_ (i := 21) (N := some 179) (v := .bool false) (a' := ?_) #[true, true, true, true, true, true, true, true, true, true, true, true, true, true, true, true, true, true, true, true, true, true] rfl rfl (by kernel_rfl) (fun _ _ _ h => h) (Or.inl ⟨by rfl, ?_⟩) ?_ ?_
            · intro w'
              go_simp
              try (with_reducible rfl)
            rotate_left
            · simp only [Act.put, List.setIfInBounds_toArray, List.set_cons_zero, List.set_cons_succ, i64_w, i32_w]
              rfl
            refine done_ (by kernel_rfl) ?_
            clear i1 i2 i3 s1 s2 s3 s4
            have s7 : IntKind.i64.wrap ((i : Int) + 1) = ((i + 1 : Nat) : Int) := by rw [IntWalk.i64_in _ (by have := HI.out; omega)]; rfl
            go_wp2_with fail
            go_roundg (l.length - i)
            case measure => have := HI.out; omega
            case rel => exact ⟨i + 1, O9, n9, k9, D9, c9, t9, p9, by first | rfl | (rw [← s7]; done) | (simp [s7]; done), Lib.hid (by have := HI.out; omega), HA2, HV, HK⟩
        have q0 : (x.f0 == 0) = false := beq_eq_false_iff_ne.2 h0
        by_cases h1 : x.f0 = 1
        · have q1 : (x.f0 == 1) = true := beq_iff_eq.2 h1
          go_wp2_with fail
          refine (net_Take g O n (j : Int) x.f2 _ HA2.out.net HA2.out.ok).mono ?_
          rintro e W6 ⟨O6, vo, rfl, ro, hn6, E6⟩
          have HA6 := Lib.hid (HA2.out.ext hn6 (NtS.ok_take HA2.out.ok _ _) E6)
          clear hn6 E6 HA2
          by_cases hz0 : n.place (j : Int) x.f2 = 0
          · rw [hz0]
            obtain ⟨hp1, hp2⟩ := place_ok HJ.out hz0
            have et : n.taken (j : Int) x.f2 = (n.way (j : Int)).getD x.f2.toNat [] := by unfold NtS.taken; rw [if_pos hz0]
            have ek : n.take (j : Int) x.f2 = n.setWay (j : Int) ((n.way (j : Int)).eraseIdx x.f2.toNat) := by unfold NtS.take; rw [if_pos hz0]
            obtain ⟨v, hv, hv2, hat⟩ := HV0.out.k j HJ.out _ (getD_mem hp2)
            rw [et, hv] at ro
            have HAY := HA6.out
            rw [ek] at HAY
            have HA7 := Lib.hid HAY
            have HAT := Lib.hid hat
            have HP2 := Lib.hid hp2
            obtain ⟨Ao, co, rfl⟩ := Kd.R_slice ro
            have HRO6 := Lib.hid ro
            clear HAY HA6 et ek hv hv2 hat hp1 hp2 ro hz0
            have ix : ∀ W, (Instr.indexAt 44 (.pointer (some ⟨gt, 0, none⟩)) (.int .i64 (j : Int))).run Try.prog W = .ok (.pointer (some ⟨gt, j, none⟩)) W := idx2 gt j HJ.out
            have hat := at_two HA7.out.ta HJ.out
            have u1 := hat.1
            have u2 := hat.2
            have ew : IntKind.i64.wrap (t j + 1) = t j + 1 := IntWalk.i64_in _ (by have := HV0.out.bd j HJ.out; have := HI.out; omega)
            clear hat
            go_upto_region 25 with fail
            clear ix u1 u2 ew
            have HA8 := Lib.hid (HA7.out.setT HJ.out (t j + 1))
            have HR8 := Lib.hid (Kd.R_set HRO6.out HA7.out.ta (by decide) j (.int .i64 (t j + 1)))
            obtain ⟨W8, hW8⟩ : ∃ W, W6.setCell ⟨gt, j, none⟩ (.int .i64 (t j + 1)) = W := ⟨_, rfl⟩
            rw [hW8] at HA8 HR8
            rw [hW8]
            clear hW8 HRO6 HA7
            have hC8 := (Kd.R_reads' HR8.out).2.2
            obtain ⟨ad8, rfl, hx8⟩ := Kd.at_int hC8 0 (by omega) (by simp)
            have hx9 : W8.cell? ad8 = some (.int .u8 (j : Int)) := by have := hx8; rw [show (0 : Int).toNat = 0 from rfl, add_none] at this; exact this
            have HC8 : Hid ((Kd.int .u8).C W8 (some ad8) 2 [(j : Int), v]) := hC8
            have jj : ((j : Int) != (j : Int)) = false := by simp
            clear hx8 hC8 HR8
            go_wp2_with (first | ((with_reducible refine gate_dst (N := 113) rfl ?_); refine conv_at rfl (.tmp 112) rfl _ _ _ [(j : Int), v] rfl HC8.out ?_; rw [str_kst]) | (at_lookup; refine wpList_lookup_own_int _ rfl _ _ 43 rfl 9 3 .i64 lawS Try.underlying43 Try.underlying3 (zeroI _) bm k D rfl HA8.out.map _ _ rfl (kst_key (j : Int) v) ?_; intro cq hat hwc; have hc1 : cq = 1 := (by have h1 := hat.symm.trans HAT.out; cases h1; rfl); subst hc1; clear hat hwc) | fail)
            clear HC8 hx9 jj
            have HAX := HA8.out
            have HVX := HV0.out.lost HJ.out HP2.out
            have HKX : k ≤ i + 1 := Nat.le_succ_of_le KIN.out
            clear HA8 HV0 KIN HAT HP2
            obtain ⟨W9, hW9⟩ : ∃ q, W8 = q := ⟨_, rfl⟩
            obtain ⟨O9, hO9⟩ : ∃ q, O6 = q := ⟨_, rfl⟩
            obtain ⟨n9, hn9⟩ : ∃ q, n.setWay (j : Int) ((n.way (j : Int)).eraseIdx x.f2.toNat) = q := ⟨_, rfl⟩
            obtain ⟨k9, hk9⟩ : ∃ q, k = q := ⟨_, rfl⟩
            obtain ⟨D9, hD9⟩ : ∃ q, D = q := ⟨_, rfl⟩
            obtain ⟨c9, hc9⟩ : ∃ q, c = q := ⟨_, rfl⟩
            obtain ⟨t9, ht9⟩ : ∃ q, upd t j (t j + 1) = q := ⟨_, rfl⟩
            obtain ⟨p9, hp9⟩ : ∃ q, p = q := ⟨_, rfl⟩
            try rw [hW9] at HAX
            try rw [hW9] at HVX
            try rw [hW9] at HKX
            try rw [hW9]
            try rw [hO9] at HAX
            try rw [hO9] at HVX
            try rw [hO9] at HKX
            try rw [hO9]
            try rw [hn9] at HAX
            try rw [hn9] at HVX
            try rw [hn9] at HKX
            try rw [hn9]
            try rw [hk9] at HAX
            try rw [hk9] at HVX
            try rw [hk9] at HKX
            try rw [hk9]
            try rw [hD9] at HAX
            try rw [hD9] at HVX
            try rw [hD9] at HKX
            try rw [hD9]
            try rw [hc9] at HAX
            try rw [hc9] at HVX
            try rw [hc9] at HKX
            try rw [hc9]
            try rw [ht9] at HAX
            try rw [ht9] at HVX
            try rw [ht9] at HKX
            try rw [ht9]
            try rw [hp9] at HAX
            try rw [hp9] at HVX
            try rw [hp9] at HKX
            try rw [hp9]
            have HA := Lib.hid HAX
            have HV := Lib.hid HVX
            have HK := Lib.hid HKX
            clear HAX HVX HKX hW9 hO9 hn9 hk9 hD9 hc9 ht9 hp9
            have hcc := at_two HA.out.ca HJ.out
            have htt := at_two HA.out.ta HJ.out
            have hpp := at_two HA.out.pa HJ.out
            obtain ⟨lw, hlw⟩ : ∃ q : Nat, (n9.way (j : Int)).length = q := ⟨_, rfl⟩
            have hle := HV.out.e j HJ.out
            have hwi := way_in HA.out.ok j
            have hro := HV.out.room
            have hbd := HV.out.bd j HJ.out
            rw [hlw] at hle hwi
            obtain ⟨pj, hpj⟩ : ∃ q, p9 j = q := ⟨_, rfl⟩
            obtain ⟨cj, hcj⟩ : ∃ q, c9 j = q := ⟨_, rfl⟩
            obtain ⟨tj, htj⟩ : ∃ q, t9 j = q := ⟨_, rfl⟩
            rw [hpj] at hpp hle hbd
            rw [hcj] at hcc hle hbd
            rw [htj] at htt hle hbd
            have HLEN : Hid (∀ W, NN W g O9 n9 → Calls Try.prog 13 #[.pointer (some ⟨g, 0, none⟩), .int .i64 (j : Int)] W fun e w' => e = .returned (.int .i64 (lw : Int)) ∧ w' = W) := by
              intro W hW
              have := net_Len g O9 n9 (j : Int) W hW
              rw [len_j HJ.out, hlw] at this
              exact this
            have hi := HI.out
            have s1 : IntKind.i64.wrap (pj + cj) = pj + cj := IntWalk.i64_in _ (by omega)
            have s2 : IntKind.i64.wrap (tj + (lw : Int)) = pj + cj := by rw [IntWalk.i64_in _ (by omega)]; omega
            have s3 : ((lw : Int) > room) = False := eq_false (by omega)
            have s4 : decide ((lw : Int) > room) = false := decide_eq_false (by omega)
            have i1 : ∀ W, (Instr.indexAt 44 (.pointer (some ⟨gp, 0, none⟩)) (.int .i64 (j : Int))).run Try.prog W = .ok (.pointer (some ⟨gp, j, none⟩)) W := idx2 gp j HJ.out
            have i2 : ∀ W, (Instr.indexAt 44 (.pointer (some ⟨ga, 0, none⟩)) (.int .i64 (j : Int))).run Try.prog W = .ok (.pointer (some ⟨ga, j, none⟩)) W := idx2 ga j HJ.out
            have i3 : ∀ W, (Instr.indexAt 44 (.pointer (some ⟨gt, 0, none⟩)) (.int .i64 (j : Int))).run Try.prog W = .ok (.pointer (some ⟨gt, j, none⟩)) W := idx2 gt j HJ.out
            have q1 := hpp.1
            have q2 := hcc.1
            have q3 := htt.1
            clear hcc htt hpp hle hwi hro hbd hpj hcj htj hlw hi
            go_wp2_with fail
            refine start_ (n := 22) (S := fun w' => w'.cell? ⟨gp, j, none⟩ = some (.int .i64 pj) ∧ w'.cell? ⟨ga, j, none⟩ = some (.int .i64 cj) ∧ w'.cell? ⟨gt, j, none⟩ = some (.int .i64 tj)) (ds := []) #[false, false, false, false, false, false, false, false, false, false, false, false, false, false, false, false, false, false, false, false, false, false] (by kernel_rfl) rfl rfl ⟨q1, q2, q3⟩ (fun hHeld => ?_)
            obtain ⟨WD, hWD⟩ : ∃ W, W9.drew = W := ⟨_, rfl⟩
            have HA2 : Hid (OAt w WD g O9 n9 bm k9 ga gt gp D9 c9 t9 p9) := by show OAt _ _ _ _ _ _ _ _ _ _ _ _ _ _; rw [← hWD]; exact HA.out.below (below_drew (Below.refl _ _))
            rw [hWD] at hHeld ⊢
            clear hWD HA q1 q2 q3
            refine pure_ (i := 0) (N := some 158) (v := .int .i64 (j : Int)) (a' := ?_) #[true, false, false, false, false, false, false, false, false, false, false, false, false, false, false, false, false, false, false, false, false, false] rfl rfl (by kernel_rfl) (fun _ _ _ h => h) (Or.inl ⟨by rfl, ?_⟩) ?_ ?_
            · intro w'
              go_simp
              try (with_reducible rfl)
            rotate_left
            · simp only [Act.put, List.setIfInBounds_toArray, List.set_cons_zero, List.set_cons_succ, i64_w, i32_w]
              rfl
            refine pure_ (i := 1) (N := some 159) (v := .pointer (some ⟨gp, j, none⟩)) (a' := ?_) #[true, true, false, false, false, false, false, false, false, false, false, false, false, false, false, false, false, false, false, false, false, false] rfl rfl (by kernel_rfl) (fun _ _ _ h => h) (Or.inl ⟨by rfl, ?_⟩) ?_ ?_
            · intro w'
              go_simp
              try (with_reducible rfl)
            rotate_left
            · simp only [Act.put, List.setIfInBounds_toArray, List.set_cons_zero, List.set_cons_succ, i64_w, i32_w]
              rfl
            refine pure_ (i := 3) (N := some 161) (v := .int .i64 (j : Int)) (a' := ?_) #[true, true, false, true, false, false, false, false, false, false, false, false, false, false, false, false, false, false, false, false, false, false] rfl rfl (by kernel_rfl) (fun _ _ _ h => h) (Or.inl ⟨by rfl, ?_⟩) ?_ ?_
            · intro w'
              go_simp
              try (with_reducible rfl)
            rotate_left
            · simp only [Act.put, List.setIfInBounds_toArray, List.set_cons_zero, List.set_cons_succ, i64_w, i32_w]
              rfl
            refine pure_ (i := 4) (N := some 162) (v := .pointer (some ⟨ga, j, none⟩)) (a' := ?_) #[true, true, false, true, true, false, false, false, false, false, false, false, false, false, false, false, false, false, false, false, false, false] rfl rfl (by kernel_rfl) (fun _ _ _ h => h) (Or.inl ⟨by rfl, ?_⟩) ?_ ?_
            · intro w'
              go_simp
              try (with_reducible rfl)
            rotate_left
            · simp only [Act.put, List.setIfInBounds_toArray, List.set_cons_zero, List.set_cons_succ, i64_w, i32_w]
              rfl
            refine pure_ (i := 7) (N := some 165) (v := .int .i64 (j : Int)) (a' := ?_) #[true, true, false, true, true, false, false, true, false, false, false, false, false, false, false, false, false, false, false, false, false, false] rfl rfl (by kernel_rfl) (fun _ _ _ h => h) (Or.inl ⟨by rfl, ?_⟩) ?_ ?_
            · intro w'
              go_simp
              try (with_reducible rfl)
            rotate_left
            · simp only [Act.put, List.setIfInBounds_toArray, List.set_cons_zero, List.set_cons_succ, i64_w, i32_w]
              rfl
            refine pure_ (i := 8) (N := some 166) (v := .pointer (some ⟨gt, j, none⟩)) (a' := ?_) #[true, true, false, true, true, false, false, true, true, false, false, false, false, false, false, false, false, false, false, false, false, false] rfl rfl (by kernel_rfl) (fun _ _ _ h => h) (Or.inl ⟨by rfl, ?_⟩) ?_ ?_
            · intro w'
              go_simp
              try (with_reducible rfl)
            rotate_left
            · simp only [Act.put, List.setIfInBounds_toArray, List.set_cons_zero, List.set_cons_succ, i64_w, i32_w]
              rfl
            refine pure_ (i := 10) (N := some 168) (v := .pointer (some ⟨g, 0, none⟩)) (a' := ?_) #[true, true, false, true, true, false, false, true, true, false, true, false, false, false, false, false, false, false, false, false, false, false] rfl rfl (by kernel_rfl) (fun _ _ _ h => h) (Or.inl ⟨by rfl, ?_⟩) ?_ ?_
            · intro w'
              go_simp
              try (with_reducible rfl)
            rotate_left
            · simp only [Act.put, List.setIfInBounds_toArray, List.set_cons_zero, List.set_cons_succ, i64_w, i32_w]
              rfl
            refine pure_ (i := 11) (N := some 169) (v := .int .i64 (j : Int)) (a' := ?_) #[true, true, false, true, true, false, false, true, true, false, true, true, false, false, false, false, false, false, false, false, false, false] rfl rfl (by kernel_rfl) (fun _ _ _ h => h) (Or.inl ⟨by rfl, ?_⟩) ?_ ?_
            · intro w'
              go_simp
              try (with_reducible rfl)
            rotate_left
            · simp only [Act.put, List.setIfInBounds_toArray, List.set_cons_zero, List.set_cons_succ, i64_w, i32_w]
              rfl
            refine take_ (i := 2) (N := some 160) (v := .int .i64 pj) (a' := ?_) #[true, true, true, true, true, false, false, true, true, false, true, true, false, false, false, false, false, false, false, false, false, false] rfl rfl (by kernel_rfl) (fun _ _ _ h => h) (Or.inl ⟨by rfl, ?_⟩) hHeld ?_ ?_
            · rintro w' ⟨s0, s5, s6⟩
              go_simp
              try (with_reducible rfl)
            rotate_left
            · simp only [Act.put, List.setIfInBounds_toArray, List.set_cons_zero, List.set_cons_succ, i64_w, i32_w]
              rfl
            refine take_ (i := 5) (N := some 163) (v := .int .i64 cj) (a' := ?_) #[true, true, true, true, true, true, false, true, true, false, true, true, false, false, false, false, false, false, false, false, false, false] rfl rfl (by kernel_rfl) (fun _ _ _ h => h) (Or.inl ⟨by rfl, ?_⟩) hHeld ?_ ?_
            · rintro w' ⟨s0, s5, s6⟩
              go_simp
              try (with_reducible rfl)
            rotate_left
            · simp only [Act.put, List.setIfInBounds_toArray, List.set_cons_zero, List.set_cons_succ, i64_w, i32_w]
              rfl
            refine pure_ (i := 6) (N := some 164) (v := .int .i64 (pj + cj)) (a' := ?_) #[true, true, true, true, true, true, true, true, true, false, true, true, false, false, false, false, false, false, false, false, false, false] rfl rfl (by kernel_rfl) (fun _ _ _ h => h) (Or.inl ⟨by rfl, ?_⟩) ?_ ?_
            · intro w'
              go_simp
              try (with_reducible rfl)
            rotate_left
            · simp only [Act.put, List.setIfInBounds_toArray, List.set_cons_zero, List.set_cons_succ, i64_w, i32_w]
              rfl
            refine take_ (i := 9) (N := some 167) (v := .int .i64 tj) (a' := ?_) #[true, true, true, true, true, true, true, true, true, true, true, true, false, false, false, false, false, false, false, false, false, false] rfl rfl (by kernel_rfl) (fun _ _ _ h => h) (Or.inl ⟨by rfl, ?_⟩) hHeld ?_ ?_
            · rintro w' ⟨s0, s5, s6⟩
              go_simp
              try (with_reducible rfl)
            rotate_left
            · simp only [Act.put, List.setIfInBounds_toArray, List.set_cons_zero, List.set_cons_succ, i64_w, i32_w]
              rfl
            refine one_ (i := 12) (N := some 170) #[true, true, true, true, true, true, true, true, true, true, true, true, true, false, false, false, false, false, false, false, false, false] rfl rfl (by kernel_rfl) (by decide) (fun K hK => ?_)
            refine goes_ Try.func13 (by kernel_rfl) rfl #[.pointer (some ⟨g, 0, none⟩), .int .i64 (j : Int)] (by rfl) rfl rfl (by (try simp only [List.map_toArray, List.map_cons, List.map_nil]); rfl) ?_
            refine (HLEN.out _ HA2.out.net).mono ?_
            rintro e w' ⟨rfl, rfl⟩
            refine ⟨_, rfl, ?_⟩
            refine hK.out _ _ hHeld (fun hHeld => ?_)
            clear hK K
            try (refine norm_ (a' := ?_) ?_ ?_; rotate_left; focus (simp only [Act.put, List.setIfInBounds_toArray, List.set_cons_zero, List.set_cons_succ, i64_w, i32_w]; rfl))
            refine pure_ (i := 13) (N := some 171) (v := .int .i64 (pj + cj)) (a' := ?_) #[true, true, true, true, true, true, true, true, true, true, true, true, true, true, false, false, false, false, false, false, false, false] rfl rfl (by kernel_rfl) (fun _ _ _ h => h) (Or.inl ⟨by rfl, ?_⟩) ?_ ?_
            · intro w'
              go_simp
              try (with_reducible rfl)
            rotate_left
            · simp only [Act.put, List.setIfInBounds_toArray, List.set_cons_zero, List.set_cons_succ, i64_w, i32_w]
              rfl
            refine pure_ (i := 14) (N := some 172) (v := .bool false) (a' := ?_) #[true, true, true, true, true, true, true, true, true, true, true, true, true, true, true, false, false, false, false, false, false, false] rfl rfl (by kernel_rfl) (fun _ _ _ h => h) (Or.inl ⟨by rfl, ?_⟩) ?_ ?_
            · intro w'
              go_simp
              try (with_reducible rfl)
            rotate_left
            · simp only [Act.put, List.setIfInBounds_toArray, List.set_cons_zero, List.set_cons_succ, i64_w, i32_w]
              rfl
            refine pure_ (i := 15) (N := some 173) (v := .bool false) (a' := ?_) #[true, true, true, true, true, true, true, true, true, true, true, true, true, true, true, true, false, false, false, false, false, false] rfl rfl (by kernel_rfl) (fun _ _ _ h => h) (Or.inl ⟨by rfl, ?_⟩) ?_ ?_
            · intro w'
              go_simp
              try (with_reducible rfl)
            rotate_left
            · simp only [Act.put, List.setIfInBounds_toArray, List.set_cons_zero, List.set_cons_succ, i64_w, i32_w]
              rfl
            refine pure_ (i := 16) (N := some 174) (v := .pointer (some ⟨g, 0, none⟩)) (a' := ?_) #[true, true, true, true, true, true, true, true, true, true, true, true, true, true, true, true, true, false, false, false, false, false] rfl rfl (by kernel_rfl) (fun _ _ _ h => h) (Or.inl ⟨by rfl, ?_⟩) ?_ ?_
            · intro w'
              go_simp
              try (with_reducible rfl)
            rotate_left
            · simp only [Act.put, List.setIfInBounds_toArray, List.set_cons_zero, List.set_cons_succ, i64_w, i32_w]
              rfl
            refine pure_ (i := 17) (N := some 175) (v := .int .i64 (j : Int)) (a' := ?_) #[true, true, true, true, true, true, true, true, true, true, true, true, true, true, true, true, true, true, false, false, false, false] rfl rfl (by kernel_rfl) (fun _ _ _ h => h) (Or.inl ⟨by rfl, ?_⟩) ?_ ?_
            · intro w'
              go_simp
              try (with_reducible rfl)
            rotate_left
            · simp only [Act.put, List.setIfInBounds_toArray, List.set_cons_zero, List.set_cons_succ, i64_w, i32_w]
              rfl
            refine pure_ (i := 19) (N := some 177) (v := .int .i64 room) (a' := ?_) #[true, true, true, true, true, true, true, true, true, true, true, true, true, true, true, true, true, true, false, true, false, false] rfl rfl (by kernel_rfl) (fun _ _ _ h => h) (Or.inl ⟨by rfl, ?_⟩) ?_ ?_
            · intro w'
              go_simp
              try (with_reducible rfl)
            rotate_left
            · simp only [Act.put, List.setIfInBounds_toArray, List.set_cons_zero, List.set_cons_succ, i64_w, i32_w]
              rfl
            refine one_ (i := 18) (N := some 176) #[true, true, true, true, true, true, true, true, true, true, true, true, true, true, true, true, true, true, true, true, false, false] rfl rfl (by kernel_rfl) (by decide) (fun K hK => ?_)
            refine goes_ Try.func13 (by kernel_rfl) rfl #[.pointer (some ⟨g, 0, none⟩), .int .i64 (j : Int)] (by rfl) rfl rfl (by (try simp only [List.map_toArray, List.map_cons, List.map_nil]); rfl) ?_
            refine (HLEN.out _ HA2.out.net).mono ?_
            rintro e w' ⟨rfl, rfl⟩
            refine ⟨_, rfl, ?_⟩
            refine hK.out _ _ hHeld (fun hHeld => ?_)
            clear hK K
            try (refine norm_ (a' := ?_) ?_ ?_; rotate_left; focus (simp only [Act.put, List.setIfInBounds_toArray, List.set_cons_zero, List.set_cons_succ, i64_w, i32_w]; rfl))
            refine pure_ (i := 20) (N := some 178) (v := .bool false) (a' := ?_) #[true, true, true, true, true, true, true, true, true, true, true, true, true, true, true, true, true, true, true, true, true, false] rfl rfl (by kernel_rfl) (fun _ _ _ h => h) (Or.inl ⟨by rfl, ?_⟩) ?_ ?_
            · intro w'
              go_simp
              try (with_reducible rfl)
            rotate_left
            · simp only [Act.put, List.setIfInBounds_toArray, List.set_cons_zero, List.set_cons_succ, i64_w, i32_w]
              rfl
            refine pure_ (i := 21) (N := some 179) (v := .bool false) (a' := ?_) #[true, true, true, true, true, true, true, true, true, true, true, true, true, true, true, true, true, true, true, true, true, true] rfl rfl (by kernel_rfl) (fun _ _ _ h => h) (Or.inl ⟨by rfl, ?_⟩) ?_ ?_
            · intro w'
              go_simp
              try (with_reducible rfl)
            rotate_left
            · simp only [Act.put, List.setIfInBounds_toArray, List.set_cons_zero, List.set_cons_succ, i64_w, i32_w]
              rfl
            refine done_ (by kernel_rfl) ?_
            clear i1 i2 i3 s1 s2 s3 s4
            have s7 : IntKind.i64.wrap ((i : Int) + 1) = ((i + 1 : Nat) : Int) := by rw [IntWalk.i64_in _ (by have := HI.out; omega)]; rfl
            go_wp2_with fail
            go_roundg (l.length - i)
            case measure => have := HI.out; omega
            case rel => exact ⟨i + 1, O9, n9, k9, D9, c9, t9, p9, by first | rfl | (rw [← s7]; done) | (simp [s7]; done), Lib.hid (by have := HI.out; omega), HA2, HV, HK⟩
          · obtain ⟨z, hz⟩ : ∃ z, n.place (j : Int) x.f2 = z := ⟨_, rfl⟩
            rw [hz] at hz0
            rw [hz]
            have qz : (z == 0) = false := beq_eq_false_iff_ne.2 hz0
            have en : n.take (j : Int) x.f2 = n := by unfold NtS.take; rw [if_neg (fun h => hz0 (hz.symm.trans h))]
            have HAX := HA6.out
            rw [en] at HAX
            obtain ⟨Ao, co, mo, rfl, _⟩ := R_slice_n ro
            clear en hz hz0 HA6 ro
            go_upto_region 37 with fail
            clear qz
            have HVX := HV0.out.same
            have HKX : k ≤ i + 1 := Nat.le_succ_of_le KIN.out
            clear HV0 KIN
            obtain ⟨W9, hW9⟩ : ∃ q, W6 = q := ⟨_, rfl⟩
            obtain ⟨O9, hO9⟩ : ∃ q, O6 = q := ⟨_, rfl⟩
            obtain ⟨n9, hn9⟩ : ∃ q, n = q := ⟨_, rfl⟩
            obtain ⟨k9, hk9⟩ : ∃ q, k = q := ⟨_, rfl⟩
            obtain ⟨D9, hD9⟩ : ∃ q, D = q := ⟨_, rfl⟩
            obtain ⟨c9, hc9⟩ : ∃ q, c = q := ⟨_, rfl⟩
            obtain ⟨t9, ht9⟩ : ∃ q, t = q := ⟨_, rfl⟩
            obtain ⟨p9, hp9⟩ : ∃ q, p = q := ⟨_, rfl⟩
            try rw [hW9] at HAX
            try rw [hW9] at HVX
            try rw [hW9] at HKX
            try rw [hW9]
            try rw [hO9] at HAX
            try rw [hO9] at HVX
            try rw [hO9] at HKX
            try rw [hO9]
            try rw [hn9] at HAX
            try rw [hn9] at HVX
            try rw [hn9] at HKX
            try rw [hn9]
            try rw [hk9] at HAX
            try rw [hk9] at HVX
            try rw [hk9] at HKX
            try rw [hk9]
            try rw [hD9] at HAX
            try rw [hD9] at HVX
            try rw [hD9] at HKX
            try rw [hD9]
            try rw [hc9] at HAX
            try rw [hc9] at HVX
            try rw [hc9] at HKX
            try rw [hc9]
            try rw [ht9] at HAX
            try rw [ht9] at HVX
            try rw [ht9] at HKX
            try rw [ht9]
            try rw [hp9] at HAX
            try rw [hp9] at HVX
            try rw [hp9] at HKX
            try rw [hp9]
            have HA := Lib.hid HAX
            have HV := Lib.hid HVX
            have HK := Lib.hid HKX
            clear HAX HVX HKX hW9 hO9 hn9 hk9 hD9 hc9 ht9 hp9
            have hcc := at_two HA.out.ca HJ.out
            have htt := at_two HA.out.ta HJ.out
            have hpp := at_two HA.out.pa HJ.out
            obtain ⟨lw, hlw⟩ : ∃ q : Nat, (n9.way (j : Int)).length = q := ⟨_, rfl⟩
            have hle := HV.out.e j HJ.out
            have hwi := way_in HA.out.ok j
            have hro := HV.out.room
            have hbd := HV.out.bd j HJ.out
            rw [hlw] at hle hwi
            obtain ⟨pj, hpj⟩ : ∃ q, p9 j = q := ⟨_, rfl⟩
            obtain ⟨cj, hcj⟩ : ∃ q, c9 j = q := ⟨_, rfl⟩
            obtain ⟨tj, htj⟩ : ∃ q, t9 j = q := ⟨_, rfl⟩
            rw [hpj] at hpp hle hbd
            rw [hcj] at hcc hle hbd
            rw [htj] at htt hle hbd
            have HLEN : Hid (∀ W, NN W g O9 n9 → Calls Try.prog 13 #[.pointer (some ⟨g, 0, none⟩), .int .i64 (j : Int)] W fun e w' => e = .returned (.int .i64 (lw : Int)) ∧ w' = W) := by
              intro W hW
              have := net_Len g O9 n9 (j : Int) W hW
              rw [len_j HJ.out, hlw] at this
              exact this
            have hi := HI.out
            have s1 : IntKind.i64.wrap (pj + cj) = pj + cj := IntWalk.i64_in _ (by omega)
            have s2 : IntKind.i64.wrap (tj + (lw : Int)) = pj + cj := by rw [IntWalk.i64_in _ (by omega)]; omega
            have s3 : ((lw : Int) > room) = False := eq_false (by omega)
            have s4 : decide ((lw : Int) > room) = false := decide_eq_false (by omega)
            have i1 : ∀ W, (Instr.indexAt 44 (.pointer (some ⟨gp, 0, none⟩)) (.int .i64 (j : Int))).run Try.prog W = .ok (.pointer (some ⟨gp, j, none⟩)) W := idx2 gp j HJ.out
            have i2 : ∀ W, (Instr.indexAt 44 (.pointer (some ⟨ga, 0, none⟩)) (.int .i64 (j : Int))).run Try.prog W = .ok (.pointer (some ⟨ga, j, none⟩)) W := idx2 ga j HJ.out
            have i3 : ∀ W, (Instr.indexAt 44 (.pointer (some ⟨gt, 0, none⟩)) (.int .i64 (j : Int))).run Try.prog W = .ok (.pointer (some ⟨gt, j, none⟩)) W := idx2 gt j HJ.out
            have q1 := hpp.1
            have q2 := hcc.1
            have q3 := htt.1
            clear hcc htt hpp hle hwi hro hbd hpj hcj htj hlw hi
            go_wp2_with fail
            refine start_ (n := 22) (S := fun w' => w'.cell? ⟨gp, j, none⟩ = some (.int .i64 pj) ∧ w'.cell? ⟨ga, j, none⟩ = some (.int .i64 cj) ∧ w'.cell? ⟨gt, j, none⟩ = some (.int .i64 tj)) (ds := []) #[false, false, false, false, false, false, false, false, false, false, false, false, false, false, false, false, false, false, false, false, false, false] (by kernel_rfl) rfl rfl ⟨q1, q2, q3⟩ (fun hHeld => ?_)
            obtain ⟨WD, hWD⟩ : ∃ W, W9.drew = W := ⟨_, rfl⟩
            have HA2 : Hid (OAt w WD g O9 n9 bm k9 ga gt gp D9 c9 t9 p9) := by show OAt _ _ _ _ _ _ _ _ _ _ _ _ _ _; rw [← hWD]; exact HA.out.below (below_drew (Below.refl _ _))
            rw [hWD] at hHeld ⊢
            clear hWD HA q1 q2 q3
            refine pure_ (i := 0) (N := some 158) (v := .int .i64 (j : Int)) (a' := ?_) #[true, false, false, false, false, false, false, false, false, false, false, false, false, false, false, false, false, false, false, false, false, false] rfl rfl (by kernel_rfl) (fun _ _ _ h => h) (Or.inl ⟨by rfl, ?_⟩) ?_ ?_
            · intro w'
              go_simp
              try (with_reducible rfl)
            rotate_left
            · simp only [Act.put, List.setIfInBounds_toArray, List.set_cons_zero, List.set_cons_succ, i64_w, i32_w]
              rfl
            refine pure_ (i := 1) (N := some 159) (v := .pointer (some ⟨gp, j, none⟩)) (a' := ?_) #[true, true, false, false, false, false, false, false, false, false, false, false, false, false, false, false, false, false, false, false, false, false] rfl rfl (by kernel_rfl) (fun _ _ _ h => h) (Or.inl ⟨by rfl, ?_⟩) ?_ ?_
            · intro w'
              go_simp
              try (with_reducible rfl)
            rotate_left
            · simp only [Act.put, List.setIfInBounds_toArray, List.set_cons_zero, List.set_cons_succ, i64_w, i32_w]
              rfl
            refine pure_ (i := 3) (N := some 161) (v := .int .i64 (j : Int)) (a' := ?_) #[true, true, false, true, false, false, false, false, false, false, false, false, false, false, false, false, false, false, false, false, false, false] rfl rfl (by kernel_rfl) (fun _ _ _ h => h) (Or.inl ⟨by rfl, ?_⟩) ?_ ?_
            · intro w'
              go_simp
              try (with_reducible rfl)
            rotate_left
            · simp only [Act.put, List.setIfInBounds_toArray, List.set_cons_zero, List.set_cons_succ, i64_w, i32_w]
              rfl
            refine pure_ (i := 4) (N := some 162) (v := .pointer (some ⟨ga, j, none⟩)) (a' := ?_) #[true, true, false, true, true, false, false, false, false, false, false, false, false, false, false, false, false, false, false, false, false, false] rfl rfl (by kernel_rfl) (fun _ _ _ h => h) (Or.inl ⟨by rfl, ?_⟩) ?_ ?_
            · intro w'
              go_simp
              try (with_reducible rfl)
            rotate_left
            · simp only [Act.put, List.setIfInBounds_toArray, List.set_cons_zero, List.set_cons_succ, i64_w, i32_w]
              rfl
            refine pure_ (i := 7) (N := some 165) (v := .int .i64 (j : Int)) (a' := ?_) #[true, true, false, true, true, false, false, true, false, false, false, false, false, false, false, false, false, false, false, false, false, false] rfl rfl (by kernel_rfl) (fun _ _ _ h => h) (Or.inl ⟨by rfl, ?_⟩) ?_ ?_
            · intro w'
              go_simp
              try (with_reducible rfl)
            rotate_left
            · simp only [Act.put, List.setIfInBounds_toArray, List.set_cons_zero, List.set_cons_succ, i64_w, i32_w]
              rfl
            refine pure_ (i := 8) (N := some 166) (v := .pointer (some ⟨gt, j, none⟩)) (a' := ?_) #[true, true, false, true, true, false, false, true, true, false, false, false, false, false, false, false, false, false, false, false, false, false] rfl rfl (by kernel_rfl) (fun _ _ _ h => h) (Or.inl ⟨by rfl, ?_⟩) ?_ ?_
            · intro w'
              go_simp
              try (with_reducible rfl)
            rotate_left
            · simp only [Act.put, List.setIfInBounds_toArray, List.set_cons_zero, List.set_cons_succ, i64_w, i32_w]
              rfl
            refine pure_ (i := 10) (N := some 168) (v := .pointer (some ⟨g, 0, none⟩)) (a' := ?_) #[true, true, false, true, true, false, false, true, true, false, true, false, false, false, false, false, false, false, false, false, false, false] rfl rfl (by kernel_rfl) (fun _ _ _ h => h) (Or.inl ⟨by rfl, ?_⟩) ?_ ?_
            · intro w'
              go_simp
              try (with_reducible rfl)
            rotate_left
            · simp only [Act.put, List.setIfInBounds_toArray, List.set_cons_zero, List.set_cons_succ, i64_w, i32_w]
              rfl
            refine pure_ (i := 11) (N := some 169) (v := .int .i64 (j : Int)) (a' := ?_) #[true, true, false, true, true, false, false, true, true, false, true, true, false, false, false, false, false, false, false, false, false, false] rfl rfl (by kernel_rfl) (fun _ _ _ h => h) (Or.inl ⟨by rfl, ?_⟩) ?_ ?_
            · intro w'
              go_simp
              try (with_reducible rfl)
            rotate_left
            · simp only [Act.put, List.setIfInBounds_toArray, List.set_cons_zero, List.set_cons_succ, i64_w, i32_w]
              rfl
            refine take_ (i := 2) (N := some 160) (v := .int .i64 pj) (a' := ?_) #[true, true, true, true, true, false, false, true, true, false, true, true, false, false, false, false, false, false, false, false, false, false] rfl rfl (by kernel_rfl) (fun _ _ _ h => h) (Or.inl ⟨by rfl, ?_⟩) hHeld ?_ ?_
            · rintro w' ⟨s0, s5, s6⟩
              go_simp
              try (with_reducible rfl)
            rotate_left
            · simp only [Act.put, List.setIfInBounds_toArray, List.set_cons_zero, List.set_cons_succ, i64_w, i32_w]
              rfl
            refine take_ (i := 5) (N := some 163) (v := .int .i64 cj) (a' := ?_) #[true, true, true, true, true, true, false, true, true, false, true, true, false, false, false, false, false, false, false, false, false, false] rfl rfl (by kernel_rfl) (fun _ _ _ h => h) (Or.inl ⟨by rfl, ?_⟩) hHeld ?_ ?_
            · rintro w' ⟨s0, s5, s6⟩
              go_simp
              try (with_reducible rfl)
            rotate_left
            · simp only [Act.put, List.setIfInBounds_toArray, List.set_cons_zero, List.set_cons_succ, i64_w, i32_w]
              rfl
            refine pure_ (i := 6) (N := some 164) (v := .int .i64 (pj + cj)) (a' := ?_) #[true, true, true, true, true, true, true, true, true, false, true, true, false, false, false, false, false, false, false, false, false, false] rfl rfl (by kernel_rfl) (fun _ _ _ h => h) (Or.inl ⟨by rfl, ?_⟩) ?_ ?_
            · intro w'
              go_simp
              try (with_reducible rfl)
            rotate_left
            · simp only [Act.put, List.setIfInBounds_toArray, List.set_cons_zero, List.set_cons_succ, i64_w, i32_w]
              rfl
            refine take_ (i := 9) (N := some 167) (v := .int .i64 tj) (a' := ?_) #[true, true, true, true, true, true, true, true, true, true, true, true, false, false, false, false, false, false, false, false, false, false] rfl rfl (by kernel_rfl) (fun _ _ _ h => h) (Or.inl ⟨by rfl, ?_⟩) hHeld ?_ ?_
            · rintro w' ⟨s0, s5, s6⟩
              go_simp
              try (with_reducible rfl)
            rotate_left
            · simp only [Act.put, List.setIfInBounds_toArray, List.set_cons_zero, List.set_cons_succ, i64_w, i32_w]
              rfl
            refine one_ (i := 12) (N := some 170) #[true, true, true, true, true, true, true, true, true, true, true, true, true, false, false, false, false, false, false, false, false, false] rfl rfl (by kernel_rfl) (by decide) (fun K hK => ?_)
            refine goes_ Try.func13 (by kernel_rfl) rfl #[.pointer (some ⟨g, 0, none⟩), .int .i64 (j : Int)] (by rfl) rfl rfl (by (try simp only [List.map_toArray, List.map_cons, List.map_nil]); rfl) ?_
            refine (HLEN.out _ HA2.out.net).mono ?_
            rintro e w' ⟨rfl, rfl⟩
            refine ⟨_, rfl, ?_⟩
            refine hK.out _ _ hHeld (fun hHeld => ?_)
            clear hK K
            try (refine norm_ (a' := ?_) ?_ ?_; rotate_left; focus (simp only [Act.put, List.setIfInBounds_toArray, List.set_cons_zero, List.set_cons_succ, i64_w, i32_w]; rfl))
            refine pure_ (i := 13) (N := some 171) (v := .int .i64 (pj + cj)) (a' := ?_) #[true, true, true, true, true, true, true, true, true, true, true, true, true, true, false, false, false, false, false, false, false, false] rfl rfl (by kernel_rfl) (fun _ _ _ h => h) (Or.inl ⟨by rfl, ?_⟩) ?_ ?_
            · intro w'
              go_simp
              try (with_reducible rfl)
            rotate_left
            · simp only [Act.put, List.setIfInBounds_toArray, List.set_cons_zero, List.set_cons_succ, i64_w, i32_w]
              rfl
            refine pure_ (i := 14) (N := some 172) (v := .bool false) (a' := ?_) #[true, true, true, true, true, true, true, true, true, true, true, true, true, true, true, false, false, false, false, false, false, false] rfl rfl (by kernel_rfl) (fun _ _ _ h => h) (Or.inl ⟨by rfl, ?_⟩) ?_ ?_
            · intro w'
              go_simp
              try (with_reducible rfl)
            rotate_left
            · simp only [Act.put, List.setIfInBounds_toArray, List.set_cons_zero, List.set_cons_succ, i64_w, i32_w]
              rfl
            refine pure_ (i := 15) (N := some 173) (v := .bool false) (a' := ?_) #[true, true, true, true, true, true, true, true, true, true, true, true, true, true, true, true, false, false, false, false, false, false] rfl rfl (by kernel_rfl) (fun _ _ _ h => h) (Or.inl ⟨by rfl, ?_⟩) ?_ ?_
            · intro w'
              go_simp
              try (with_reducible rfl)
            rotate_left
            · simp only [Act.put, List.setIfInBounds_toArray, List.set_cons_zero, List.set_cons_succ, i64_w, i32_w]
              rfl
            refine pure_ (i := 16) (N := some 174) (v := .pointer (some ⟨g, 0, none⟩)) (a' := ?_) #[true, true, true, true, true, true, true, true, true, true, true, true, true, true, true, true, true, false, false, false, false, false] rfl rfl (by kernel_rfl) (fun _ _ _ h => h) (Or.inl ⟨by rfl, ?_⟩) ?_ ?_
            · intro w'
              go_simp
              try (with_reducible rfl)
            rotate_left
            · simp only [Act.put, List.setIfInBounds_toArray, List.set_cons_zero, List.set_cons_succ, i64_w, i32_w]
              rfl
            refine pure_ (i := 17) (N := some 175) (v := .int .i64 (j : Int)) (a' := ?_) #[true, true, true, true, true, true, true, true, true, true, true, true, true, true, true, true, true, true, false, false, false, false] rfl rfl (by kernel_rfl) (fun _ _ _ h => h) (Or.inl ⟨by rfl, ?_⟩) ?_ ?_
            · intro w'
              go_simp
              try (with_reducible rfl)
            rotate_left
            · simp only [Act.put, List.setIfInBounds_toArray, List.set_cons_zero, List.set_cons_succ, i64_w, i32_w]
              rfl
            refine pure_ (i := 19) (N := some 177) (v := .int .i64 room) (a' := ?_) #[true, true, true, true, true, true, true, true, true, true, true, true, true, true, true, true, true, true, false, true, false, false] rfl rfl (by kernel_rfl) (fun _ _ _ h => h) (Or.inl ⟨by rfl, ?_⟩) ?_ ?_
            · intro w'
              go_simp
              try (with_reducible rfl)
            rotate_left
            · simp only [Act.put, List.setIfInBounds_toArray, List.set_cons_zero, List.set_cons_succ, i64_w, i32_w]
              rfl
            refine one_ (i := 18) (N := some 176) #[true, true, true, true, true, true, true, true, true, true, true, true, true, true, true, true, true, true, true, true, false, false] rfl rfl (by kernel_rfl) (by decide) (fun K hK => ?_)
            refine goes_ Try.func13 (by kernel_rfl) rfl #[.pointer (some ⟨g, 0, none⟩), .int .i64 (j : Int)] (by rfl) rfl rfl (by (try simp only [List.map_toArray, List.map_cons, List.map_nil]); rfl) ?_
            refine (HLEN.out _ HA2.out.net).mono ?_
            rintro e w' ⟨rfl, rfl⟩
            refine ⟨_, rfl, ?_⟩
            refine hK.out _ _ hHeld (fun hHeld => ?_)
            clear hK K
            try (refine norm_ (a' := ?_) ?_ ?_; rotate_left; focus (simp only [Act.put, List.setIfInBounds_toArray, List.set_cons_zero, List.set_cons_succ, i64_w, i32_w]; rfl))
            refine pure_ (i := 20) (N := some 178) (v := .bool false) (a' := ?_) #[true, true, true, true, true, true, true, true, true, true, true, true, true, true, true, true, true, true, true, true, true, false] rfl rfl (by kernel_rfl) (fun _ _ _ h => h) (Or.inl ⟨by rfl, ?_⟩) ?_ ?_
            · intro w'
              go_simp
              try (with_reducible rfl)
            rotate_left
            · simp only [Act.put, List.setIfInBounds_toArray, List.set_cons_zero, List.set_cons_succ, i64_w, i32_w]
              rfl
            refine pure_ (i := 21) (N := some 179) (v := .bool false) (a' := ?_) #[true, true, true, true, true, true, true, true, true, true, true, true, true, true, true, true, true, true, true, true, true, true] rfl rfl (by kernel_rfl) (fun _ _ _ h => h) (Or.inl ⟨by rfl, ?_⟩) ?_ ?_
            · intro w'
              go_simp
              try (with_reducible rfl)
            rotate_left
            · simp only [Act.put, List.setIfInBounds_toArray, List.set_cons_zero, List.set_cons_succ, i64_w, i32_w]
              rfl
            refine done_ (by kernel_rfl) ?_
            clear i1 i2 i3 s1 s2 s3 s4
            have s7 : IntKind.i64.wrap ((i : Int) + 1) = ((i + 1 : Nat) : Int) := by rw [IntWalk.i64_in _ (by have := HI.out; omega)]; rfl
            go_wp2_with fail
            go_roundg (l.length - i)
            case measure => have := HI.out; omega
            case rel => exact ⟨i + 1, O9, n9, k9, D9, c9, t9, p9, by first | rfl | (rw [← s7]; done) | (simp [s7]; done), Lib.hid (by have := HI.out; omega), HA2, HV, HK⟩
        have q1 : (x.f0 == 1) = false := beq_eq_false_iff_ne.2 h1
        by_cases h2 : x.f0 = 2
        · have q2 : (x.f0 == 2) = true := beq_iff_eq.2 h2
          go_wp2_with fail
          refine (net_Copy g O n (j : Int) x.f2 _ HA2.out.net HA2.out.ok).mono ?_
          rintro e W6 ⟨O6, rfl, hn6, E6⟩
          have HA6 := Lib.hid (HA2.out.ext hn6 (NtS.ok_copy HA2.out.ok _ _) E6)
          clear hn6 E6 HA2
          obtain ⟨z, hz⟩ : ∃ z, (n.copy (j : Int) x.f2).1 = z := ⟨_, rfl⟩
          rw [hz]
          by_cases hz0 : z = 0
          · subst hz0
            obtain ⟨hpl, en⟩ := copy_ok hz
            have HP2 := Lib.hid (place_ok HJ.out hpl).2
            have HAY := HA6.out
            rw [en] at HAY
            have HA7 := Lib.hid HAY
            clear HAY en hz HA6 hpl
            have ix : ∀ W, (Instr.indexAt 44 (.pointer (some ⟨ga, 0, none⟩)) (.int .i64 (j : Int))).run Try.prog W = .ok (.pointer (some ⟨ga, j, none⟩)) W := idx2 ga j HJ.out
            have hat := at_two HA7.out.ca HJ.out
            have u1 := hat.1
            have u2 := hat.2
            have ew : IntKind.i64.wrap (c j + 1) = c j + 1 := IntWalk.i64_in _ (by have := HV0.out.bd j HJ.out; have := HI.out; omega)
            clear hat
            go_upto_region 37 with fail
            clear ix u1 u2 ew
            have HAX := HA7.out.setC HJ.out (c j + 1)
            have HVX := HV0.out.copied HJ.out (getD_mem HP2.out)
            have HKX : k ≤ i + 1 := Nat.le_succ_of_le KIN.out
            clear HA7 HV0 KIN HP2
            obtain ⟨W9, hW9⟩ : ∃ q, W6.setCell ⟨ga, j, none⟩ (.int .i64 (c j + 1)) = q := ⟨_, rfl⟩
            obtain ⟨O9, hO9⟩ : ∃ q, O6 = q := ⟨_, rfl⟩
            obtain ⟨n9, hn9⟩ : ∃ q, n.setWay (j : Int) (n.way (j : Int) ++ [(n.way (j : Int)).getD x.f2.toNat []]) = q := ⟨_, rfl⟩
            obtain ⟨k9, hk9⟩ : ∃ q, k = q := ⟨_, rfl⟩
            obtain ⟨D9, hD9⟩ : ∃ q, D = q := ⟨_, rfl⟩
            obtain ⟨c9, hc9⟩ : ∃ q, upd c j (c j + 1) = q := ⟨_, rfl⟩
            obtain ⟨t9, ht9⟩ : ∃ q, t = q := ⟨_, rfl⟩
            obtain ⟨p9, hp9⟩ : ∃ q, p = q := ⟨_, rfl⟩
            try rw [hW9] at HAX
            try rw [hW9] at HVX
            try rw [hW9] at HKX
            try rw [hW9]
            try rw [hO9] at HAX
            try rw [hO9] at HVX
            try rw [hO9] at HKX
            try rw [hO9]
            try rw [hn9] at HAX
            try rw [hn9] at HVX
            try rw [hn9] at HKX
            try rw [hn9]
            try rw [hk9] at HAX
            try rw [hk9] at HVX
            try rw [hk9] at HKX
            try rw [hk9]
            try rw [hD9] at HAX
            try rw [hD9] at HVX
            try rw [hD9] at HKX
            try rw [hD9]
            try rw [hc9] at HAX
            try rw [hc9] at HVX
            try rw [hc9] at HKX
            try rw [hc9]
            try rw [ht9] at HAX
            try rw [ht9] at HVX
            try rw [ht9] at HKX
            try rw [ht9]
            try rw [hp9] at HAX
            try rw [hp9] at HVX
            try rw [hp9] at HKX
            try rw [hp9]
            have HA := Lib.hid HAX
            have HV := Lib.hid HVX
            have HK := Lib.hid HKX
            clear HAX HVX HKX hW9 hO9 hn9 hk9 hD9 hc9 ht9 hp9
            have hcc := at_two HA.out.ca HJ.out
            have htt := at_two HA.out.ta HJ.out
            have hpp := at_two HA.out.pa HJ.out
            obtain ⟨lw, hlw⟩ : ∃ q : Nat, (n9.way (j : Int)).length = q := ⟨_, rfl⟩
            have hle := HV.out.e j HJ.out
            have hwi := way_in HA.out.ok j
            have hro := HV.out.room
            have hbd := HV.out.bd j HJ.out
            rw [hlw] at hle hwi
            obtain ⟨pj, hpj⟩ : ∃ q, p9 j = q := ⟨_, rfl⟩
            obtain ⟨cj, hcj⟩ : ∃ q, c9 j = q := ⟨_, rfl⟩
            obtain ⟨tj, htj⟩ : ∃ q, t9 j = q := ⟨_, rfl⟩
            rw [hpj] at hpp hle hbd
            rw [hcj] at hcc hle hbd
            rw [htj] at htt hle hbd
            have HLEN : Hid (∀ W, NN W g O9 n9 → Calls Try.prog 13 #[.pointer (some ⟨g, 0, none⟩), .int .i64 (j : Int)] W fun e w' => e = .returned (.int .i64 (lw : Int)) ∧ w' = W) := by
              intro W hW
              have := net_Len g O9 n9 (j : Int) W hW
              rw [len_j HJ.out, hlw] at this
              exact this
            have hi := HI.out
            have s1 : IntKind.i64.wrap (pj + cj) = pj + cj := IntWalk.i64_in _ (by omega)
            have s2 : IntKind.i64.wrap (tj + (lw : Int)) = pj + cj := by rw [IntWalk.i64_in _ (by omega)]; omega
            have s3 : ((lw : Int) > room) = False := eq_false (by omega)
            have s4 : decide ((lw : Int) > room) = false := decide_eq_false (by omega)
            have i1 : ∀ W, (Instr.indexAt 44 (.pointer (some ⟨gp, 0, none⟩)) (.int .i64 (j : Int))).run Try.prog W = .ok (.pointer (some ⟨gp, j, none⟩)) W := idx2 gp j HJ.out
            have i2 : ∀ W, (Instr.indexAt 44 (.pointer (some ⟨ga, 0, none⟩)) (.int .i64 (j : Int))).run Try.prog W = .ok (.pointer (some ⟨ga, j, none⟩)) W := idx2 ga j HJ.out
            have i3 : ∀ W, (Instr.indexAt 44 (.pointer (some ⟨gt, 0, none⟩)) (.int .i64 (j : Int))).run Try.prog W = .ok (.pointer (some ⟨gt, j, none⟩)) W := idx2 gt j HJ.out
            have q1 := hpp.1
            have q2 := hcc.1
            have q3 := htt.1
            clear hcc htt hpp hle hwi hro hbd hpj hcj htj hlw hi
            go_wp2_with fail
            refine start_ (n := 22) (S := fun w' => w'.cell? ⟨gp, j, none⟩ = some (.int .i64 pj) ∧ w'.cell? ⟨ga, j, none⟩ = some (.int .i64 cj) ∧ w'.cell? ⟨gt, j, none⟩ = some (.int .i64 tj)) (ds := []) #[false, false, false, false, false, false, false, false, false, false, false, false, false, false, false, false, false, false, false, false, false, false] (by kernel_rfl) rfl rfl ⟨q1, q2, q3⟩ (fun hHeld => ?_)
            obtain ⟨WD, hWD⟩ : ∃ W, W9.drew = W := ⟨_, rfl⟩
            have HA2 : Hid (OAt w WD g O9 n9 bm k9 ga gt gp D9 c9 t9 p9) := by show OAt _ _ _ _ _ _ _ _ _ _ _ _ _ _; rw [← hWD]; exact HA.out.below (below_drew (Below.refl _ _))
            rw [hWD] at hHeld ⊢
            clear hWD HA q1 q2 q3
            refine pure_ (i := 0) (N := some 158) (v := .int .i64 (j : Int)) (a' := ?_) #[true, false, false, false, false, false, false, false, false, false, false, false, false, false, false, false, false, false, false, false, false, false] rfl rfl (by kernel_rfl) (fun _ _ _ h => h) (Or.inl ⟨by rfl, ?_⟩) ?_ ?_
            · intro w'
              go_simp
              try (with_reducible rfl)
            rotate_left
            · simp only [Act.put, List.setIfInBounds_toArray, List.set_cons_zero, List.set_cons_succ, i64_w, i32_w]
              rfl
            refine pure_ (i := 1) (N := some 159) (v := .pointer (some ⟨gp, j, none⟩)) (a' := ?_) #[true, true, false, false, false, false, false, false, false, false, false, false, false, false, false, false, false, false, false, false, false, false] rfl rfl (by kernel_rfl) (fun _ _ _ h => h) (Or.inl ⟨by rfl, ?_⟩) ?_ ?_
            · intro w'
              go_simp
              try (with_reducible rfl)
            rotate_left
            · simp only [Act.put, List.setIfInBounds_toArray, List.set_cons_zero, List.set_cons_succ, i64_w, i32_w]
              rfl
            refine pure_ (i := 3) (N := some 161) (v := .int .i64 (j : Int)) (a' := ?_) #[true, true, false, true, false, false, false, false, false, false, false, false, false, false, false, false, false, false, false, false, false, false] rfl rfl (by kernel_rfl) (fun _ _ _ h => h) (Or.inl ⟨by rfl, ?_⟩) ?_ ?_
            · intro w'
              go_simp
              try (with_reducible rfl)
            rotate_left
            · simp only [Act.put, List.setIfInBounds_toArray, List.set_cons_zero, List.set_cons_succ, i64_w, i32_w]
              rfl
            refine pure_ (i := 4) (N := some 162) (v := .pointer (some ⟨ga, j, none⟩)) (a' := ?_) #[true, true, false, true, true, false, false, false, false, false, false, false, false, false, false, false, false, false, false, false, false, false] rfl rfl (by kernel_rfl) (fun _ _ _ h => h) (Or.inl ⟨by rfl, ?_⟩) ?_ ?_
            · intro w'
              go_simp
              try (with_reducible rfl)
            rotate_left
            · simp only [Act.put, List.setIfInBounds_toArray, List.set_cons_zero, List.set_cons_succ, i64_w, i32_w]
              rfl
            refine pure_ (i := 7) (N := some 165) (v := .int .i64 (j : Int)) (a' := ?_) #[true, true, false, true, true, false, false, true, false, false, false, false, false, false, false, false, false, false, false, false, false, false] rfl rfl (by kernel_rfl) (fun _ _ _ h => h) (Or.inl ⟨by rfl, ?_⟩) ?_ ?_
            · intro w'
              go_simp
              try (with_reducible rfl)
            rotate_left
            · simp only [Act.put, List.setIfInBounds_toArray, List.set_cons_zero, List.set_cons_succ, i64_w, i32_w]
              rfl
            refine pure_ (i := 8) (N := some 166) (v := .pointer (some ⟨gt, j, none⟩)) (a' := ?_) #[true, true, false, true, true, false, false, true, true, false, false, false, false, false, false, false, false, false, false, false, false, false] rfl rfl (by kernel_rfl) (fun _ _ _ h => h) (Or.inl ⟨by rfl, ?_⟩) ?_ ?_
            · intro w'
              go_simp
              try (with_reducible rfl)
            rotate_left
            · simp only [Act.put, List.setIfInBounds_toArray, List.set_cons_zero, List.set_cons_succ, i64_w, i32_w]
              rfl
            refine pure_ (i := 10) (N := some 168) (v := .pointer (some ⟨g, 0, none⟩)) (a' := ?_) #[true, true, false, true, true, false, false, true, true, false, true, false, false, false, false, false, false, false, false, false, false, false] rfl rfl (by kernel_rfl) (fun _ _ _ h => h) (Or.inl ⟨by rfl, ?_⟩) ?_ ?_
            · intro w'
              go_simp
              try (with_reducible rfl)
            rotate_left
            · simp only [Act.put, List.setIfInBounds_toArray, List.set_cons_zero, List.set_cons_succ, i64_w, i32_w]
              rfl
            refine pure_ (i := 11) (N := some 169) (v := .int .i64 (j : Int)) (a' := ?_) #[true, true, false, true, true, false, false, true, true, false, true, true, false, false, false, false, false, false, false, false, false, false] rfl rfl (by kernel_rfl) (fun _ _ _ h => h) (Or.inl ⟨by rfl, ?_⟩) ?_ ?_
            · intro w'
              go_simp
              try (with_reducible rfl)
            rotate_left
            · simp only [Act.put, List.setIfInBounds_toArray, List.set_cons_zero, List.set_cons_succ, i64_w, i32_w]
              rfl
            refine take_ (i := 2) (N := some 160) (v := .int .i64 pj) (a' := ?_) #[true, true, true, true, true, false, false, true, true, false, true, true, false, false, false, false, false, false, false, false, false, false] rfl rfl (by kernel_rfl) (fun _ _ _ h => h) (Or.inl ⟨by rfl, ?_⟩) hHeld ?_ ?_
            · rintro w' ⟨s0, s5, s6⟩
              go_simp
              try (with_reducible rfl)
            rotate_left
            · simp only [Act.put, List.setIfInBounds_toArray, List.set_cons_zero, List.set_cons_succ, i64_w, i32_w]
              rfl
            refine take_ (i := 5) (N := some 163) (v := .int .i64 cj) (a' := ?_) #[true, true, true, true, true, true, false, true, true, false, true, true, false, false, false, false, false, false, false, false, false, false] rfl rfl (by kernel_rfl) (fun _ _ _ h => h) (Or.inl ⟨by rfl, ?_⟩) hHeld ?_ ?_
            · rintro w' ⟨s0, s5, s6⟩
              go_simp
              try (with_reducible rfl)
            rotate_left
            · simp only [Act.put, List.setIfInBounds_toArray, List.set_cons_zero, List.set_cons_succ, i64_w, i32_w]
              rfl
            refine pure_ (i := 6) (N := some 164) (v := .int .i64 (pj + cj)) (a' := ?_) #[true, true, true, true, true, true, true, true, true, false, true, true, false, false, false, false, false, false, false, false, false, false] rfl rfl (by kernel_rfl) (fun _ _ _ h => h) (Or.inl ⟨by rfl, ?_⟩) ?_ ?_
            · intro w'
              go_simp
              try (with_reducible rfl)
            rotate_left
            · simp only [Act.put, List.setIfInBounds_toArray, List.set_cons_zero, List.set_cons_succ, i64_w, i32_w]
              rfl
            refine take_ (i := 9) (N := some 167) (v := .int .i64 tj) (a' := ?_) #[true, true, true, true, true, true, true, true, true, true, true, true, false, false, false, false, false, false, false, false, false, false] rfl rfl (by kernel_rfl) (fun _ _ _ h => h) (Or.inl ⟨by rfl, ?_⟩) hHeld ?_ ?_
            · rintro w' ⟨s0, s5, s6⟩
              go_simp
              try (with_reducible rfl)
            rotate_left
            · simp only [Act.put, List.setIfInBounds_toArray, List.set_cons_zero, List.set_cons_succ, i64_w, i32_w]
              rfl
            refine one_ (i := 12) (N := some 170) #[true, true, true, true, true, true, true, true, true, true, true, true, true, false, false, false, false, false, false, false, false, false] rfl rfl (by kernel_rfl) (by decide) (fun K hK => ?_)
            refine goes_ Try.func13 (by kernel_rfl) rfl #[.pointer (some ⟨g, 0, none⟩), .int .i64 (j : Int)] (by rfl) rfl rfl (by (try simp only [List.map_toArray, List.map_cons, List.map_nil]); rfl) ?_
            refine (HLEN.out _ HA2.out.net).mono ?_
            rintro e w' ⟨rfl, rfl⟩
            refine ⟨_, rfl, ?_⟩
            refine hK.out _ _ hHeld (fun hHeld => ?_)
            clear hK K
            try (refine norm_ (a' := ?_) ?_ ?_; rotate_left; focus (simp only [Act.put, List.setIfInBounds_toArray, List.set_cons_zero, List.set_cons_succ, i64_w, i32_w]; rfl))
            refine pure_ (i := 13) (N := some 171) (v := .int .i64 (pj + cj)) (a' := ?_) #[true, true, true, true, true, true, true, true, true, true, true, true, true, true, false, false, false, false, false, false, false, false] rfl rfl (by kernel_rfl) (fun _ _ _ h => h) (Or.inl ⟨by rfl, ?_⟩) ?_ ?_
            · intro w'
              go_simp
              try (with_reducible rfl)
            rotate_left
            · simp only [Act.put, List.setIfInBounds_toArray, List.set_cons_zero, List.set_cons_succ, i64_w, i32_w]
              rfl
            refine pure_ (i := 14) (N := some 172) (v := .bool false) (a' := ?_) #[true, true, true, true, true, true, true, true, true, true, true, true, true, true, true, false, false, false, false, false, false, false] rfl rfl (by kernel_rfl) (fun _ _ _ h => h) (Or.inl ⟨by rfl, ?_⟩) ?_ ?_
            · intro w'
              go_simp
              try (with_reducible rfl)
            rotate_left
            · simp only [Act.put, List.setIfInBounds_toArray, List.set_cons_zero, List.set_cons_succ, i64_w, i32_w]
              rfl
            refine pure_ (i := 15) (N := some 173) (v := .bool false) (a' := ?_) #[true, true, true, true, true, true, true, true, true, true, true, true, true, true, true, true, false, false, false, false, false, false] rfl rfl (by kernel_rfl) (fun _ _ _ h => h) (Or.inl ⟨by rfl, ?_⟩) ?_ ?_
            · intro w'
              go_simp
              try (with_reducible rfl)
            rotate_left
            · simp only [Act.put, List.setIfInBounds_toArray, List.set_cons_zero, List.set_cons_succ, i64_w, i32_w]
              rfl
            refine pure_ (i := 16) (N := some 174) (v := .pointer (some ⟨g, 0, none⟩)) (a' := ?_) #[true, true, true, true, true, true, true, true, true, true, true, true, true, true, true, true, true, false, false, false, false, false] rfl rfl (by kernel_rfl) (fun _ _ _ h => h) (Or.inl ⟨by rfl, ?_⟩) ?_ ?_
            · intro w'
              go_simp
              try (with_reducible rfl)
            rotate_left
            · simp only [Act.put, List.setIfInBounds_toArray, List.set_cons_zero, List.set_cons_succ, i64_w, i32_w]
              rfl
            refine pure_ (i := 17) (N := some 175) (v := .int .i64 (j : Int)) (a' := ?_) #[true, true, true, true, true, true, true, true, true, true, true, true, true, true, true, true, true, true, false, false, false, false] rfl rfl (by kernel_rfl) (fun _ _ _ h => h) (Or.inl ⟨by rfl, ?_⟩) ?_ ?_
            · intro w'
              go_simp
              try (with_reducible rfl)
            rotate_left
            · simp only [Act.put, List.setIfInBounds_toArray, List.set_cons_zero, List.set_cons_succ, i64_w, i32_w]
              rfl
            refine pure_ (i := 19) (N := some 177) (v := .int .i64 room) (a' := ?_) #[true, true, true, true, true, true, true, true, true, true, true, true, true, true, true, true, true, true, false, true, false, false] rfl rfl (by kernel_rfl) (fun _ _ _ h => h) (Or.inl ⟨by rfl, ?_⟩) ?_ ?_
            · intro w'
              go_simp
              try (with_reducible rfl)
            rotate_left
            · simp only [Act.put, List.setIfInBounds_toArray, List.set_cons_zero, List.set_cons_succ, i64_w, i32_w]
              rfl
            refine one_ (i := 18) (N := some 176) #[true, true, true, true, true, true, true, true, true, true, true, true, true, true, true, true, true, true, true, true, false, false] rfl rfl (by kernel_rfl) (by decide) (fun K hK => ?_)
            refine goes_ Try.func13 (by kernel_rfl) rfl #[.pointer (some ⟨g, 0, none⟩), .int .i64 (j : Int)] (by rfl) rfl rfl (by (try simp only [List.map_toArray, List.map_cons, List.map_nil]); rfl) ?_
            refine (HLEN.out _ HA2.out.net).mono ?_
            rintro e w' ⟨rfl, rfl⟩
            refine ⟨_, rfl, ?_⟩
            refine hK.out _ _ hHeld (fun hHeld => ?_)
            clear hK K
            try (refine norm_ (a' := ?_) ?_ ?_; rotate_left; focus (simp only [Act.put, List.setIfInBounds_toArray, List.set_cons_zero, List.set_cons_succ, i64_w, i32_w]; rfl))
            refine pure_ (i := 20) (N := some 178) (v := .bool false) (a' := ?_) #[true, true, true, true, true, true, true, true, true, true, true, true, true, true, true, true, true, true, true, true, true, false] rfl rfl (by kernel_rfl) (fun _ _ _ h => h) (Or.inl ⟨by rfl, ?_⟩) ?_ ?_
            · intro w'
              go_simp
              try (with_reducible rfl)
            rotate_left
            · simp only [Act.put, List.setIfInBounds_toArray, List.set_cons_zero, List.set_cons_succ, i64_w, i32_w]
              rfl
            refine pure_ (i := 21) (N := some 179) (v := .bool false) (a' := ?_) #[true, true, true, true, true, true, true, true, true, true, true, true, true, true, true, true, true, true, true, true, true, true] rfl rfl (by kernel_rfl) (fun _ _ _ h => h) (Or.inl ⟨by rfl, ?_⟩) ?_ ?_
            · intro w'
              go_simp
              try (with_reducible rfl)
            rotate_left
            · simp only [Act.put, List.setIfInBounds_toArray, List.set_cons_zero, List.set_cons_succ, i64_w, i32_w]
              rfl
            refine done_ (by kernel_rfl) ?_
            clear i1 i2 i3 s1 s2 s3 s4
            have s7 : IntKind.i64.wrap ((i : Int) + 1) = ((i + 1 : Nat) : Int) := by rw [IntWalk.i64_in _ (by have := HI.out; omega)]; rfl
            go_wp2_with fail
            go_roundg (l.length - i)
            case measure => have := HI.out; omega
            case rel => exact ⟨i + 1, O9, n9, k9, D9, c9, t9, p9, by first | rfl | (rw [← s7]; done) | (simp [s7]; done), Lib.hid (by have := HI.out; omega), HA2, HV, HK⟩
          · have qz : (z == 0) = false := beq_eq_false_iff_ne.2 hz0
            have en := copy_no (fun h => hz0 (hz.symm.trans h))
            have HAX := HA6.out
            rw [en] at HAX
            clear en hz hz0 HA6
            go_upto_region 37 with fail
            clear qz
            have HVX := HV0.out.same
            have HKX : k ≤ i + 1 := Nat.le_succ_of_le KIN.out
            clear HV0 KIN
            obtain ⟨W9, hW9⟩ : ∃ q, W6 = q := ⟨_, rfl⟩
            obtain ⟨O9, hO9⟩ : ∃ q, O6 = q := ⟨_, rfl⟩
            obtain ⟨n9, hn9⟩ : ∃ q, n = q := ⟨_, rfl⟩
            obtain ⟨k9, hk9⟩ : ∃ q, k = q := ⟨_, rfl⟩
            obtain ⟨D9, hD9⟩ : ∃ q, D = q := ⟨_, rfl⟩
            obtain ⟨c9, hc9⟩ : ∃ q, c = q := ⟨_, rfl⟩
            obtain ⟨t9, ht9⟩ : ∃ q, t = q := ⟨_, rfl⟩
            obtain ⟨p9, hp9⟩ : ∃ q, p = q := ⟨_, rfl⟩
            try rw [hW9] at HAX
            try rw [hW9] at HVX
            try rw [hW9] at HKX
            try rw [hW9]
            try rw [hO9] at HAX
            try rw [hO9] at HVX
            try rw [hO9] at HKX
            try rw [hO9]
            try rw [hn9] at HAX
            try rw [hn9] at HVX
            try rw [hn9] at HKX
            try rw [hn9]
            try rw [hk9] at HAX
            try rw [hk9] at HVX
            try rw [hk9] at HKX
            try rw [hk9]
            try rw [hD9] at HAX
            try rw [hD9] at HVX
            try rw [hD9] at HKX
            try rw [hD9]
            try rw [hc9] at HAX
            try rw [hc9] at HVX
            try rw [hc9] at HKX
            try rw [hc9]
            try rw [ht9] at HAX
            try rw [ht9] at HVX
            try rw [ht9] at HKX
            try rw [ht9]
            try rw [hp9] at HAX
            try rw [hp9] at HVX
            try rw [hp9] at HKX
            try rw [hp9]
            have HA := Lib.hid HAX
            have HV := Lib.hid HVX
            have HK := Lib.hid HKX
            clear HAX HVX HKX hW9 hO9 hn9 hk9 hD9 hc9 ht9 hp9
            have hcc := at_two HA.out.ca HJ.out
            have htt := at_two HA.out.ta HJ.out
            have hpp := at_two HA.out.pa HJ.out
            obtain ⟨lw, hlw⟩ : ∃ q : Nat, (n9.way (j : Int)).length = q := ⟨_, rfl⟩
            have hle := HV.out.e j HJ.out
            have hwi := way_in HA.out.ok j
            have hro := HV.out.room
            have hbd := HV.out.bd j HJ.out
            rw [hlw] at hle hwi
            obtain ⟨pj, hpj⟩ : ∃ q, p9 j = q := ⟨_, rfl⟩
            obtain ⟨cj, hcj⟩ : ∃ q, c9 j = q := ⟨_, rfl⟩
            obtain ⟨tj, htj⟩ : ∃ q, t9 j = q := ⟨_, rfl⟩
            rw [hpj] at hpp hle hbd
            rw [hcj] at hcc hle hbd
            rw [htj] at htt hle hbd
            have HLEN : Hid (∀ W, NN W g O9 n9 → Calls Try.prog 13 #[.pointer (some ⟨g, 0, none⟩), .int .i64 (j : Int)] W fun e w' => e = .returned (.int .i64 (lw : Int)) ∧ w' = W) := by
              intro W hW
              have := net_Len g O9 n9 (j : Int) W hW
              rw [len_j HJ.out, hlw] at this
              exact this
            have hi := HI.out
            have s1 : IntKind.i64.wrap (pj + cj) = pj + cj := IntWalk.i64_in _ (by omega)
            have s2 : IntKind.i64.wrap (tj + (lw : Int)) = pj + cj := by rw [IntWalk.i64_in _ (by omega)]; omega
            have s3 : ((lw : Int) > room) = False := eq_false (by omega)
            have s4 : decide ((lw : Int) > room) = false := decide_eq_false (by omega)
            have i1 : ∀ W, (Instr.indexAt 44 (.pointer (some ⟨gp, 0, none⟩)) (.int .i64 (j : Int))).run Try.prog W = .ok (.pointer (some ⟨gp, j, none⟩)) W := idx2 gp j HJ.out
            have i2 : ∀ W, (Instr.indexAt 44 (.pointer (some ⟨ga, 0, none⟩)) (.int .i64 (j : Int))).run Try.prog W = .ok (.pointer (some ⟨ga, j, none⟩)) W := idx2 ga j HJ.out
            have i3 : ∀ W, (Instr.indexAt 44 (.pointer (some ⟨gt, 0, none⟩)) (.int .i64 (j : Int))).run Try.prog W = .ok (.pointer (some ⟨gt, j, none⟩)) W := idx2 gt j HJ.out
            have q1 := hpp.1
            have q2 := hcc.1
            have q3 := htt.1
            clear hcc htt hpp hle hwi hro hbd hpj hcj htj hlw hi
            go_wp2_with fail
            refine start_ (n := 22) (S := fun w' => w'.cell? ⟨gp, j, none⟩ = some (.int .i64 pj) ∧ w'.cell? ⟨ga, j, none⟩ = some (.int .i64 cj) ∧ w'.cell? ⟨gt, j, none⟩ = some (.int .i64 tj)) (ds := []) #[false, false, false, false, false, false, false, false, false, false, false, false, false, false, false, false, false, false, false, false, false, false] (by kernel_rfl) rfl rfl ⟨q1, q2, q3⟩ (fun hHeld => ?_)
            obtain ⟨WD, hWD⟩ : ∃ W, W9.drew = W := ⟨_, rfl⟩
            have HA2 : Hid (OAt w WD g O9 n9 bm k9 ga gt gp D9 c9 t9 p9) := by show OAt _ _ _ _ _ _ _ _ _ _ _ _ _ _; rw [← hWD]; exact HA.out.below (below_drew (Below.refl _ _))
            rw [hWD] at hHeld ⊢
            clear hWD HA q1 q2 q3
            refine pure_ (i := 0) (N := some 158) (v := .int .i64 (j : Int)) (a' := ?_) #[true, false, false, false, false, false, false, false, false, false, false, false, false, false, false, false, false, false, false, false, false, false] rfl rfl (by kernel_rfl) (fun _ _ _ h => h) (Or.inl ⟨by rfl, ?_⟩) ?_ ?_
            · intro w'
              go_simp
              try (with_reducible rfl)
            rotate_left
            · simp only [Act.put, List.setIfInBounds_toArray, List.set_cons_zero, List.set_cons_succ, i64_w, i32_w]
              rfl
            refine pure_ (i := 1) (N := some 159) (v := .pointer (some ⟨gp, j, none⟩)) (a' := ?_) #[true, true, false, false, false, false, false, false, false, false, false, false, false, false, false, false, false, false, false, false, false, false] rfl rfl (by kernel_rfl) (fun _ _ _ h => h) (Or.inl ⟨by rfl, ?_⟩) ?_ ?_
            · intro w'
              go_simp
              try (with_reducible rfl)
            rotate_left
            · simp only [Act.put, List.setIfInBounds_toArray, List.set_cons_zero, List.set_cons_succ, i64_w, i32_w]
              rfl
            refine pure_ (i := 3) (N := some 161) (v := .int .i64 (j : Int)) (a' := ?_) #[true, true, false, true, false, false, false, false, false, false, false, false, false, false, false, false, false, false, false, false, false, false] rfl rfl (by kernel_rfl) (fun _ _ _ h => h) (Or.inl ⟨by rfl, ?_⟩) ?_ ?_
            · intro w'
              go_simp
              try (with_reducible rfl)
            rotate_left
            · simp only [Act.put, List.setIfInBounds_toArray, List.set_cons_zero, List.set_cons_succ, i64_w, i32_w]
              rfl
            refine pure_ (i := 4) (N := some 162) (v := .pointer (some ⟨ga, j, none⟩)) (a' := ?_) #[true, true, false, true, true, false, false, false, false, false, false, false, false, false, false, false, false, false, false, false, false, false] rfl rfl (by kernel_rfl) (fun _ _ _ h => h) (Or.inl ⟨by rfl, ?_⟩) ?_ ?_
            · intro w'
              go_simp
              try (with_reducible rfl)
            rotate_left
            · simp only [Act.put, List.setIfInBounds_toArray, List.set_cons_zero, List.set_cons_succ, i64_w, i32_w]
              rfl
            refine pure_ (i := 7) (N := some 165) (v := .int .i64 (j : Int)) (a' := ?_) #[true, true, false, true, true, false, false, true, false, false, false, false, false, false, false, false, false, false, false, false, false, false] rfl rfl (by kernel_rfl) (fun _ _ _ h => h) (Or.inl ⟨by rfl, ?_⟩) ?_ ?_
            · intro w'
              go_simp
              try (with_reducible rfl)
            rotate_left
            · simp only [Act.put, List.setIfInBounds_toArray, List.set_cons_zero, List.set_cons_succ, i64_w, i32_w]
              rfl
            refine pure_ (i := 8) (N := some 166) (v := .pointer (some ⟨gt, j, none⟩)) (a' := ?_) #[true, true, false, true, true, false, false, true, true, false, false, false, false, false, false, false, false, false, false, false, false, false] rfl rfl (by kernel_rfl) (fun _ _ _ h => h) (Or.inl ⟨by rfl, ?_⟩) ?_ ?_
            · intro w'
              go_simp
              try (with_reducible rfl)
            rotate_left
            · simp only [Act.put, List.setIfInBounds_toArray, List.set_cons_zero, List.set_cons_succ, i64_w, i32_w]
              rfl
            refine pure_ (i := 10) (N := some 168) (v := .pointer (some ⟨g, 0, none⟩)) (a' := ?_) #[true, true, false, true, true, false, false, true, true, false, true, false, false, false, false, false, false, false, false, false, false, false] rfl rfl (by kernel_rfl) (fun _ _ _ h => h) (Or.inl ⟨by rfl, ?_⟩) ?_ ?_
            · intro w'
              go_simp
              try (with_reducible rfl)
            rotate_left
            · simp only [Act.put, List.setIfInBounds_toArray, List.set_cons_zero, List.set_cons_succ, i64_w, i32_w]
              rfl
            refine pure_ (i := 11) (N := some 169) (v := .int .i64 (j : Int)) (a' := ?_) #[true, true, false, true, true, false, false, true, true, false, true, true, false, false, false, false, false, false, false, false, false, false] rfl rfl (by kernel_rfl) (fun _ _ _ h => h) (Or.inl ⟨by rfl, ?_⟩) ?_ ?_
            · intro w'
              go_simp
              try (with_reducible rfl)
            rotate_left
            · simp only [Act.put, List.setIfInBounds_toArray, List.set_cons_zero, List.set_cons_succ, i64_w, i32_w]
              rfl
            refine take_ (i := 2) (N := some 160) (v := .int .i64 pj) (a' := ?_) #[true, true, true, true, true, false, false, true, true, false, true, true, false, false, false, false, false, false, false, false, false, false] rfl rfl (by kernel_rfl) (fun _ _ _ h => h) (Or.inl ⟨by rfl, ?_⟩) hHeld ?_ ?_
            · rintro w' ⟨s0, s5, s6⟩
              go_simp
              try (with_reducible rfl)
            rotate_left
            · simp only [Act.put, List.setIfInBounds_toArray, List.set_cons_zero, List.set_cons_succ, i64_w, i32_w]
              rfl
            refine take_ (i := 5) (N := some 163) (v := .int .i64 cj) (a' := ?_) #[true, true, true, true, true, true, false, true, true, false, true, true, false, false, false, false, false, false, false, false, false, false] rfl rfl (by kernel_rfl) (fun _ _ _ h => h) (Or.inl ⟨by rfl, ?_⟩) hHeld ?_ ?_
            · rintro w' ⟨s0, s5, s6⟩
              go_simp
              try (with_reducible rfl)
            rotate_left
            · simp only [Act.put, List.setIfInBounds_toArray, List.set_cons_zero, List.set_cons_succ, i64_w, i32_w]
              rfl
            refine pure_ (i := 6) (N := some 164) (v := .int .i64 (pj + cj)) (a' := ?_) #[true, true, true, true, true, true, true, true, true, false, true, true, false, false, false, false, false, false, false, false, false, false] rfl rfl (by kernel_rfl) (fun _ _ _ h => h) (Or.inl ⟨by rfl, ?_⟩) ?_ ?_
            · intro w'
              go_simp
              try (with_reducible rfl)
            rotate_left
            · simp only [Act.put, List.setIfInBounds_toArray, List.set_cons_zero, List.set_cons_succ, i64_w, i32_w]
              rfl
            refine take_ (i := 9) (N := some 167) (v := .int .i64 tj) (a' := ?_) #[true, true, true, true, true, true, true, true, true, true, true, true, false, false, false, false, false, false, false, false, false, false] rfl rfl (by kernel_rfl) (fun _ _ _ h => h) (Or.inl ⟨by rfl, ?_⟩) hHeld ?_ ?_
            · rintro w' ⟨s0, s5, s6⟩
              go_simp
              try (with_reducible rfl)
            rotate_left
            · simp only [Act.put, List.setIfInBounds_toArray, List.set_cons_zero, List.set_cons_succ, i64_w, i32_w]
              rfl
            refine one_ (i := 12) (N := some 170) #[true, true, true, true, true, true, true, true, true, true, true, true, true, false, false, false, false, false, false, false, false, false] rfl rfl (by kernel_rfl) (by decide) (fun K hK => ?_)
            refine goes_ Try.func13 (by kernel_rfl) rfl #[.pointer (some ⟨g, 0, none⟩), .int .i64 (j : Int)] (by rfl) rfl rfl (by (try simp only [List.map_toArray, List.map_cons, List.map_nil]); rfl) ?_
            refine (HLEN.out _ HA2.out.net).mono ?_
            rintro e w' ⟨rfl, rfl⟩
            refine ⟨_, rfl, ?_⟩
            refine hK.out _ _ hHeld (fun hHeld => ?_)
            clear hK K
            try (refine norm_ (a' := ?_) ?_ ?_; rotate_left; focus (simp only [Act.put, List.setIfInBounds_toArray, List.set_cons_zero, List.set_cons_succ, i64_w, i32_w]; rfl))
            refine pure_ (i := 13) (N := some 171) (v := .int .i64 (pj + cj)) (a' := ?_) #[true, true, true, true, true, true, true, true, true, true, true, true, true, true, false, false, false, false, false, false, false, false] rfl rfl (by kernel_rfl) (fun _ _ _ h => h) (Or.inl ⟨by rfl, ?_⟩) ?_ ?_
            · intro w'
              go_simp
              try (with_reducible rfl)
            rotate_left
            · simp only [Act.put, List.setIfInBounds_toArray, List.set_cons_zero, List.set_cons_succ, i64_w, i32_w]
              rfl
            refine pure_ (i := 14) (N := some 172) (v := .bool false) (a' := ?_) #[true, true, true, true, true, true, true, true, true, true, true, true, true, true, true, false, false, false, false, false, false, false] rfl rfl (by kernel_rfl) (fun _ _ _ h => h) (Or.inl ⟨by rfl, ?_⟩) ?_ ?_
            · intro w'
              go_simp
              try (with_reducible rfl)
            rotate_left
            · simp only [Act.put, List.setIfInBounds_toArray, List.set_cons_zero, List.set_cons_succ, i64_w, i32_w]
              rfl
            refine pure_ (i := 15) (N := some 173) (v := .bool false) (a' := ?_) #[true, true, true, true, true, true, true, true, true, true, true, true, true, true, true, true, false, false, false, false, false, false] rfl rfl (by kernel_rfl) (fun _ _ _ h => h) (Or.inl ⟨by rfl, ?_⟩) ?_ ?_
            · intro w'
              go_simp
              try (with_reducible rfl)
            rotate_left
            · simp only [Act.put, List.setIfInBounds_toArray, List.set_cons_zero, List.set_cons_succ, i64_w, i32_w]
              rfl
            refine pure_ (i := 16) (N := some 174) (v := .pointer (some ⟨g, 0, none⟩)) (a' := ?_) #[true, true, true, true, true, true, true, true, true, true, true, true, true, true, true, true, true, false, false, false, false, false] rfl rfl (by kernel_rfl) (fun _ _ _ h => h) (Or.inl ⟨by rfl, ?_⟩) ?_ ?_
            · intro w'
              go_simp
              try (with_reducible rfl)
            rotate_left
            · simp only [Act.put, List.setIfInBounds_toArray, List.set_cons_zero, List.set_cons_succ, i64_w, i32_w]
              rfl
            refine pure_ (i := 17) (N := some 175) (v := .int .i64 (j : Int)) (a' := ?_) #[true, true, true, true, true, true, true, true, true, true, true, true, true, true, true, true, true, true, false, false, false, false] rfl rfl (by kernel_rfl) (fun _ _ _ h => h) (Or.inl ⟨by rfl, ?_⟩) ?_ ?_
            · intro w'
              go_simp
              try (with_reducible rfl)
            rotate_left
            · simp only [Act.put, List.setIfInBounds_toArray, List.set_cons_zero, List.set_cons_succ, i64_w, i32_w]
              rfl
            refine pure_ (i := 19) (N := some 177) (v := .int .i64 room) (a' := ?_) #[true, true, true, true, true, true, true, true, true, true, true, true, true, true, true, true, true, true, false, true, false, false] rfl rfl (by kernel_rfl) (fun _ _ _ h => h) (Or.inl ⟨by rfl, ?_⟩) ?_ ?_
            · intro w'
              go_simp
              try (with_reducible rfl)
            rotate_left
            · simp only [Act.put, List.setIfInBounds_toArray, List.set_cons_zero, List.set_cons_succ, i64_w, i32_w]
              rfl
            refine one_ (i := 18) (N := some 176) #[true, true, true, true, true, true, true, true, true, true, true, true, true, true, true, true, true, true, true, true, false, false] rfl rfl (by kernel_rfl) (by decide) (fun K hK => ?_)
            refine goes_ Try.func13 (by kernel_rfl) rfl #[.pointer (some ⟨g, 0, none⟩), .int .i64 (j : Int)] (by rfl) rfl rfl (by (try simp only [List.map_toArray, List.map_cons, List.map_nil]); rfl) ?_
            refine (HLEN.out _ HA2.out.net).mono ?_
            rintro e w' ⟨rfl, rfl⟩
            refine ⟨_, rfl, ?_⟩
            refine hK.out _ _ hHeld (fun hHeld => ?_)
            clear hK K
            try (refine norm_ (a' := ?_) ?_ ?_; rotate_left; focus (simp only [Act.put, List.setIfInBounds_toArray, List.set_cons_zero, List.set_cons_succ, i64_w, i32_w]; rfl))
            refine pure_ (i := 20) (N := some 178) (v := .bool false) (a' := ?_) #[true, true, true, true, true, true, true, true, true, true, true, true, true, true, true, true, true, true, true, true, true, false] rfl rfl (by kernel_rfl) (fun _ _ _ h => h) (Or.inl ⟨by rfl, ?_⟩) ?_ ?_
            · intro w'
              go_simp
              try (with_reducible rfl)
            rotate_left
            · simp only [Act.put, List.setIfInBounds_toArray, List.set_cons_zero, List.set_cons_succ, i64_w, i32_w]
              rfl
            refine pure_ (i := 21) (N := some 179) (v := .bool false) (a' := ?_) #[true, true, true, true, true, true, true, true, true, true, true, true, true, true, true, true, true, true, true, true, true, true] rfl rfl (by kernel_rfl) (fun _ _ _ h => h) (Or.inl ⟨by rfl, ?_⟩) ?_ ?_
            · intro w'
              go_simp
              try (with_reducible rfl)
            rotate_left
            · simp only [Act.put, List.setIfInBounds_toArray, List.set_cons_zero, List.set_cons_succ, i64_w, i32_w]
              rfl
            refine done_ (by kernel_rfl) ?_
            clear i1 i2 i3 s1 s2 s3 s4
            have s7 : IntKind.i64.wrap ((i : Int) + 1) = ((i + 1 : Nat) : Int) := by rw [IntWalk.i64_in _ (by have := HI.out; omega)]; rfl
            go_wp2_with fail
            go_roundg (l.length - i)
            case measure => have := HI.out; omega
            case rel => exact ⟨i + 1, O9, n9, k9, D9, c9, t9, p9, by first | rfl | (rw [← s7]; done) | (simp [s7]; done), Lib.hid (by have := HI.out; omega), HA2, HV, HK⟩
        have q2 : (x.f0 == 2) = false := beq_eq_false_iff_ne.2 h2
        by_cases h3 : x.f0 = 3
        · have q3 : (x.f0 == 3) = true := beq_iff_eq.2 h3
          go_wp2_with fail
          refine (net_Lose g O n (j : Int) x.f2 _ HA2.out.net HA2.out.ok).mono ?_
          rintro e W6 ⟨O6, rfl, hn6, E6⟩
          have HA6 := Lib.hid (HA2.out.ext hn6 (NtS.ok_take HA2.out.ok _ _) E6)
          clear hn6 E6 HA2
          by_cases hz0 : n.place (j : Int) x.f2 = 0
          · rw [hz0]
            have HP2 := Lib.hid (place_ok HJ.out hz0).2
            have ek : n.take (j : Int) x.f2 = n.setWay (j : Int) ((n.way (j : Int)).eraseIdx x.f2.toNat) := by unfold NtS.take; rw [if_pos hz0]
            have HAY := HA6.out
            rw [ek] at HAY
            have HA7 := Lib.hid HAY
            clear HAY HA6 ek hz0
            have ix : ∀ W, (Instr.indexAt 44 (.pointer (some ⟨gt, 0, none⟩)) (.int .i64 (j : Int))).run Try.prog W = .ok (.pointer (some ⟨gt, j, none⟩)) W := idx2 gt j HJ.out
            have hat := at_two HA7.out.ta HJ.out
            have u1 := hat.1
            have u2 := hat.2
            have ew : IntKind.i64.wrap (t j + 1) = t j + 1 := IntWalk.i64_in _ (by have := HV0.out.bd j HJ.out; have := HI.out; omega)
            clear hat
            go_upto_region 37 with fail
            clear ix u1 u2 ew
            have HAX := HA7.out.setT HJ.out (t j + 1)
            have HVX := HV0.out.lost HJ.out HP2.out
            have HKX : k ≤ i + 1 := Nat.le_succ_of_le KIN.out
            clear HA7 HV0 KIN HP2
            obtain ⟨W9, hW9⟩ : ∃ q, W6.setCell ⟨gt, j, none⟩ (.int .i64 (t j + 1)) = q := ⟨_, rfl⟩
            obtain ⟨O9, hO9⟩ : ∃ q, O6 = q := ⟨_, rfl⟩
            obtain ⟨n9, hn9⟩ : ∃ q, n.setWay (j : Int) ((n.way (j : Int)).eraseIdx x.f2.toNat) = q := ⟨_, rfl⟩
            obtain ⟨k9, hk9⟩ : ∃ q, k = q := ⟨_, rfl⟩
            obtain ⟨D9, hD9⟩ : ∃ q, D = q := ⟨_, rfl⟩
            obtain ⟨c9, hc9⟩ : ∃ q, c = q := ⟨_, rfl⟩
            obtain ⟨t9, ht9⟩ : ∃ q, upd t j (t j + 1) = q := ⟨_, rfl⟩
            obtain ⟨p9, hp9⟩ : ∃ q, p = q := ⟨_, rfl⟩
            try rw [hW9] at HAX
            try rw [hW9] at HVX
            try rw [hW9] at HKX
            try rw [hW9]
            try rw [hO9] at HAX
            try rw [hO9] at HVX
            try rw [hO9] at HKX
            try rw [hO9]
            try rw [hn9] at HAX
            try rw [hn9] at HVX
            try rw [hn9] at HKX
            try rw [hn9]
            try rw [hk9] at HAX
            try rw [hk9] at HVX
            try rw [hk9] at HKX
            try rw [hk9]
            try rw [hD9] at HAX
            try rw [hD9] at HVX
            try rw [hD9] at HKX
            try rw [hD9]
            try rw [hc9] at HAX
            try rw [hc9] at HVX
            try rw [hc9] at HKX
            try rw [hc9]
            try rw [ht9] at HAX
            try rw [ht9] at HVX
            try rw [ht9] at HKX
            try rw [ht9]
            try rw [hp9] at HAX
            try rw [hp9] at HVX
            try rw [hp9] at HKX
            try rw [hp9]
            have HA := Lib.hid HAX
            have HV := Lib.hid HVX
            have HK := Lib.hid HKX
            clear HAX HVX HKX hW9 hO9 hn9 hk9 hD9 hc9 ht9 hp9
            have hcc := at_two HA.out.ca HJ.out
            have htt := at_two HA.out.ta HJ.out
            have hpp := at_two HA.out.pa HJ.out
            obtain ⟨lw, hlw⟩ : ∃ q : Nat, (n9.way (j : Int)).length = q := ⟨_, rfl⟩
            have hle := HV.out.e j HJ.out
            have hwi := way_in HA.out.ok j
            have hro := HV.out.room
            have hbd := HV.out.bd j HJ.out
            rw [hlw] at hle hwi
            obtain ⟨pj, hpj⟩ : ∃ q, p9 j = q := ⟨_, rfl⟩
            obtain ⟨cj, hcj⟩ : ∃ q, c9 j = q := ⟨_, rfl⟩
            obtain ⟨tj, htj⟩ : ∃ q, t9 j = q := ⟨_, rfl⟩
            rw [hpj] at hpp hle hbd
            rw [hcj] at hcc hle hbd
            rw [htj] at htt hle hbd
            have HLEN : Hid (∀ W, NN W g O9 n9 → Calls Try.prog 13 #[.pointer (some ⟨g, 0, none⟩), .int .i64 (j : Int)] W fun e w' => e = .returned (.int .i64 (lw : Int)) ∧ w' = W) := by
              intro W hW
              have := net_Len g O9 n9 (j : Int) W hW
              rw [len_j HJ.out, hlw] at this
              exact this
            have hi := HI.out
            have s1 : IntKind.i64.wrap (pj + cj) = pj + cj := IntWalk.i64_in _ (by omega)
            have s2 : IntKind.i64.wrap (tj + (lw : Int)) = pj + cj := by rw [IntWalk.i64_in _ (by omega)]; omega
            have s3 : ((lw : Int) > room) = False := eq_false (by omega)
            have s4 : decide ((lw : Int) > room) = false := decide_eq_false (by omega)
            have i1 : ∀ W, (Instr.indexAt 44 (.pointer (some ⟨gp, 0, none⟩)) (.int .i64 (j : Int))).run Try.prog W = .ok (.pointer (some ⟨gp, j, none⟩)) W := idx2 gp j HJ.out
            have i2 : ∀ W, (Instr.indexAt 44 (.pointer (some ⟨ga, 0, none⟩)) (.int .i64 (j : Int))).run Try.prog W = .ok (.pointer (some ⟨ga, j, none⟩)) W := idx2 ga j HJ.out
            have i3 : ∀ W, (Instr.indexAt 44 (.pointer (some ⟨gt, 0, none⟩)) (.int .i64 (j : Int))).run Try.prog W = .ok (.pointer (some ⟨gt, j, none⟩)) W := idx2 gt j HJ.out
            have q1 := hpp.1
            have q2 := hcc.1
            have q3 := htt.1
            clear hcc htt hpp hle hwi hro hbd hpj hcj htj hlw hi
            go_wp2_with fail
            refine start_ (n := 22) (S := fun w' => w'.cell? ⟨gp, j, none⟩ = some (.int .i64 pj) ∧ w'.cell? ⟨ga, j, none⟩ = some (.int .i64 cj) ∧ w'.cell? ⟨gt, j, none⟩ = some (.int .i64 tj)) (ds := []) #[false, false, false, false, false, false, false, false, false, false, false, false, false, false, false, false, false, false, false, false, false, false] (by kernel_rfl) rfl rfl ⟨q1, q2, q3⟩ (fun hHeld => ?_)
            obtain ⟨WD, hWD⟩ : ∃ W, W9.drew = W := ⟨_, rfl⟩
            have HA2 : Hid (OAt w WD g O9 n9 bm k9 ga gt gp D9 c9 t9 p9) := by show OAt _ _ _ _ _ _ _ _ _ _ _ _ _ _; rw [← hWD]; exact HA.out.below (below_drew (Below.refl _ _))
            rw [hWD] at hHeld ⊢
            clear hWD HA q1 q2 q3
            refine pure_ (i := 0) (N := some 158) (v := .int .i64 (j : Int)) (a' := ?_) #[true, false, false, false, false, false, false, false, false, false, false, false, false, false, false, false, false, false, false, false, false, false] rfl rfl (by kernel_rfl) (fun _ _ _ h => h) (Or.inl ⟨by rfl, ?_⟩) ?_ ?_
            · intro w'
              go_simp
              try (with_reducible rfl)
            rotate_left
            · simp only [Act.put, List.setIfInBounds_toArray, List.set_cons_zero, List.set_cons_succ, i64_w, i32_w]
              rfl
            refine pure_ (i := 1) (N := some 159) (v := .pointer (some ⟨gp, j, none⟩)) (a' := ?_) #[true, true, false, false, false, false, false, false, false, false, false, false, false, false, false, false, false, false, false, false, false, false] rfl rfl (by kernel_rfl) (fun _ _ _ h => h) (Or.inl ⟨by rfl, ?_⟩) ?_ ?_
            · intro w'
              go_simp
              try (with_reducible rfl)
            rotate_left
            · simp only [Act.put, List.setIfInBounds_toArray, List.set_cons_zero, List.set_cons_succ, i64_w, i32_w]
              rfl
            refine pure_ (i := 3) (N := some 161) (v := .int .i64 (j : Int)) (a' := ?_) #[true, true, false, true, false, false, false, false, false, false, false, false, false, false, false, false, false, false, false, false, false, false] rfl rfl (by kernel_rfl) (fun _ _ _ h => h) (Or.inl ⟨by rfl, ?_⟩) ?_ ?_
            · intro w'
              go_simp
              try (with_reducible rfl)
            rotate_left
            · simp only [Act.put, List.setIfInBounds_toArray, List.set_cons_zero, List.set_cons_succ, i64_w, i32_w]
              rfl
            refine pure_ (i := 4) (N := some 162) (v := .pointer (some ⟨ga, j, none⟩)) (a' := ?_) #[true, true, false, true, true, false, false, false, false, false, false, false, false, false, false, false, false, false, false, false, false, false] rfl rfl (by kernel_rfl) (fun _ _ _ h => h) (Or.inl ⟨by rfl, ?_⟩) ?_ ?_
            · intro w'
              go_simp
              try (with_reducible rfl)
            rotate_left
            · simp only [Act.put, List.setIfInBounds_toArray, List.set_cons_zero, List.set_cons_succ, i64_w, i32_w]
              rfl
            refine pure_ (i := 7) (N := some 165) (v := .int .i64 (j : Int)) (a' := ?_) #[true, true, false, true, true, false, false, true, false, false, false, false, false, false, false, false, false, false, false, false, false, false] rfl rfl (by kernel_rfl) (fun _ _ _ h => h) (Or.inl ⟨by rfl, ?_⟩) ?_ ?_
            · intro w'
              go_simp
              try (with_reducible rfl)
            rotate_left
            · simp only [Act.put, List.setIfInBounds_toArray, List.set_cons_zero, List.set_cons_succ, i64_w, i32_w]
              rfl
            refine pure_ (i := 8) (N := some 166) (v := .pointer (some ⟨gt, j, none⟩)) (a' := ?_) #[true, true, false, true, true, false, false, true, true, false, false, false, false, false, false, false, false, false, false, false, false, false] rfl rfl (by kernel_rfl) (fun _ _ _ h => h) (Or.inl ⟨by rfl, ?_⟩) ?_ ?_
            · intro w'
              go_simp
              try (with_reducible rfl)
            rotate_left
            · simp only [Act.put, List.setIfInBounds_toArray, List.set_cons_zero, List.set_cons_succ, i64_w, i32_w]
              rfl
            refine pure_ (i := 10) (N := some 168) (v := .pointer (some ⟨g, 0, none⟩)) (a' := ?_) #[true, true, false, true, true, false, false, true, true, false, true, false, false, false, false, false, false, false, false, false, false, false] rfl rfl (by kernel_rfl) (fun _ _ _ h => h) (Or.inl ⟨by rfl, ?_⟩) ?_ ?_
            · intro w'
              go_simp
              try (with_reducible rfl)
            rotate_left
            · simp only [Act.put, List.setIfInBounds_toArray, List.set_cons_zero, List.set_cons_succ, i64_w, i32_w]
              rfl
            refine pure_ (i := 11) (N := some 169) (v := .int .i64 (j : Int)) (a' := ?_) #[true, true, false, true, true, false, false, true, true, false, true, true, false, false, false, false, false, false, false, false, false, false] rfl rfl (by kernel_rfl) (fun _ _ _ h => h) (Or.inl ⟨by rfl, ?_⟩) ?_ ?_
            · intro w'
              go_simp
              try (with_reducible rfl)
            rotate_left
            · simp only [Act.put, List.setIfInBounds_toArray, List.set_cons_zero, List.set_cons_succ, i64_w, i32_w]
              rfl
            refine take_ (i := 2) (N := some 160) (v := .int .i64 pj) (a' := ?_) #[true, true, true, true, true, false, false, true, true, false, true, true, false, false, false, false, false, false, false, false, false, false] rfl rfl (by kernel_rfl) (fun _ _ _ h => h) (Or.inl ⟨by rfl, ?_⟩) hHeld ?_ ?_
            · rintro w' ⟨s0, s5, s6⟩
              go_simp
              try (with_reducible rfl)
            rotate_left
            · simp only [Act.put, List.setIfInBounds_toArray, List.set_cons_zero, List.set_cons_succ, i64_w, i32_w]
              rfl
            refine take_ (i := 5) (N := some 163) (v := .int .i64 cj) (a' := ?_) #[true, true, true, true, true, true, false, true, true, false, true, true, false, false, false, false, false, false, false, false, false, false] rfl rfl (by kernel_rfl) (fun _ _ _ h => h) (Or.inl ⟨by rfl, ?_⟩) hHeld ?_ ?_
            · rintro w' ⟨s0, s5, s6⟩
              go_simp
              try (with_reducible rfl)
            rotate_left
            · simp only [Act.put, List.setIfInBounds_toArray, List.set_cons_zero, List.set_cons_succ, i64_w, i32_w]
              rfl
            refine pure_ (i := 6) (N := some 164) (v := .int .i64 (pj + cj)) (a' := ?_) #[true, true, true, true, true, true, true, true, true, false, true, true, false, false, false, false, false, false, false, false, false, false] rfl rfl (by kernel_rfl) (fun _ _ _ h => h) (Or.inl ⟨by rfl, ?_⟩) ?_ ?_
            · intro w'
              go_simp
              try (with_reducible rfl)
            rotate_left
            · simp only [Act.put, List.setIfInBounds_toArray, List.set_cons_zero, List.set_cons_succ, i64_w, i32_w]
              rfl
            refine take_ (i := 9) (N := some 167) (v := .int .i64 tj) (a' := ?_) #[true, true, true, true, true, true, true, true, true, true, true, true, false, false, false, false, false, false, false, false, false, false] rfl rfl (by kernel_rfl) (fun _ _ _ h => h) (Or.inl ⟨by rfl, ?_⟩) hHeld ?_ ?_
            · rintro w' ⟨s0, s5, s6⟩
              go_simp
              try (with_reducible rfl)
            rotate_left
            · simp only [Act.put, List.setIfInBounds_toArray, List.set_cons_zero, List.set_cons_succ, i64_w, i32_w]
              rfl
            refine one_ (i := 12) (N := some 170) #[true, true, true, true, true, true, true, true, true, true, true, true, true, false, false, false, false, false, false, false, false, false] rfl rfl (by kernel_rfl) (by decide) (fun K hK => ?_)
            refine goes_ Try.func13 (by kernel_rfl) rfl #[.pointer (some ⟨g, 0, none⟩), .int .i64 (j : Int)] (by rfl) rfl rfl (by (try simp only [List.map_toArray, List.map_cons, List.map_nil]); rfl) ?_
            refine (HLEN.out _ HA2.out.net).mono ?_
            rintro e w' ⟨rfl, rfl⟩
            refine ⟨_, rfl, ?_⟩
            refine hK.out _ _ hHeld (fun hHeld => ?_)
            clear hK K
            try (refine norm_ (a' := ?_) ?_ ?_; rotate_left; focus (simp only [Act.put, List.setIfInBounds_toArray, List.set_cons_zero, List.set_cons_succ, i64_w, i32_w]; rfl))
            refine pure_ (i := 13) (N := some 171) (v := .int .i64 (pj + cj)) (a' := ?_) #[true, true, true, true, true, true, true, true, true, true, true, true, true, true, false, false, false, false, false, false, false, false] rfl rfl (by kernel_rfl) (fun _ _ _ h => h) (Or.inl ⟨by rfl, ?_⟩) ?_ ?_
            · intro w'
              go_simp
              try (with_reducible rfl)
            rotate_left
            · simp only [Act.put, List.setIfInBounds_toArray, List.set_cons_zero, List.set_cons_succ, i64_w, i32_w]
              rfl
            refine pure_ (i := 14) (N := some 172) (v := .bool false) (a' := ?_) #[true, true, true, true, true, true, true, true, true, true, true, true, true, true, true, false, false, false, false, false, false, false] rfl rfl (by kernel_rfl) (fun _ _ _ h => h) (Or.inl ⟨by rfl, ?_⟩) ?_ ?_
            · intro w'
              go_simp
              try (with_reducible rfl)
            rotate_left
            · simp only [Act.put, List.setIfInBounds_toArray, List.set_cons_zero, List.set_cons_succ, i64_w, i32_w]
              rfl
            refine pure_ (i := 15) (N := some 173) (v := .bool false) (a' := ?_) #[true, true, true, true, true, true, true, true, true, true, true, true, true, true, true, true, false, false, false, false, false, false] rfl rfl (by kernel_rfl) (fun _ _ _ h => h) (Or.inl ⟨by rfl, ?_⟩) ?_ ?_
            · intro w'
              go_simp
              try (with_reducible rfl)
            rotate_left
            · simp only [Act.put, List.setIfInBounds_toArray, List.set_cons_zero, List.set_cons_succ, i64_w, i32_w]
              rfl
            refine pure_ (i := 16) (N := some 174) (v := .pointer (some ⟨g, 0, none⟩)) (a' := ?_) #[true, true, true, true, true, true, true, true, true, true, true, true, true, true, true, true, true, false, false, false, false, false] rfl rfl (by kernel_rfl) (fun _ _ _ h => h) (Or.inl ⟨by rfl, ?_⟩) ?_ ?_
            · intro w'
              go_simp
              try (with_reducible rfl)
            rotate_left
            · simp only [Act.put, List.setIfInBounds_toArray, List.set_cons_zero, List.set_cons_succ, i64_w, i32_w]
              rfl
            refine pure_ (i := 17) (N := some 175) (v := .int .i64 (j : Int)) (a' := ?_) #[true, true, true, true, true, true, true, true, true, true, true, true, true, true, true, true, true, true, false, false, false, false] rfl rfl (by kernel_rfl) (fun _ _ _ h => h) (Or.inl ⟨by rfl, ?_⟩) ?_ ?_
            · intro w'
              go_simp
              try (with_reducible rfl)
            rotate_left
            · simp only [Act.put, List.setIfInBounds_toArray, List.set_cons_zero, List.set_cons_succ, i64_w, i32_w]
              rfl
            refine pure_ (i := 19) (N := some 177) (v := .int .i64 room) (a' := ?_) #[true, true, true, true, true, true, true, true, true, true, true, true, true, true, true, true, true, true, false, true, false, false] rfl rfl (by kernel_rfl) (fun _ _ _ h => h) (Or.inl ⟨by rfl, ?_⟩) ?_ ?_
            · intro w'
              go_simp
              try (with_reducible rfl)
            rotate_left
            · simp only [Act.put, List.setIfInBounds_toArray, List.set_cons_zero, List.set_cons_succ, i64_w, i32_w]
              rfl
            refine one_ (i := 18) (N := some 176) #[true, true, true, true, true, true, true, true, true, true, true, true, true, true, true, true, true, true, true, true, false, false] rfl rfl (by kernel_rfl) (by decide) (fun K hK => ?_)
            refine goes_ Try.func13 (by kernel_rfl) rfl #[.pointer (some ⟨g, 0, none⟩), .int .i64 (j : Int)] (by rfl) rfl rfl (by (try simp only [List.map_toArray, List.map_cons, List.map_nil]); rfl) ?_
            refine (HLEN.out _ HA2.out.net).mono ?_
            rintro e w' ⟨rfl, rfl⟩
            refine ⟨_, rfl, ?_⟩
            refine hK.out _ _ hHeld (fun hHeld => ?_)
            clear hK K
            try (refine norm_ (a' := ?_) ?_ ?_; rotate_left; focus (simp only [Act.put, List.setIfInBounds_toArray, List.set_cons_zero, List.set_cons_succ, i64_w, i32_w]; rfl))
            refine pure_ (i := 20) (N := some 178) (v := .bool false) (a' := ?_) #[true, true, true, true, true, true, true, true, true, true, true, true, true, true, true, true, true, true, true, true, true, false] rfl rfl (by kernel_rfl) (fun _ _ _ h => h) (Or.inl ⟨by rfl, ?_⟩) ?_ ?_
            · intro w'
              go_simp
              try (with_reducible rfl)
            rotate_left
            · simp only [Act.put, List.setIfInBounds_toArray, List.set_cons_zero, List.set_cons_succ, i64_w, i32_w]
              rfl
            refine pure_ (i := 21) (N := some 179) (v := .bool false) (a' := ?_) #[true, true, true, true, true, true, true, true, true, true, true, true, true, true, true, true, true, true, true, true, true, true] rfl rfl (by kernel_rfl) (fun _ _ _ h => h) (Or.inl ⟨by rfl, ?_⟩) ?_ ?_
            · intro w'
              go_simp
              try (with_reducible rfl)
            rotate_left
            · simp only [Act.put, List.setIfInBounds_toArray, List.set_cons_zero, List.set_cons_succ, i64_w, i32_w]
              rfl
            refine done_ (by kernel_rfl) ?_
            clear i1 i2 i3 s1 s2 s3 s4
            have s7 : IntKind.i64.wrap ((i : Int) + 1) = ((i + 1 : Nat) : Int) := by rw [IntWalk.i64_in _ (by have := HI.out; omega)]; rfl
            go_wp2_with fail
            go_roundg (l.length - i)
            case measure => have := HI.out; omega
            case rel => exact ⟨i + 1, O9, n9, k9, D9, c9, t9, p9, by first | rfl | (rw [← s7]; done) | (simp [s7]; done), Lib.hid (by have := HI.out; omega), HA2, HV, HK⟩
          · obtain ⟨z, hz⟩ : ∃ z, n.place (j : Int) x.f2 = z := ⟨_, rfl⟩
            rw [hz] at hz0
            rw [hz]
            have qz : (z == 0) = false := beq_eq_false_iff_ne.2 hz0
            have en : n.take (j : Int) x.f2 = n := by unfold NtS.take; rw [if_neg (fun h => hz0 (hz.symm.trans h))]
            have HAX := HA6.out
            rw [en] at HAX
            clear en hz hz0 HA6
            go_upto_region 37 with fail
            clear qz
            have HVX := HV0.out.same
            have HKX : k ≤ i + 1 := Nat.le_succ_of_le KIN.out
            clear HV0 KIN
            obtain ⟨W9, hW9⟩ : ∃ q, W6 = q := ⟨_, rfl⟩
            obtain ⟨O9, hO9⟩ : ∃ q, O6 = q := ⟨_, rfl⟩
            obtain ⟨n9, hn9⟩ : ∃ q, n = q := ⟨_, rfl⟩
            obtain ⟨k9, hk9⟩ : ∃ q, k = q := ⟨_, rfl⟩
            obtain ⟨D9, hD9⟩ : ∃ q, D = q := ⟨_, rfl⟩
            obtain ⟨c9, hc9⟩ : ∃ q, c = q := ⟨_, rfl⟩
            obtain ⟨t9, ht9⟩ : ∃ q, t = q := ⟨_, rfl⟩
            obtain ⟨p9, hp9⟩ : ∃ q, p = q := ⟨_, rfl⟩
            try rw [hW9] at HAX
            try rw [hW9] at HVX
            try rw [hW9] at HKX
            try rw [hW9]
            try rw [hO9] at HAX
            try rw [hO9] at HVX
            try rw [hO9] at HKX
            try rw [hO9]
            try rw [hn9] at HAX
            try rw [hn9] at HVX
            try rw [hn9] at HKX
            try rw [hn9]
            try rw [hk9] at HAX
            try rw [hk9] at HVX
            try rw [hk9] at HKX
            try rw [hk9]
            try rw [hD9] at HAX
            try rw [hD9] at HVX
            try rw [hD9] at HKX
            try rw [hD9]
            try rw [hc9] at HAX
            try rw [hc9] at HVX
            try rw [hc9] at HKX
            try rw [hc9]
            try rw [ht9] at HAX
            try rw [ht9] at HVX
            try rw [ht9] at HKX
            try rw [ht9]
            try rw [hp9] at HAX
            try rw [hp9] at HVX
            try rw [hp9] at HKX
            try rw [hp9]
            have HA := Lib.hid HAX
            have HV := Lib.hid HVX
            have HK := Lib.hid HKX
            clear HAX HVX HKX hW9 hO9 hn9 hk9 hD9 hc9 ht9 hp9
            have hcc := at_two HA.out.ca HJ.out
            have htt := at_two HA.out.ta HJ.out
            have hpp := at_two HA.out.pa HJ.out
            obtain ⟨lw, hlw⟩ : ∃ q : Nat, (n9.way (j : Int)).length = q := ⟨_, rfl⟩
            have hle := HV.out.e j HJ.out
            have hwi := way_in HA.out.ok j
            have hro := HV.out.room
            have hbd := HV.out.bd j HJ.out
            rw [hlw] at hle hwi
            obtain ⟨pj, hpj⟩ : ∃ q, p9 j = q := ⟨_, rfl⟩
            obtain ⟨cj, hcj⟩ : ∃ q, c9 j = q := ⟨_, rfl⟩
            obtain ⟨tj, htj⟩ : ∃ q, t9 j = q := ⟨_, rfl⟩
            rw [hpj] at hpp hle hbd
            rw [hcj] at hcc hle hbd
            rw [htj] at htt hle hbd
            have HLEN : Hid (∀ W, NN W g O9 n9 → Calls Try.prog 13 #[.pointer (some ⟨g, 0, none⟩), .int .i64 (j : Int)] W fun e w' => e = .returned (.int .i64 (lw : Int)) ∧ w' = W) := by
              intro W hW
              have := net_Len g O9 n9 (j : Int) W hW
              rw [len_j HJ.out, hlw] at this
              exact this
            have hi := HI.out
            have s1 : IntKind.i64.wrap (pj + cj) = pj + cj := IntWalk.i64_in _ (by omega)
            have s2 : IntKind.i64.wrap (tj + (lw : Int)) = pj + cj := by rw [IntWalk.i64_in _ (by omega)]; omega
            have s3 : ((lw : Int) > room) = False := eq_false (by omega)
            have s4 : decide ((lw : Int) > room) = false := decide_eq_false (by omega)
            have i1 : ∀ W, (Instr.indexAt 44 (.pointer (some ⟨gp, 0, none⟩)) (.int .i64 (j : Int))).run Try.prog W = .ok (.pointer (some ⟨gp, j, none⟩)) W := idx2 gp j HJ.out
            have i2 : ∀ W, (Instr.indexAt 44 (.pointer (some ⟨ga, 0, none⟩)) (.int .i64 (j : Int))).run Try.prog W = .ok (.pointer (some ⟨ga, j, none⟩)) W := idx2 ga j HJ.out
            have i3 : ∀ W, (Instr.indexAt 44 (.pointer (some ⟨gt, 0, none⟩)) (.int .i64 (j : Int))).run Try.prog W = .ok (.pointer (some ⟨gt, j, none⟩)) W := idx2 gt j HJ.out
            have q1 := hpp.1
            have q2 := hcc.1
            have q3 := htt.1
            clear hcc htt hpp hle hwi hro hbd hpj hcj htj hlw hi
            go_wp2_with fail
            refine start_ (n := 22) (S := fun w' => w'.cell? ⟨gp, j, none⟩ = some (.int .i64 pj) ∧ w'.cell? ⟨ga, j, none⟩ = some (.int .i64 cj) ∧ w'.cell? ⟨gt, j, none⟩ = some (.int .i64 tj)) (ds := []) #[false, false, false, false, false, false, false, false, false, false, false, false, false, false, false, false, false, false, false, false, false, false] (by kernel_rfl) rfl rfl ⟨q1, q2, q3⟩ (fun hHeld => ?_)
            obtain ⟨WD, hWD⟩ : ∃ W, W9.drew = W := ⟨_, rfl⟩
            have HA2 : Hid (OAt w WD g O9 n9 bm k9 ga gt gp D9 c9 t9 p9) := by show OAt _ _ _ _ _ _ _ _ _ _ _ _ _ _; rw [← hWD]; exact HA.out.below (below_drew (Below.refl _ _))
            rw [hWD] at hHeld ⊢
            clear hWD HA q1 q2 q3
            refine pure_ (i := 0) (N := some 158) (v := .int .i64 (j : Int)) (a' := ?_) #[true, false, false, false, false, false, false, false, false, false, false, false, false, false, false, false, false, false, false, false, false, false] rfl rfl (by kernel_rfl) (fun _ _ _ h => h) (Or.inl ⟨by rfl, ?_⟩) ?_ ?_
            · intro w'
              go_simp
              try (with_reducible rfl)
            rotate_left
            · simp only [Act.put, List.setIfInBounds_toArray, List.set_cons_zero, List.set_cons_succ, i64_w, i32_w]
              rfl
            refine pure_ (i := 1) (N := some 159) (v := .pointer (some ⟨gp, j, none⟩)) (a' := ?_) #[true, true, false, false, false, false, false, false, false, false, false, false, false, false, false, false, false, false, false, false, false, false] rfl rfl (by kernel_rfl) (fun _ _ _ h => h) (Or.inl ⟨by rfl, ?_⟩) ?_ ?_
            · intro w'
              go_simp
              try (with_reducible rfl)
            rotate_left
            · simp only [Act.put, List.setIfInBounds_toArray, List.set_cons_zero, List.set_cons_succ, i64_w, i32_w]
              rfl
            refine pure_ (i := 3) (N := some 161) (v := .int .i64 (j : Int)) (a' := ?_) #[true, true, false, true, false, false, false, false, false, false, false, false, false, false, false, false, false, false, false, false, false, false] rfl rfl (by kernel_rfl) (fun _ _ _ h => h) (Or.inl ⟨by rfl, ?_⟩) ?_ ?_
            · intro w'
              go_simp
              try (with_reducible rfl)
            rotate_left
            · simp only [Act.put, List.setIfInBounds_toArray, List.set_cons_zero, List.set_cons_succ, i64_w, i32_w]
              rfl
            refine pure_ (i := 4) (N := some 162) (v := .pointer (some ⟨ga, j, none⟩)) (a' := ?_) #[true, true, false, true, true, false, false, false, false, false, false, false, false, false, false, false, false, false, false, false, false, false] rfl rfl (by kernel_rfl) (fun _ _ _ h => h) (Or.inl ⟨by rfl, ?_⟩) ?_ ?_
            · intro w'
              go_simp
              try (with_reducible rfl)
            rotate_left
            · simp only [Act.put, List.setIfInBounds_toArray, List.set_cons_zero, List.set_cons_succ, i64_w, i32_w]
              rfl
            refine pure_ (i := 7) (N := some 165) (v := .int .i64 (j : Int)) (a' := ?_) #[true, true, false, true, true, false, false, true, false, false, false, false, false, false, false, false, false, false, false, false, false, false] rfl rfl (by kernel_rfl) (fun _ _ _ h => h) (Or.inl ⟨by rfl, ?_⟩) ?_ ?_
            · intro w'
              go_simp
              try (with_reducible rfl)
            rotate_left
            · simp only [Act.put, List.setIfInBounds_toArray, List.set_cons_zero, List.set_cons_succ, i64_w, i32_w]
              rfl
            refine pure_ (i := 8) (N := some 166) (v := .pointer (some ⟨gt, j, none⟩)) (a' := ?_) #[true, true, false, true, true, false, false, true, true, false, false, false, false, false, false, false, false, false, false, false, false, false] rfl rfl (by kernel_rfl) (fun _ _ _ h => h) (Or.inl ⟨by rfl, ?_⟩) ?_ ?_
            · intro w'
              go_simp
              try (with_reducible rfl)
            rotate_left
            · simp only [Act.put, List.setIfInBounds_toArray, List.set_cons_zero, List.set_cons_succ, i64_w, i32_w]
              rfl
            refine pure_ (i := 10) (N := some 168) (v := .pointer (some ⟨g, 0, none⟩)) (a' := ?_) #[true, true, false, true, true, false, false, true, true, false, true, false, false, false, false, false, false, false, false, false, false, false] rfl rfl (by kernel_rfl) (fun _ _ _ h => h) (Or.inl ⟨by rfl, ?_⟩) ?_ ?_
            · intro w'
              go_simp
              try (with_reducible rfl)
            rotate_left
            · simp only [Act.put, List.setIfInBounds_toArray, List.set_cons_zero, List.set_cons_succ, i64_w, i32_w]
              rfl
            refine pure_ (i := 11) (N := some 169) (v := .int .i64 (j : Int)) (a' := ?_) #[true, true, false, true, true, false, false, true, true, false, true, true, false, false, false, false, false, false, false, false, false, false] rfl rfl (by kernel_rfl) (fun _ _ _ h => h) (Or.inl ⟨by rfl, ?_⟩) ?_ ?_
            · intro w'
              go_simp
              try (with_reducible rfl)
            rotate_left
            · simp only [Act.put, List.setIfInBounds_toArray, List.set_cons_zero, List.set_cons_succ, i64_w, i32_w]
              rfl
            refine take_ (i := 2) (N := some 160) (v := .int .i64 pj) (a' := ?_) #[true, true, true, true, true, false, false, true, true, false, true, true, false, false, false, false, false, false, false, false, false, false] rfl rfl (by kernel_rfl) (fun _ _ _ h => h) (Or.inl ⟨by rfl, ?_⟩) hHeld ?_ ?_
            · rintro w' ⟨s0, s5, s6⟩
              go_simp
              try (with_reducible rfl)
            rotate_left
            · simp only [Act.put, List.setIfInBounds_toArray, List.set_cons_zero, List.set_cons_succ, i64_w, i32_w]
              rfl
            refine take_ (i := 5) (N := some 163) (v := .int .i64 cj) (a' := ?_) #[true, true, true, true, true, true, false, true, true, false, true, true, false, false, false, false, false, false, false, false, false, false] rfl rfl (by kernel_rfl) (fun _ _ _ h => h) (Or.inl ⟨by rfl, ?_⟩) hHeld ?_ ?_
            · rintro w' ⟨s0, s5, s6⟩
              go_simp
              try (with_reducible rfl)
            rotate_left
            · simp only [Act.put, List.setIfInBounds_toArray, List.set_cons_zero, List.set_cons_succ, i64_w, i32_w]
              rfl
            refine pure_ (i := 6) (N := some 164) (v := .int .i64 (pj + cj)) (a' := ?_) #[true, true, true, true, true, true, true, true, true, false, true, true, false, false, false, false, false, false, false, false, false, false] rfl rfl (by kernel_rfl) (fun _ _ _ h => h) (Or.inl ⟨by rfl, ?_⟩) ?_ ?_
            · intro w'
              go_simp
              try (with_reducible rfl)
            rotate_left
            · simp only [Act.put, List.setIfInBounds_toArray, List.set_cons_zero, List.set_cons_succ, i64_w, i32_w]
              rfl
            refine take_ (i := 9) (N := some 167) (v := .int .i64 tj) (a' := ?_) #[true, true, true, true, true, true, true, true, true, true, true, true, false, false, false, false, false, false, false, false, false, false] rfl rfl (by kernel_rfl) (fun _ _ _ h => h) (Or.inl ⟨by rfl, ?_⟩) hHeld ?_ ?_
            · rintro w' ⟨s0, s5, s6⟩
              go_simp
              try (with_reducible rfl)
            rotate_left
            · simp only [Act.put, List.setIfInBounds_toArray, List.set_cons_zero, List.set_cons_succ, i64_w, i32_w]
              rfl
            refine one_ (i := 12) (N := some 170) #[true, true, true, true, true, true, true, true, true, true, true, true, true, false, false, false, false, false, false, false, false, false] rfl rfl (by kernel_rfl) (by decide) (fun K hK => ?_)
            refine goes_ Try.func13 (by kernel_rfl) rfl #[.pointer (some ⟨g, 0, none⟩), .int .i64 (j : Int)] (by rfl) rfl rfl (by (try simp only [List.map_toArray, List.map_cons, List.map_nil]); rfl) ?_
            refine (HLEN.out _ HA2.out.net).mono ?_
            rintro e w' ⟨rfl, rfl⟩
            refine ⟨_, rfl, ?_⟩
            refine hK.out _ _ hHeld (fun hHeld => ?_)
            clear hK K
            try (refine norm_ (a' := ?_) ?_ ?_; rotate_left; focus (simp only [Act.put, List.setIfInBounds_toArray, List.set_cons_zero, List.set_cons_succ, i64_w, i32_w]; rfl))
            refine pure_ (i := 13) (N := some 171) (v := .int .i64 (pj + cj)) (a' := ?_) #[true, true, true, true, true, true, true, true, true, true, true, true, true, true, false, false, false, false, false, false, false, false] rfl rfl (by kernel_rfl) (fun _ _ _ h => h) (Or.inl ⟨by rfl, ?_⟩) ?_ ?_
            · intro w'
              go_simp
              try (with_reducible rfl)
            rotate_left
            · simp only [Act.put, List.setIfInBounds_toArray, List.set_cons_zero, List.set_cons_succ, i64_w, i32_w]
              rfl
            refine pure_ (i := 14) (N := some 172) (v := .bool false) (a' := ?_) #[true, true, true, true, true, true, true, true, true, true, true, true, true, true, true, false, false, false, false, false, false, false] rfl rfl (by kernel_rfl) (fun _ _ _ h => h) (Or.inl ⟨by rfl, ?_⟩) ?_ ?_
            · intro w'
              go_simp
              try (with_reducible rfl)
            rotate_left
            · simp only [Act.put, List.setIfInBounds_toArray, List.set_cons_zero, List.set_cons_succ, i64_w, i32_w]
              rfl
            refine pure_ (i := 15) (N := some 173) (v := .bool false) (a' := ?_) #[true, true, true, true, true, true, true, true, true, true, true, true, true, true, true, true, false, false, false, false, false, false] rfl rfl (by kernel_rfl) (fun _ _ _ h => h) (Or.inl ⟨by rfl, ?_⟩) ?_ ?_
            · intro w'
              go_simp
              try (with_reducible rfl)
            rotate_left
            · simp only [Act.put, List.setIfInBounds_toArray, List.set_cons_zero, List.set_cons_succ, i64_w, i32_w]
              rfl
            refine pure_ (i := 16) (N := some 174) (v := .pointer (some ⟨g, 0, none⟩)) (a' := ?_) #[true, true, true, true, true, true, true, true, true, true, true, true, true, true, true, true, true, false, false, false, false, false] rfl rfl (by kernel_rfl) (fun _ _ _ h => h) (Or.inl ⟨by rfl, ?_⟩) ?_ ?_
            · intro w'
              go_simp
              try (with_reducible rfl)
            rotate_left
            · simp only [Act.put, List.setIfInBounds_toArray, List.set_cons_zero, List.set_cons_succ, i64_w, i32_w]
              rfl
            refine pure_ (i := 17) (N := some 175) (v := .int .i64 (j : Int)) (a' := ?_) #[true, true, true, true, true, true, true, true, true, true, true, true, true, true, true, true, true, true, false, false, false, false] rfl rfl (by kernel_rfl) (fun _ _ _ h => h) (Or.inl ⟨by rfl, ?_⟩) ?_ ?_
            · intro w'
              go_simp
              try (with_reducible rfl)
            rotate_left
            · simp only [Act.put, List.setIfInBounds_toArray, List.set_cons_zero, List.set_cons_succ, i64_w, i32_w]
              rfl
            refine pure_ (i := 19) (N := some 177) (v := .int .i64 room) (a' := ?_) #[true, true, true, true, true, true, true, true, true, true, true, true, true, true, true, true, true, true, false, true, false, false] rfl rfl (by kernel_rfl) (fun _ _ _ h => h) (Or.inl ⟨by rfl, ?_⟩) ?_ ?_
            · intro w'
              go_simp
              try (with_reducible rfl)
            rotate_left
            · simp only [Act.put, List.setIfInBounds_toArray, List.set_cons_zero, List.set_cons_succ, i64_w, i32_w]
              rfl
            refine one_ (i := 18) (N := some 176) #[true, true, true, true, true, true, true, true, true, true, true, true, true, true, true, true, true, true, true, true, false, false] rfl rfl (by kernel_rfl) (by decide) (fun K hK => ?_)
            refine goes_ Try.func13 (by kernel_rfl) rfl #[.pointer (some ⟨g, 0, none⟩), .int .i64 (j : Int)] (by rfl) rfl rfl (by (try simp only [List.map_toArray, List.map_cons, List.map_nil]); rfl) ?_
            refine (HLEN.out _ HA2.out.net).mono ?_
            rintro e w' ⟨rfl, rfl⟩
            refine ⟨_, rfl, ?_⟩
            refine hK.out _ _ hHeld (fun hHeld => ?_)
            clear hK K
            try (refine norm_ (a' := ?_) ?_ ?_; rotate_left; focus (simp only [Act.put, List.setIfInBounds_toArray, List.set_cons_zero, List.set_cons_succ, i64_w, i32_w]; rfl))
            refine pure_ (i := 20) (N := some 178) (v := .bool false) (a' := ?_) #[true, true, true, true, true, true, true, true, true, true, true, true, true, true, true, true, true, true, true, true, true, false] rfl rfl (by kernel_rfl) (fun _ _ _ h => h) (Or.inl ⟨by rfl, ?_⟩) ?_ ?_
            · intro w'
              go_simp
              try (with_reducible rfl)
            rotate_left
            · simp only [Act.put, List.setIfInBounds_toArray, List.set_cons_zero, List.set_cons_succ, i64_w, i32_w]
              rfl
            refine pure_ (i := 21) (N := some 179) (v := .bool false) (a' := ?_) #[true, true, true, true, true, true, true, true, true, true, true, true, true, true, true, true, true, true, true, true, true, true] rfl rfl (by kernel_rfl) (fun _ _ _ h => h) (Or.inl ⟨by rfl, ?_⟩) ?_ ?_
            · intro w'
              go_simp
              try (with_reducible rfl)
            rotate_left
            · simp only [Act.put, List.setIfInBounds_toArray, List.set_cons_zero, List.set_cons_succ, i64_w, i32_w]
              rfl
            refine done_ (by kernel_rfl) ?_
            clear i1 i2 i3 s1 s2 s3 s4
            have s7 : IntKind.i64.wrap ((i : Int) + 1) = ((i + 1 : Nat) : Int) := by rw [IntWalk.i64_in _ (by have := HI.out; omega)]; rfl
            go_wp2_with fail
            go_roundg (l.length - i)
            case measure => have := HI.out; omega
            case rel => exact ⟨i + 1, O9, n9, k9, D9, c9, t9, p9, by first | rfl | (rw [← s7]; done) | (simp [s7]; done), Lib.hid (by have := HI.out; omega), HA2, HV, HK⟩
        have q3 : (x.f0 == 3) = false := beq_eq_false_iff_ne.2 h3
        by_cases h4 : x.f0 = 4
        · have q4 : (x.f0 == 4) = true := beq_iff_eq.2 h4
          go_wp2_with fail
          refine (net_Cut g O n x.f3 _ HA2.out.net).mono ?_
          rintro e W6 ⟨rfl, hn6, E6⟩
          have HAX := HA2.out.ext hn6 (NtS.ok_cut HA2.out.ok _) E6
          clear hn6 E6 HA2
          go_upto_region 37 with fail
          have HVX := (HV0.out.same).cut x.f3
          have HKX : k ≤ i + 1 := Nat.le_succ_of_le KIN.out
          clear HV0 KIN
          obtain ⟨W9, hW9⟩ : ∃ q, W6 = q := ⟨_, rfl⟩
          obtain ⟨O9, hO9⟩ : ∃ q, O = q := ⟨_, rfl⟩
          obtain ⟨n9, hn9⟩ : ∃ q, n.setCut x.f3 = q := ⟨_, rfl⟩
          obtain ⟨k9, hk9⟩ : ∃ q, k = q := ⟨_, rfl⟩
          obtain ⟨D9, hD9⟩ : ∃ q, D = q := ⟨_, rfl⟩
          obtain ⟨c9, hc9⟩ : ∃ q, c = q := ⟨_, rfl⟩
          obtain ⟨t9, ht9⟩ : ∃ q, t = q := ⟨_, rfl⟩
          obtain ⟨p9, hp9⟩ : ∃ q, p = q := ⟨_, rfl⟩
          try rw [hW9] at HAX
          try rw [hW9] at HVX
          try rw [hW9] at HKX
          try rw [hW9]
          try rw [hO9] at HAX
          try rw [hO9] at HVX
          try rw [hO9] at HKX
          try rw [hO9]
          try rw [hn9] at HAX
          try rw [hn9] at HVX
          try rw [hn9] at HKX
          try rw [hn9]
          try rw [hk9] at HAX
          try rw [hk9] at HVX
          try rw [hk9] at HKX
          try rw [hk9]
          try rw [hD9] at HAX
          try rw [hD9] at HVX
          try rw [hD9] at HKX
          try rw [hD9]
          try rw [hc9] at HAX
          try rw [hc9] at HVX
          try rw [hc9] at HKX
          try rw [hc9]
          try rw [ht9] at HAX
          try rw [ht9] at HVX
          try rw [ht9] at HKX
          try rw [ht9]
          try rw [hp9] at HAX
          try rw [hp9] at HVX
          try rw [hp9] at HKX
          try rw [hp9]
          have HA := Lib.hid HAX
          have HV := Lib.hid HVX
          have HK := Lib.hid HKX
          clear HAX HVX HKX hW9 hO9 hn9 hk9 hD9 hc9 ht9 hp9
          have hcc := at_two HA.out.ca HJ.out
          have htt := at_two HA.out.ta HJ.out
          have hpp := at_two HA.out.pa HJ.out
          obtain ⟨lw, hlw⟩ : ∃ q : Nat, (n9.way (j : Int)).length = q := ⟨_, rfl⟩
          have hle := HV.out.e j HJ.out
          have hwi := way_in HA.out.ok j
          have hro := HV.out.room
          have hbd := HV.out.bd j HJ.out
          rw [hlw] at hle hwi
          obtain ⟨pj, hpj⟩ : ∃ q, p9 j = q := ⟨_, rfl⟩
          obtain ⟨cj, hcj⟩ : ∃ q, c9 j = q := ⟨_, rfl⟩
          obtain ⟨tj, htj⟩ : ∃ q, t9 j = q := ⟨_, rfl⟩
          rw [hpj] at hpp hle hbd
          rw [hcj] at hcc hle hbd
          rw [htj] at htt hle hbd
          have HLEN : Hid (∀ W, NN W g O9 n9 → Calls Try.prog 13 #[.pointer (some ⟨g, 0, none⟩), .int .i64 (j : Int)] W fun e w' => e = .returned (.int .i64 (lw : Int)) ∧ w' = W) := by
            intro W hW
            have := net_Len g O9 n9 (j : Int) W hW
            rw [len_j HJ.out, hlw] at this
            exact this
          have hi := HI.out
          have s1 : IntKind.i64.wrap (pj + cj) = pj + cj := IntWalk.i64_in _ (by omega)
          have s2 : IntKind.i64.wrap (tj + (lw : Int)) = pj + cj := by rw [IntWalk.i64_in _ (by omega)]; omega
          have s3 : ((lw : Int) > room) = False := eq_false (by omega)
          have s4 : decide ((lw : Int) > room) = false := decide_eq_false (by omega)
          have i1 : ∀ W, (Instr.indexAt 44 (.pointer (some ⟨gp, 0, none⟩)) (.int .i64 (j : Int))).run Try.prog W = .ok (.pointer (some ⟨gp, j, none⟩)) W := idx2 gp j HJ.out
          have i2 : ∀ W, (Instr.indexAt 44 (.pointer (some ⟨ga, 0, none⟩)) (.int .i64 (j : Int))).run Try.prog W = .ok (.pointer (some ⟨ga, j, none⟩)) W := idx2 ga j HJ.out
          have i3 : ∀ W, (Instr.indexAt 44 (.pointer (some ⟨gt, 0, none⟩)) (.int .i64 (j : Int))).run Try.prog W = .ok (.pointer (some ⟨gt, j, none⟩)) W := idx2 gt j HJ.out
          have q1 := hpp.1
          have q2 := hcc.1
          have q3 := htt.1
          clear hcc htt hpp hle hwi hro hbd hpj hcj htj hlw hi
          go_wp2_with fail
          refine start_ (n := 22) (S := fun w' => w'.cell? ⟨gp, j, none⟩ = some (.int .i64 pj) ∧ w'.cell? ⟨ga, j, none⟩ = some (.int .i64 cj) ∧ w'.cell? ⟨gt, j, none⟩ = some (.int .i64 tj)) (ds := []) #[false, false, false, false, false, false, false, false, false, false, false, false, false, false, false, false, false, false, false, false, false, false] (by kernel_rfl) rfl rfl ⟨q1, q2, q3⟩ (fun hHeld => ?_)
          obtain ⟨WD, hWD⟩ : ∃ W, W9.drew = W := ⟨_, rfl⟩
          have HA2 : Hid (OAt w WD g O9 n9 bm k9 ga gt gp D9 c9 t9 p9) := by show OAt _ _ _ _ _ _ _ _ _ _ _ _ _ _; rw [← hWD]; exact HA.out.below (below_drew (Below.refl _ _))
          rw [hWD] at hHeld ⊢
          clear hWD HA q1 q2 q3
          refine pure_ (i := 0) (N := some 158) (v := .int .i64 (j : Int)) (a' := ?_) #[true, false, false, false, false, false, false, false, false, false, false, false, false, false, false, false, false, false, false, false, false, false] rfl rfl (by kernel_rfl) (fun _ _ _ h => h) (Or.inl ⟨by rfl, ?_⟩) ?_ ?_
          · intro w'
            go_simp
            try (with_reducible rfl)
          rotate_left
          · simp only [Act.put, List.setIfInBounds_toArray, List.set_cons_zero, List.set_cons_succ, i64_w, i32_w]
            rfl
          refine pure_ (i := 1) (N := some 159) (v := .pointer (some ⟨gp, j, none⟩)) (a' := ?_) #[true, true, false, false, false, false, false, false, false, false, false, false, false, false, false, false, false, false, false, false, false, false] rfl rfl (by kernel_rfl) (fun _ _ _ h => h) (Or.inl ⟨by rfl, ?_⟩) ?_ ?_
          · intro w'
            go_simp
            try (with_reducible rfl)
          rotate_left
          · simp only [Act.put, List.setIfInBounds_toArray, List.set_cons_zero, List.set_cons_succ, i64_w, i32_w]
            rfl
          refine pure_ (i := 3) (N := some 161) (v := .int .i64 (j : Int)) (a' := ?_) #[true, true, false, true, false, false, false, false, false, false, false, false, false, false, false, false, false, false, false, false, false, false] rfl rfl (by kernel_rfl) (fun _ _ _ h => h) (Or.inl ⟨by rfl, ?_⟩) ?_ ?_
          · intro w'
            go_simp
            try (with_reducible rfl)
          rotate_left
          · simp only [Act.put, List.setIfInBounds_toArray, List.set_cons_zero, List.set_cons_succ, i64_w, i32_w]
            rfl
          refine pure_ (i := 4) (N := some 162) (v := .pointer (some ⟨ga, j, none⟩)) (a' := ?_) #[true, true, false, true, true, false, false, false, false, false, false, false, false, false, false, false, false, false, false, false, false, false] rfl rfl (by kernel_rfl) (fun _ _ _ h => h) (Or.inl ⟨by rfl, ?_⟩) ?_ ?_
          · intro w'
            go_simp
            try (with_reducible rfl)
          rotate_left
          · simp only [Act.put, List.setIfInBounds_toArray, List.set_cons_zero, List.set_cons_succ, i64_w, i32_w]
            rfl
          refine pure_ (i := 7) (N := some 165) (v := .int .i64 (j : Int)) (a' := ?_) #[true, true, false, true, true, false, false, true, false, false, false, false, false, false, false, false, false, false, false, false, false, false] rfl rfl (by kernel_rfl) (fun _ _ _ h => h) (Or.inl ⟨by rfl, ?_⟩) ?_ ?_
          · intro w'
            go_simp
            try (with_reducible rfl)
          rotate_left
          · simp only [Act.put, List.setIfInBounds_toArray, List.set_cons_zero, List.set_cons_succ, i64_w, i32_w]
            rfl
          refine pure_ (i := 8) (N := some 166) (v := .pointer (some ⟨gt, j, none⟩)) (a' := ?_) #[true, true, false, true, true, false, false, true, true, false, false, false, false, false, false, false, false, false, false, false, false, false] rfl rfl (by kernel_rfl) (fun _ _ _ h => h) (Or.inl ⟨by rfl, ?_⟩) ?_ ?_
          · intro w'
            go_simp
            try (with_reducible rfl)
          rotate_left
          · simp only [Act.put, List.setIfInBounds_toArray, List.set_cons_zero, List.set_cons_succ, i64_w, i32_w]
            rfl
          refine pure_ (i := 10) (N := some 168) (v := .pointer (some ⟨g, 0, none⟩)) (a' := ?_) #[true, true, false, true, true, false, false, true, true, false, true, false, false, false, false, false, false, false, false, false, false, false] rfl rfl (by kernel_rfl) (fun _ _ _ h => h) (Or.inl ⟨by rfl, ?_⟩) ?_ ?_
          · intro w'
            go_simp
            try (with_reducible rfl)
          rotate_left
          · simp only [Act.put, List.setIfInBounds_toArray, List.set_cons_zero, List.set_cons_succ, i64_w, i32_w]
            rfl
          refine pure_ (i := 11) (N := some 169) (v := .int .i64 (j : Int)) (a' := ?_) #[true, true, false, true, true, false, false, true, true, false, true, true, false, false, false, false, false, false, false, false, false, false] rfl rfl (by kernel_rfl) (fun _ _ _ h => h) (Or.inl ⟨by rfl, ?_⟩) ?_ ?_
          · intro w'
            go_simp
            try (with_reducible rfl)
          rotate_left
          · simp only [Act.put, List.setIfInBounds_toArray, List.set_cons_zero, List.set_cons_succ, i64_w, i32_w]
            rfl
          refine take_ (i := 2) (N := some 160) (v := .int .i64 pj) (a' := ?_) #[true, true, true, true, true, false, false, true, true, false, true, true, false, false, false, false, false, false, false, false, false, false] rfl rfl (by kernel_rfl) (fun _ _ _ h => h) (Or.inl ⟨by rfl, ?_⟩) hHeld ?_ ?_
          · rintro w' ⟨s0, s5, s6⟩
            go_simp
            try (with_reducible rfl)
          rotate_left
          · simp only [Act.put, List.setIfInBounds_toArray, List.set_cons_zero, List.set_cons_succ, i64_w, i32_w]
            rfl
          refine take_ (i := 5) (N := some 163) (v := .int .i64 cj) (a' := ?_) #[true, true, true, true, true, true, false, true, true, false, true, true, false, false, false, false, false, false, false, false, false, false] rfl rfl (by kernel_rfl) (fun _ _ _ h => h) (Or.inl ⟨by rfl, ?_⟩) hHeld ?_ ?_
          · rintro w' ⟨s0, s5, s6⟩
            go_simp
            try (with_reducible rfl)
          rotate_left
          · simp only [Act.put, List.setIfInBounds_toArray, List.set_cons_zero, List.set_cons_succ, i64_w, i32_w]
            rfl
          refine pure_ (i := 6) (N := some 164) (v := .int .i64 (pj + cj)) (a' := ?_) #[true, true, true, true, true, true, true, true, true, false, true, true, false, false, false, false, false, false, false, false, false, false] rfl rfl (by kernel_rfl) (fun _ _ _ h => h) (Or.inl ⟨by rfl, ?_⟩) ?_ ?_
          · intro w'
            go_simp
            try (with_reducible rfl)
          rotate_left
          · simp only [Act.put, List.setIfInBounds_toArray, List.set_cons_zero, List.set_cons_succ, i64_w, i32_w]
            rfl
          refine take_ (i := 9) (N := some 167) (v := .int .i64 tj) (a' := ?_) #[true, true, true, true, true, true, true, true, true, true, true, true, false, false, false, false, false, false, false, false, false, false] rfl rfl (by kernel_rfl) (fun _ _ _ h => h) (Or.inl ⟨by rfl, ?_⟩) hHeld ?_ ?_
          · rintro w' ⟨s0, s5, s6⟩
            go_simp
            try (with_reducible rfl)
          rotate_left
          · simp only [Act.put, List.setIfInBounds_toArray, List.set_cons_zero, List.set_cons_succ, i64_w, i32_w]
            rfl
          refine one_ (i := 12) (N := some 170) #[true, true, true, true, true, true, true, true, true, true, true, true, true, false, false, false, false, false, false, false, false, false] rfl rfl (by kernel_rfl) (by decide) (fun K hK => ?_)
          refine goes_ Try.func13 (by kernel_rfl) rfl #[.pointer (some ⟨g, 0, none⟩), .int .i64 (j : Int)] (by rfl) rfl rfl (by (try simp only [List.map_toArray, List.map_cons, List.map_nil]); rfl) ?_
          refine (HLEN.out _ HA2.out.net).mono ?_
          rintro e w' ⟨rfl, rfl⟩
          refine ⟨_, rfl, ?_⟩
          refine hK.out _ _ hHeld (fun hHeld => ?_)
          clear hK K
          try (refine norm_ (a' := ?_) ?_ ?_; rotate_left; focus (simp only [Act.put, List.setIfInBounds_toArray, List.set_cons_zero, List.set_cons_succ, i64_w, i32_w]; rfl))
          refine pure_ (i := 13) (N := some 171) (v := .int .i64 (pj + cj)) (a' := ?_) #[true, true, true, true, true, true, true, true, true, true, true, true, true, true, false, false, false, false, false, false, false, false] rfl rfl (by kernel_rfl) (fun _ _ _ h => h) (Or.inl ⟨by rfl, ?_⟩) ?_ ?_
          · intro w'
            go_simp
            try (with_reducible rfl)
          rotate_left
          · simp only [Act.put, List.setIfInBounds_toArray, List.set_cons_zero, List.set_cons_succ, i64_w, i32_w]
            rfl
          refine pure_ (i := 14) (N := some 172) (v := .bool false) (a' := ?_) #[true, true, true, true, true, true, true, true, true, true, true, true, true, true, true, false, false, false, false, false, false, false] rfl rfl (by kernel_rfl) (fun _ _ _ h => h) (Or.inl ⟨by rfl, ?_⟩) ?_ ?_
          · intro w'
            go_simp
            try (with_reducible rfl)
          rotate_left
          · simp only [Act.put, List.setIfInBounds_toArray, List.set_cons_zero, List.set_cons_succ, i64_w, i32_w]
            rfl
          refine pure_ (i := 15) (N := some 173) (v := .bool false) (a' := ?_) #[true, true, true, true, true, true, true, true, true, true, true, true, true, true, true, true, false, false, false, false, false, false] rfl rfl (by kernel_rfl) (fun _ _ _ h => h) (Or.inl ⟨by rfl, ?_⟩) ?_ ?_
          · intro w'
            go_simp
            try (with_reducible rfl)
          rotate_left
          · simp only [Act.put, List.setIfInBounds_toArray, List.set_cons_zero, List.set_cons_succ, i64_w, i32_w]
            rfl
          refine pure_ (i := 16) (N := some 174) (v := .pointer (some ⟨g, 0, none⟩)) (a' := ?_) #[true, true, true, true, true, true, true, true, true, true, true, true, true, true, true, true, true, false, false, false, false, false] rfl rfl (by kernel_rfl) (fun _ _ _ h => h) (Or.inl ⟨by rfl, ?_⟩) ?_ ?_
          · intro w'
            go_simp
            try (with_reducible rfl)
          rotate_left
          · simp only [Act.put, List.setIfInBounds_toArray, List.set_cons_zero, List.set_cons_succ, i64_w, i32_w]
            rfl
          refine pure_ (i := 17) (N := some 175) (v := .int .i64 (j : Int)) (a' := ?_) #[true, true, true, true, true, true, true, true, true, true, true, true, true, true, true, true, true, true, false, false, false, false] rfl rfl (by kernel_rfl) (fun _ _ _ h => h) (Or.inl ⟨by rfl, ?_⟩) ?_ ?_
          · intro w'
            go_simp
            try (with_reducible rfl)
          rotate_left
          · simp only [Act.put, List.setIfInBounds_toArray, List.set_cons_zero, List.set_cons_succ, i64_w, i32_w]
            rfl
          refine pure_ (i := 19) (N := some 177) (v := .int .i64 room) (a' := ?_) #[true, true, true, true, true, true, true, true, true, true, true, true, true, true, true, true, true, true, false, true, false, false] rfl rfl (by kernel_rfl) (fun _ _ _ h => h) (Or.inl ⟨by rfl, ?_⟩) ?_ ?_
          · intro w'
            go_simp
            try (with_reducible rfl)
          rotate_left
          · simp only [Act.put, List.setIfInBounds_toArray, List.set_cons_zero, List.set_cons_succ, i64_w, i32_w]
            rfl
          refine one_ (i := 18) (N := some 176) #[true, true, true, true, true, true, true, true, true, true, true, true, true, true, true, true, true, true, true, true, false, false] rfl rfl (by kernel_rfl) (by decide) (fun K hK => ?_)
          refine goes_ Try.func13 (by kernel_rfl) rfl #[.pointer (some ⟨g, 0, none⟩), .int .i64 (j : Int)] (by rfl) rfl rfl (by (try simp only [List.map_toArray, List.map_cons, List.map_nil]); rfl) ?_
          refine (HLEN.out _ HA2.out.net).mono ?_
          rintro e w' ⟨rfl, rfl⟩
          refine ⟨_, rfl, ?_⟩
          refine hK.out _ _ hHeld (fun hHeld => ?_)
          clear hK K
          try (refine norm_ (a' := ?_) ?_ ?_; rotate_left; focus (simp only [Act.put, List.setIfInBounds_toArray, List.set_cons_zero, List.set_cons_succ, i64_w, i32_w]; rfl))
          refine pure_ (i := 20) (N := some 178) (v := .bool false) (a' := ?_) #[true, true, true, true, true, true, true, true, true, true, true, true, true, true, true, true, true, true, true, true, true, false] rfl rfl (by kernel_rfl) (fun _ _ _ h => h) (Or.inl ⟨by rfl, ?_⟩) ?_ ?_
          · intro w'
            go_simp
            try (with_reducible rfl)
          rotate_left
          · simp only [Act.put, List.setIfInBounds_toArray, List.set_cons_zero, List.set_cons_succ, i64_w, i32_w]
            rfl
          refine pure_ (i := 21) (N := some 179) (v := .bool false) (a' := ?_) #[true, true, true, true, true, true, true, true, true, true, true, true, true, true, true, true, true, true, true, true, true, true] rfl rfl (by kernel_rfl) (fun _ _ _ h => h) (Or.inl ⟨by rfl, ?_⟩) ?_ ?_
          · intro w'
            go_simp
            try (with_reducible rfl)
          rotate_left
          · simp only [Act.put, List.setIfInBounds_toArray, List.set_cons_zero, List.set_cons_succ, i64_w, i32_w]
            rfl
          refine done_ (by kernel_rfl) ?_
          clear i1 i2 i3 s1 s2 s3 s4
          have s7 : IntKind.i64.wrap ((i : Int) + 1) = ((i + 1 : Nat) : Int) := by rw [IntWalk.i64_in _ (by have := HI.out; omega)]; rfl
          go_wp2_with fail
          go_roundg (l.length - i)
          case measure => have := HI.out; omega
          case rel => exact ⟨i + 1, O9, n9, k9, D9, c9, t9, p9, by first | rfl | (rw [← s7]; done) | (simp [s7]; done), Lib.hid (by have := HI.out; omega), HA2, HV, HK⟩
        · have q4 : (x.f0 == 4) = false := beq_eq_false_iff_ne.2 h4
          go_upto_region 37 with fail
          have HAX := HA2.out
          have HVX := HV0.out.same
          have HKX : k ≤ i + 1 := Nat.le_succ_of_le KIN.out
          clear HA2 HV0 KIN
          obtain ⟨W9, hW9⟩ : ∃ q, W2 = q := ⟨_, rfl⟩
          obtain ⟨O9, hO9⟩ : ∃ q, O = q := ⟨_, rfl⟩
          obtain ⟨n9, hn9⟩ : ∃ q, n = q := ⟨_, rfl⟩
          obtain ⟨k9, hk9⟩ : ∃ q, k = q := ⟨_, rfl⟩
          obtain ⟨D9, hD9⟩ : ∃ q, D = q := ⟨_, rfl⟩
          obtain ⟨c9, hc9⟩ : ∃ q, c = q := ⟨_, rfl⟩
          obtain ⟨t9, ht9⟩ : ∃ q, t = q := ⟨_, rfl⟩
          obtain ⟨p9, hp9⟩ : ∃ q, p = q := ⟨_, rfl⟩
          try rw [hW9] at HAX
          try rw [hW9] at HVX
          try rw [hW9] at HKX
          try rw [hW9]
          try rw [hO9] at HAX
          try rw [hO9] at HVX
          try rw [hO9] at HKX
          try rw [hO9]
          try rw [hn9] at HAX
          try rw [hn9] at HVX
          try rw [hn9] at HKX
          try rw [hn9]
          try rw [hk9] at HAX
          try rw [hk9] at HVX
          try rw [hk9] at HKX
          try rw [hk9]
          try rw [hD9] at HAX
          try rw [hD9] at HVX
          try rw [hD9] at HKX
          try rw [hD9]
          try rw [hc9] at HAX
          try rw [hc9] at HVX
          try rw [hc9] at HKX
          try rw [hc9]
          try rw [ht9] at HAX
          try rw [ht9] at HVX
          try rw [ht9] at HKX
          try rw [ht9]
          try rw [hp9] at HAX
          try rw [hp9] at HVX
          try rw [hp9] at HKX
          try rw [hp9]
          have HA := Lib.hid HAX
          have HV := Lib.hid HVX
          have HK := Lib.hid HKX
          clear HAX HVX HKX hW9 hO9 hn9 hk9 hD9 hc9 ht9 hp9
          have hcc := at_two HA.out.ca HJ.out
          have htt := at_two HA.out.ta HJ.out
          have hpp := at_two HA.out.pa HJ.out
          obtain ⟨lw, hlw⟩ : ∃ q : Nat, (n9.way (j : Int)).length = q := ⟨_, rfl⟩
          have hle := HV.out.e j HJ.out
          have hwi := way_in HA.out.ok j
          have hro := HV.out.room
          have hbd := HV.out.bd j HJ.out
          rw [hlw] at hle hwi
          obtain ⟨pj, hpj⟩ : ∃ q, p9 j = q := ⟨_, rfl⟩
          obtain ⟨cj, hcj⟩ : ∃ q, c9 j = q := ⟨_, rfl⟩
          obtain ⟨tj, htj⟩ : ∃ q, t9 j = q := ⟨_, rfl⟩
          rw [hpj] at hpp hle hbd
          rw [hcj] at hcc hle hbd
          rw [htj] at htt hle hbd
          have HLEN : Hid (∀ W, NN W g O9 n9 → Calls Try.prog 13 #[.pointer (some ⟨g, 0, none⟩), .int .i64 (j : Int)] W fun e w' => e = .returned (.int .i64 (lw : Int)) ∧ w' = W) := by
            intro W hW
            have := net_Len g O9 n9 (j : Int) W hW
            rw [len_j HJ.out, hlw] at this
            exact this
          have hi := HI.out
          have s1 : IntKind.i64.wrap (pj + cj) = pj + cj := IntWalk.i64_in _ (by omega)
          have s2 : IntKind.i64.wrap (tj + (lw : Int)) = pj + cj := by rw [IntWalk.i64_in _ (by omega)]; omega
          have s3 : ((lw : Int) > room) = False := eq_false (by omega)
          have s4 : decide ((lw : Int) > room) = false := decide_eq_false (by omega)
          have i1 : ∀ W, (Instr.indexAt 44 (.pointer (some ⟨gp, 0, none⟩)) (.int .i64 (j : Int))).run Try.prog W = .ok (.pointer (some ⟨gp, j, none⟩)) W := idx2 gp j HJ.out
          have i2 : ∀ W, (Instr.indexAt 44 (.pointer (some ⟨ga, 0, none⟩)) (.int .i64 (j : Int))).run Try.prog W = .ok (.pointer (some ⟨ga, j, none⟩)) W := idx2 ga j HJ.out
          have i3 : ∀ W, (Instr.indexAt 44 (.pointer (some ⟨gt, 0, none⟩)) (.int .i64 (j : Int))).run Try.prog W = .ok (.pointer (some ⟨gt, j, none⟩)) W := idx2 gt j HJ.out
          have q1 := hpp.1
          have q2 := hcc.1
          have q3 := htt.1
          clear hcc htt hpp hle hwi hro hbd hpj hcj htj hlw hi
          go_wp2_with fail
          refine start_ (n := 22) (S := fun w' => w'.cell? ⟨gp, j, none⟩ = some (.int .i64 pj) ∧ w'.cell? ⟨ga, j, none⟩ = some (.int .i64 cj) ∧ w'.cell? ⟨gt, j, none⟩ = some (.int .i64 tj)) (ds := []) #[false, false, false, false, false, false, false, false, false, false, false, false, false, false, false, false, false, false, false, false, false, false] (by kernel_rfl) rfl rfl ⟨q1, q2, q3⟩ (fun hHeld => ?_)
          obtain ⟨WD, hWD⟩ : ∃ W, W9.drew = W := ⟨_, rfl⟩
          have HA2 : Hid (OAt w WD g O9 n9 bm k9 ga gt gp D9 c9 t9 p9) := by show OAt _ _ _ _ _ _ _ _ _ _ _ _ _ _; rw [← hWD]; exact HA.out.below (below_drew (Below.refl _ _))
          rw [hWD] at hHeld ⊢
          clear hWD HA q1 q2 q3
          refine pure_ (i := 0) (N := some 158) (v := .int .i64 (j : Int)) (a' := ?_) #[true, false, false, false, false, false, false, false, false, false, false, false, false, false, false, false, false, false, false, false, false, false] rfl rfl (by kernel_rfl) (fun _ _ _ h => h) (Or.inl ⟨by rfl, ?_⟩) ?_ ?_
          · intro w'
            go_simp
            try (with_reducible rfl)
          rotate_left
          · simp only [Act.put, List.setIfInBounds_toArray, List.set_cons_zero, List.set_cons_succ, i64_w, i32_w]
            rfl
          refine pure_ (i := 1) (N := some 159) (v := .pointer (some ⟨gp, j, none⟩)) (a' := ?_) #[true, true, false, false, false, false, false, false, false, false, false, false, false, false, false, false, false, false, false, false, false, false] rfl rfl (by kernel_rfl) (fun _ _ _ h => h) (Or.inl ⟨by rfl, ?_⟩) ?_ ?_
          · intro w'
            go_simp
            try (with_reducible rfl)
          rotate_left
          · simp only [Act.put, List.setIfInBounds_toArray, List.set_cons_zero, List.set_cons_succ, i64_w, i32_w]
            rfl
          refine pure_ (i := 3) (N := some 161) (v := .int .i64 (j : Int)) (a' := ?_) #[true, true, false, true, false, false, false, false, false, false, false, false, false, false, false, false, false, false, false, false, false, false] rfl rfl (by kernel_rfl) (fun _ _ _ h => h) (Or.inl ⟨by rfl, ?_⟩) ?_ ?_
          · intro w'
            go_simp
            try (with_reducible rfl)
          rotate_left
          · simp only [Act.put, List.setIfInBounds_toArray, List.set_cons_zero, List.set_cons_succ, i64_w, i32_w]
            rfl
          refine pure_ (i := 4) (N := some 162) (v := .pointer (some ⟨ga, j, none⟩)) (a' := ?_) #[true, true, false, true, true, false, false, false, false, false, false, false, false, false, false, false, false, false, false, false, false, false] rfl rfl (by kernel_rfl) (fun _ _ _ h => h) (Or.inl ⟨by rfl, ?_⟩) ?_ ?_
          · intro w'
            go_simp
            try (with_reducible rfl)
          rotate_left
          · simp only [Act.put, List.setIfInBounds_toArray, List.set_cons_zero, List.set_cons_succ, i64_w, i32_w]
            rfl
          refine pure_ (i := 7) (N := some 165) (v := .int .i64 (j : Int)) (a' := ?_) #[true, true, false, true, true, false, false, true, false, false, false, false, false, false, false, false, false, false, false, false, false, false] rfl rfl (by kernel_rfl) (fun _ _ _ h => h) (Or.inl ⟨by rfl, ?_⟩) ?_ ?_
          · intro w'
            go_simp
            try (with_reducible rfl)
          rotate_left
          · simp only [Act.put, List.setIfInBounds_toArray, List.set_cons_zero, List.set_cons_succ, i64_w, i32_w]
            rfl
          refine pure_ (i := 8) (N := some 166) (v := .pointer (some ⟨gt, j, none⟩)) (a' := ?_) #[true, true, false, true, true, false, false, true, true, false, false, false, false, false, false, false, false, false, false, false, false, false] rfl rfl (by kernel_rfl) (fun _ _ _ h => h) (Or.inl ⟨by rfl, ?_⟩) ?_ ?_
          · intro w'
            go_simp
            try (with_reducible rfl)
          rotate_left
          · simp only [Act.put, List.setIfInBounds_toArray, List.set_cons_zero, List.set_cons_succ, i64_w, i32_w]
            rfl
          refine pure_ (i := 10) (N := some 168) (v := .pointer (some ⟨g, 0, none⟩)) (a' := ?_) #[true, true, false, true, true, false, false, true, true, false, true, false, false, false, false, false, false, false, false, false, false, false] rfl rfl (by kernel_rfl) (fun _ _ _ h => h) (Or.inl ⟨by rfl, ?_⟩) ?_ ?_
          · intro w'
            go_simp
            try (with_reducible rfl)
          rotate_left
          · simp only [Act.put, List.setIfInBounds_toArray, List.set_cons_zero, List.set_cons_succ, i64_w, i32_w]
            rfl
          refine pure_ (i := 11) (N := some 169) (v := .int .i64 (j : Int)) (a' := ?_) #[true, true, false, true, true, false, false, true, true, false, true, true, false, false, false, false, false, false, false, false, false, false] rfl rfl (by kernel_rfl) (fun _ _ _ h => h) (Or.inl ⟨by rfl, ?_⟩) ?_ ?_
          · intro w'
            go_simp
            try (with_reducible rfl)
          rotate_left
          · simp only [Act.put, List.setIfInBounds_toArray, List.set_cons_zero, List.set_cons_succ, i64_w, i32_w]
            rfl
          refine take_ (i := 2) (N := some 160) (v := .int .i64 pj) (a' := ?_) #[true, true, true, true, true, false, false, true, true, false, true, true, false, false, false, false, false, false, false, false, false, false] rfl rfl (by kernel_rfl) (fun _ _ _ h => h) (Or.inl ⟨by rfl, ?_⟩) hHeld ?_ ?_
          · rintro w' ⟨s0, s5, s6⟩
            go_simp
            try (with_reducible rfl)
          rotate_left
          · simp only [Act.put, List.setIfInBounds_toArray, List.set_cons_zero, List.set_cons_succ, i64_w, i32_w]
            rfl
          refine take_ (i := 5) (N := some 163) (v := .int .i64 cj) (a' := ?_) #[true, true, true, true, true, true, false, true, true, false, true, true, false, false, false, false, false, false, false, false, false, false] rfl rfl (by kernel_rfl) (fun _ _ _ h => h) (Or.inl ⟨by rfl, ?_⟩) hHeld ?_ ?_
          · rintro w' ⟨s0, s5, s6⟩
            go_simp
            try (with_reducible rfl)
          rotate_left
          · simp only [Act.put, List.setIfInBounds_toArray, List.set_cons_zero, List.set_cons_succ, i64_w, i32_w]
            rfl
          refine pure_ (i := 6) (N := some 164) (v := .int .i64 (pj + cj)) (a' := ?_) #[true, true, true, true, true, true, true, true, true, false, true, true, false, false, false, false, false, false, false, false, false, false] rfl rfl (by kernel_rfl) (fun _ _ _ h => h) (Or.inl ⟨by rfl, ?_⟩) ?_ ?_
          · intro w'
            go_simp
            try (with_reducible rfl)
          rotate_left
          · simp only [Act.put, List.setIfInBounds_toArray, List.set_cons_zero, List.set_cons_succ, i64_w, i32_w]
            rfl
          refine take_ (i := 9) (N := some 167) (v := .int .i64 tj) (a' := ?_) #[true, true, true, true, true, true, true, true, true, true, true, true, false, false, false, false, false, false, false, false, false, false] rfl rfl (by kernel_rfl) (fun _ _ _ h => h) (Or.inl ⟨by rfl, ?_⟩) hHeld ?_ ?_
          · rintro w' ⟨s0, s5, s6⟩
            go_simp
            try (with_reducible rfl)
          rotate_left
          · simp only [Act.put, List.setIfInBounds_toArray, List.set_cons_zero, List.set_cons_succ, i64_w, i32_w]
            rfl
          refine one_ (i := 12) (N := some 170) #[true, true, true, true, true, true, true, true, true, true, true, true, true, false, false, false, false, false, false, false, false, false] rfl rfl (by kernel_rfl) (by decide) (fun K hK => ?_)
          refine goes_ Try.func13 (by kernel_rfl) rfl #[.pointer (some ⟨g, 0, none⟩), .int .i64 (j : Int)] (by rfl) rfl rfl (by (try simp only [List.map_toArray, List.map_cons, List.map_nil]); rfl) ?_
          refine (HLEN.out _ HA2.out.net).mono ?_
          rintro e w' ⟨rfl, rfl⟩
          refine ⟨_, rfl, ?_⟩
          refine hK.out _ _ hHeld (fun hHeld => ?_)
          clear hK K
          try (refine norm_ (a' := ?_) ?_ ?_; rotate_left; focus (simp only [Act.put, List.setIfInBounds_toArray, List.set_cons_zero, List.set_cons_succ, i64_w, i32_w]; rfl))
          refine pure_ (i := 13) (N := some 171) (v := .int .i64 (pj + cj)) (a' := ?_) #[true, true, true, true, true, true, true, true, true, true, true, true, true, true, false, false, false, false, false, false, false, false] rfl rfl (by kernel_rfl) (fun _ _ _ h => h) (Or.inl ⟨by rfl, ?_⟩) ?_ ?_
          · intro w'
            go_simp
            try (with_reducible rfl)
          rotate_left
          · simp only [Act.put, List.setIfInBounds_toArray, List.set_cons_zero, List.set_cons_succ, i64_w, i32_w]
            rfl
          refine pure_ (i := 14) (N := some 172) (v := .bool false) (a' := ?_) #[true, true, true, true, true, true, true, true, true, true, true, true, true, true, true, false, false, false, false, false, false, false] rfl rfl (by kernel_rfl) (fun _ _ _ h => h) (Or.inl ⟨by rfl, ?_⟩) ?_ ?_
          · intro w'
            go_simp
            try (with_reducible rfl)
          rotate_left
          · simp only [Act.put, List.setIfInBounds_toArray, List.set_cons_zero, List.set_cons_succ, i64_w, i32_w]
            rfl
          refine pure_ (i := 15) (N := some 173) (v := .bool false) (a' := ?_) #[true, true, true, true, true, true, true, true, true, true, true, true, true, true, true, true, false, false, false, false, false, false] rfl rfl (by kernel_rfl) (fun _ _ _ h => h) (Or.inl ⟨by rfl, ?_⟩) ?_ ?_
          · intro w'
            go_simp
            try (with_reducible rfl)
          rotate_left
          · simp only [Act.put, List.setIfInBounds_toArray, List.set_cons_zero, List.set_cons_succ, i64_w, i32_w]
            rfl
          refine pure_ (i := 16) (N := some 174) (v := .pointer (some ⟨g, 0, none⟩)) (a' := ?_) #[true, true, true, true, true, true, true, true, true, true, true, true, true, true, true, true, true, false, false, false, false, false] rfl rfl (by kernel_rfl) (fun _ _ _ h => h) (Or.inl ⟨by rfl, ?_⟩) ?_ ?_
          · intro w'
            go_simp
            try (with_reducible rfl)
          rotate_left
          · simp only [Act.put, List.setIfInBounds_toArray, List.set_cons_zero, List.set_cons_succ, i64_w, i32_w]
            rfl
          refine pure_ (i := 17) (N := some 175) (v := .int .i64 (j : Int)) (a' := ?_) #[true, true, true, true, true, true, true, true, true, true, true, true, true, true, true, true, true, true, false, false, false, false] rfl rfl (by kernel_rfl) (fun _ _ _ h => h) (Or.inl ⟨by rfl, ?_⟩) ?_ ?_
          · intro w'
            go_simp
            try (with_reducible rfl)
          rotate_left
          · simp only [Act.put, List.setIfInBounds_toArray, List.set_cons_zero, List.set_cons_succ, i64_w, i32_w]
            rfl
          refine pure_ (i := 19) (N := some 177) (v := .int .i64 room) (a' := ?_) #[true, true, true, true, true, true, true, true, true, true, true, true, true, true, true, true, true, true, false, true, false, false] rfl rfl (by kernel_rfl) (fun _ _ _ h => h) (Or.inl ⟨by rfl, ?_⟩) ?_ ?_
          · intro w'
            go_simp
            try (with_reducible rfl)
          rotate_left
          · simp only [Act.put, List.setIfInBounds_toArray, List.set_cons_zero, List.set_cons_succ, i64_w, i32_w]
            rfl
          refine one_ (i := 18) (N := some 176) #[true, true, true, true, true, true, true, true, true, true, true, true, true, true, true, true, true, true, true, true, false, false] rfl rfl (by kernel_rfl) (by decide) (fun K hK => ?_)
          refine goes_ Try.func13 (by kernel_rfl) rfl #[.pointer (some ⟨g, 0, none⟩), .int .i64 (j : Int)] (by rfl) rfl rfl (by (try simp only [List.map_toArray, List.map_cons, List.map_nil]); rfl) ?_
          refine (HLEN.out _ HA2.out.net).mono ?_
          rintro e w' ⟨rfl, rfl⟩
          refine ⟨_, rfl, ?_⟩
          refine hK.out _ _ hHeld (fun hHeld => ?_)
          clear hK K
          try (refine norm_ (a' := ?_) ?_ ?_; rotate_left; focus (simp only [Act.put, List.setIfInBounds_toArray, List.set_cons_zero, List.set_cons_succ, i64_w, i32_w]; rfl))
          refine pure_ (i := 20) (N := some 178) (v := .bool false) (a' := ?_) #[true, true, true, true, true, true, true, true, true, true, true, true, true, true, true, true, true, true, true, true, true, false] rfl rfl (by kernel_rfl) (fun _ _ _ h => h) (Or.inl ⟨by rfl, ?_⟩) ?_ ?_
          · intro w'
            go_simp
            try (with_reducible rfl)
          rotate_left
          · simp only [Act.put, List.setIfInBounds_toArray, List.set_cons_zero, List.set_cons_succ, i64_w, i32_w]
            rfl
          refine pure_ (i := 21) (N := some 179) (v := .bool false) (a' := ?_) #[true, true, true, true, true, true, true, true, true, true, true, true, true, true, true, true, true, true, true, true, true, true] rfl rfl (by kernel_rfl) (fun _ _ _ h => h) (Or.inl ⟨by rfl, ?_⟩) ?_ ?_
          · intro w'
            go_simp
            try (with_reducible rfl)
          rotate_left
          · simp only [Act.put, List.setIfInBounds_toArray, List.set_cons_zero, List.set_cons_succ, i64_w, i32_w]
            rfl
          refine done_ (by kernel_rfl) ?_
          clear i1 i2 i3 s1 s2 s3 s4
          have s7 : IntKind.i64.wrap ((i : Int) + 1) = ((i + 1 : Nat) : Int) := by rw [IntWalk.i64_in _ (by have := HI.out; omega)]; rfl
          go_wp2_with fail
          go_roundg (l.length - i)
          case measure => have := HI.out; omega
          case rel => exact ⟨i + 1, O9, n9, k9, D9, c9, t9, p9, by first | rfl | (rw [← s7]; done) | (simp [s7]; done), Lib.hid (by have := HI.out; omega), HA2, HV, HK⟩
      · have HOUT := Lib.hid HA0.out.out
        have hi := HI0.out
        by_cases hq : i < l.length
        · have p2 : ((i : Int) < (l.length : Int)) = True := eq_true (by omega)
          have p4 : (i < l.length) = True := eq_true hq
          have p3 : ((i : Int) < 200) = False := eq_false (by omega)
          have p5 : (i < 200) = False := eq_false (by omega)
          clear hi hq hlt HA0 HV0 HI0 HK0
          go_wp2_with fail
          go_ret
          exact ⟨rfl, HOUT.out⟩
        · have p2 : ((i : Int) < (l.length : Int)) = False := eq_false (by omega)
          have p4 : (i < l.length) = False := eq_false hq
          clear hi hq hlt HA0 HV0 HI0 HK0
          go_wp2_with fail
          go_ret
          exact ⟨rfl, HOUT.out⟩
  · have H1 : Hid (room < 1 ∨ 1000 < room) := by show _ ∨ _; omega
    clear hroom
    refine (net_New_no room _ H1.out).mono ?_
    rintro e w3 ⟨rfl, rfl⟩
    go_wp2_with fail
    go_ret
    exact ⟨rfl, B1.out⟩

def lessorlaw22_NetOnly.f (a0 : Int) (l1 : List NsO) : Option Bool := if l1.length ≤ 9223372036854775807 then some true else none
theorem lessorlaw22_NetOnly.calls (a0 : Int) (A1 : Option Addr) (c1 : Nat) (l1 : List NsO) (r : Bool) (w : World) (hr1 : Kd.C k40 w A1 l1.length l1) (hc1 : l1.length ≤ c1) (h : lessorlaw22_NetOnly.f a0 l1 = some r) :
    Calls Try.prog 5 #[.int .i64 a0, .slice A1 l1.length c1] w fun e w' => e = .returned (.bool r) ∧ Below w.heap.size w w' := by
  unfold lessorlaw22_NetOnly.f at h
  split at h
  case isFalse => cases h
  rename_i hc
  obtain rfl : true = r := Option.some.inj h
  exact NetOnly_calls a0 A1 c1 l1 w hr1 hc1 hc
end Go.Proofs.Ytokcplapbjhnoaa
