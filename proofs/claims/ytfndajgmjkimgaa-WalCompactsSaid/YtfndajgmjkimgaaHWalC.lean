/-
  WalCompacts: a log that was compacted has just the records that were put in their place, and these last. No condition.
-/
import Derived.Test.YtfndajgmjkimgaaHWalBase
import Derived.Test.YtfndajgmjkimgaaPrF15
namespace Go.Proofs.Ytfndajgmjkimgaa
open Go.RowKit Go.Proofs.Ytfndajgmjkimgaa.Pr Go.Proofs.Ytfndajgmjkimgaa.FrL Go.Proofs.YtfndajgmjkimgaaW.PrintWords Go.Proofs.YtfndajgmjkimgaaW.PrintLast Go.Proofs.YtfndajgmjkimgaaW.PrintMore
attribute [local go_sem] max2_int min2_int max_two min_two max_three min_three max_four min_four
set_option linter.unusedVariables false
set_option linter.unusedSimpArgs false

theorem dk_types : ¬ (64 ∈ (33 :: (Kd.slice 5 (Kd.int .u8)).E)) := by
  intro h
  rcases List.mem_cons.1 h with h | h
  · exact absurd h (by decide)
  · rcases List.mem_cons.1 h with h | h
    · exact absurd h (by decide)
    · cases h

set_option maxHeartbeats 8000000 in
set_option maxRecDepth 100000 in
theorem WalCompacts_calls (room : Int) (A : Option Addr) (c : Nat) (l : List WsE) (Al : Option Addr) (cl : Nat) (ll : List (List Int)) (w : World) (hC : Kd.C k55 w A l.length l) (hc : l.length ≤ c) (hl : l.length ≤ 9223372036854775807) (hs : ∀ x ∈ l, wsOk x) (hL : (Kd.slice 5 (Kd.int .u8)).C w Al ll.length ll) (hcl : ll.length ≤ cl) (hby : ∀ x ∈ ll, ∀ y ∈ x, 0 ≤ y ∧ y ≤ 255) :
    Calls Try.prog 5 #[.int .i64 room, .slice A l.length c, .slice Al ll.length cl] w fun e w' => e = .returned (.bool true) ∧ Below w.heap.size w w' := by
  have HC := Lib.hid hC
  have HS := Lib.hid hs
  clear hC hs
  have HLL := Lib.hid hL
  have HBY := Lib.hid hby
  clear hL hby
  go_enter Try.func5, Try.ntmps5
  go_wp2_with (go_at_call 8; refine (wawake_calls _).mono ?_; rintro e w1 ⟨rfl, b1⟩; have B1 := Lib.hid b1; clear b1)
  obtain ⟨r, hr, hlong⟩ := wlong_any l hl A c w1 (Kd.C_below HC.out B1.out) hc
  refine hlong.mono ?_
  rintro e w2 ⟨rfl, hdr⟩
  have B2 := Lib.hid (B1.out.trans (hdr.below.mono B1.out.size))
  have HR := Lib.hid hr
  clear hr hlong hdr
  by_cases hroom : 1 ≤ room ∧ room ≤ 1048576
  · obtain ⟨h1, h2⟩ := hroom
    have B3 : Hid (∀ o, Below w.heap.size w (w2.alloc o)) := fun o => below_alloc B2.out o
    have B4 : Hid (∀ o o', Below w.heap.size w ((w2.alloc o).alloc o')) := fun o o' => below_alloc (below_alloc B2.out o) o'
    have BO : Hid (Both ((w2.alloc (.cells #[.int .i64 room, .slice none 0 0, .int .i64 0, .int .i64 (-1)] 64)).alloc (.cells #[.int .i64 room, .slice none 0 0, .int .i64 0, .int .i64 (-1)] 61)) w2.heap.size (w2.heap.size + 1) (DkS.new room)) := by
      refine ⟨(new_at _ _ room w2).alloc _, ?_⟩
      have := new_at 61 5 room (w2.alloc (.cells #[.int .i64 room, .slice none 0 0, .int .i64 0, .int .i64 (-1)] 64))
      rwa [World.size_alloc] at this
    have OK0 := Lib.hid (DkS.ok_new h1 h2)
    have hge : w.heap.size ≤ w2.heap.size := B2.out.size
    cases r with
    | true =>
      go_wp2_with (first
        | (go_at_call 9; refine (disk_New_ok room _ h1 h2).mono ?_; rintro e w3 ⟨rfl, rfl⟩)
        | (go_at_call 18; refine (ref_New_ok room _ h1 h2).mono ?_; rintro e w4 ⟨rfl, rfl⟩)
        | fail)
      go_ret
      exact ⟨rfl, B3.out _⟩
    | false =>
      have hsm := HR.out rfl
      obtain ⟨hsm1, hsm2⟩ := hsm
      have HSM := Lib.hid hsm1
      clear hsm1
      by_cases hb2 : 20 < ll.length
      · have tb : decide (20 < (ll.length : Int)) = true := decide_eq_true (by omega)
        go_wp2_with (first
          | (go_at_call 9; refine (disk_New_ok room _ h1 h2).mono ?_; rintro e w3 ⟨rfl, rfl⟩)
          | fail)
        go_ret
        exact ⟨rfl, B3.out _⟩
      have hll : ll.length ≤ 20 := by omega
      have tb : decide (20 < (ll.length : Int)) = false := decide_eq_false (by omega)
      clear hb2
      go_wp2_with (first
        | (go_at_call 9; refine (disk_New_ok room _ h1 h2).mono ?_; rintro e w3 ⟨rfl, rfl⟩)
        | (go_at_call 18; refine (ref_New_ok room _ h1 h2).mono ?_; rintro e w4 ⟨rfl, rfl⟩)
        | fail)
      obtain ⟨g, hg⟩ : ∃ g, w2.heap.size = g := ⟨_, rfl⟩
      obtain ⟨h, hh⟩ : ∃ h, g + 1 = h := ⟨_, rfl⟩
      obtain ⟨W4, hW4⟩ : ∃ W4, (w2.alloc (.cells #[.int .i64 room, .slice none 0 0, .int .i64 0, .int .i64 (-1)] 64)).alloc (.cells #[.int .i64 room, .slice none 0 0, .int .i64 0, .int .i64 (-1)] 61) = W4 := ⟨_, rfl⟩
      have B5 := Lib.hid (B4.out (.cells #[.int .i64 room, .slice none 0 0, .int .i64 0, .int .i64 (-1)] 64) (.cells #[.int .i64 room, .slice none 0 0, .int .i64 0, .int .i64 (-1)] 61))
      rw [hg, hh, hW4] at BO
      rw [hW4] at B5
      rw [hg, hh, hW4]
      have GE : Hid (w.heap.size ≤ g ∧ w.heap.size ≤ h) := by exact ⟨by omega, by omega⟩
      clear hg hh hW4 hge B4 B3
      refine (wal_Open g _ _ BO.out.dk OK0.out).mono ?_
      rw [open_new]
      rintro e w5 ⟨p, rfl, h5, f5, h6, _⟩
      obtain ⟨l5, hl5, rfl, lk5⟩ := h6 rfl
      have LK5 := Lib.hid lk5
      have H5 := Lib.hid h5
      have F5 := Lib.hid f5
      have B6 := Lib.hid (below_fr B5.out f5 B5.out.size (fun j hj => by rw [hj]; exact GE.out.1))
      have HM5 := Lib.hid (BO.out.mid f5)
      clear h5 f5 h6 hl5 lk5
      go_wp2_with fail
      refine (ref_Open h _ _ HM5.out OK0.out).mono ?_
      rw [open_new]
      rintro e w6 ⟨p, rfl, h7, f7, h8, _⟩
      obtain ⟨l6, hl6, rfl, lk6⟩ := h8 rfl
      have hne5 : l5 ≠ h := by obtain ⟨u, hu, _⟩ := HM5.out; exact blk_ne LK5.out hu (by decide)
      have LO : Hid (Logs w6 g h l5 l6 (DkS.new room)) := ⟨BO.out.after H5.out F5.out h7 f7, f7.blk LK5.out hne5, lk6⟩
      have B7 := Lib.hid (below_fr B6.out f7 B6.out.size (fun j hj => by rw [hj]; exact GE.out.2))
      clear h7 f7 h8 hl6 lk6 hne5 HM5 LK5 H5 F5 BO B5 B6
      go_wp2_with fail
      go_loopw [13, 15, 17] (fun vx vy i wr => ∃ (k gl hl : Nat), k ≤ l.length ∧ i = .int .i64 k ∧ vx = .pointer (some ⟨gl, 0, none⟩) ∧ vy = .pointer (some ⟨hl, 0, none⟩) ∧ Hid (Logs wr g h gl hl (wruns (DkS.new room) (l.take k))) ∧ Hid (Below w.heap.size w wr)) (fun _ _ i _ => l.length - (intOf i).toNat)
      case atStart => exact ⟨0, l5, l6, Nat.zero_le _, rfl, rfl, rfl, by simpa [wruns] using LO, B7⟩
      case round =>
        clear LO B7
        obtain ⟨k, gl, hl', hk, rfl, rfl, rfl, HB, HW⟩ := hrel
        by_cases hlt : k < l.length
        · obtain ⟨ad, A2, c2, A3, c3, rfl, hx0, hx1, hx2, hx3, hxl, hxc, hyl, hyc⟩ := at_ws HC.out hlt
          obtain ⟨x, hx⟩ : ∃ x, x = l[k] := ⟨_, rfl⟩
          rw [← hx] at hx0 hx1 hx2 hx3 hxl hxc hyl hyc
          have hxm : x.f3.length ≤ 20 := by rw [hx]; exact HSM.out _ (List.getElem_mem hlt)
          have OKD := Lib.hid (wruns_ok OK0.out (l := l.take k) (fun y hy => HS.out y (List.mem_of_mem_take hy)))
          have OKN := Lib.hid (wruns_ok OK0.out (l := l.take (k + 1)) (fun y hy => HS.out y (List.mem_of_mem_take hy)))
          have ER := Lib.hid (wruns_succ (DkS.new room) l hlt)
          rw [← hx] at ER
          obtain ⟨d, hd⟩ : ∃ d, d = wruns (DkS.new room) (l.take k) := ⟨_, rfl⟩
          obtain ⟨d', hd'⟩ : ∃ d', d' = wruns (DkS.new room) (l.take (k + 1)) := ⟨_, rfl⟩
          rw [← hd] at HB OKD ER
          rw [← hd'] at OKN ER
          have HD' := Lib.hid hd'
          clear hd hd' hx
          replace hx0 := (HW.out.cell (World.block_lt_of_cell? w _ hx0)).trans hx0
          replace hx1 := (HW.out.cell (World.block_lt_of_cell? w _ hx1)).trans hx1
          replace hx2 := (HW.out.cell (World.block_lt_of_cell? w _ hx2)).trans hx2
          replace hx3 := (HW.out.cell (World.block_lt_of_cell? w _ hx3)).trans hx3
          have HXC : Hid (∀ W, Fr wr W (fun k => k = g ∨ k = h) → (Kd.int .u8).C W A2 x.f2.length x.f2) := fun W hW => row_fr hxc HW.out hW (fun j hj => by rcases hj with rfl | rfl; exact GE.out.1; exact GE.out.2)
          have HYC : Hid (∀ W, Fr wr W (fun k => k = g ∨ k = h) → (Kd.slice 5 (Kd.int .u8)).C W A3 x.f3.length x.f3) := fun W hW => row_fr hyc HW.out hW (fun j hj => by rcases hj with rfl | rfl; exact GE.out.1; exact GE.out.2)
          have p1 : (0 ≤ (k : Int)) = True := eq_true (by omega)
          have p2 : ((k : Int) < (l.length : Int)) = True := eq_true (by omega)
          clear hxc hyc
          go_wp2_with (first
            | (go_at_call 20; refine (wstep_calls g h gl hl' d x.f0 x.f1 A2 c2 x.f2 A3 c3 x.f3 _ HB.out OKD.out HXC.out hxl HYC.out hyl hxm).mono ?_; rintro e wa ⟨gl2, hl2, rfl, hb, hf⟩; rw [← ER.out] at hb; have HB2 := Lib.hid hb; have HW2 := Lib.hid (below_fr HW.out hf HW.out.size (fun j hj => by rcases hj with rfl | rfl; exact GE.out.1; exact GE.out.2)); clear hb hf hx0 hx1 hx2 hx3)
            | fail)
          go_roundw
          case rel =>
            refine ⟨k + 1, gl2, hl2, by omega, by go_num, rfl, rfl, ?_, HW2⟩
            show Logs _ _ _ _ _ _
            rw [← HD'.out]
            exact HB2.out
          case measure => simp [intOf]; omega
        · obtain rfl : k = l.length := by omega
          have OKD := Lib.hid (wruns_ok OK0.out (l := l.take l.length) (fun y hy => HS.out y (List.mem_of_mem_take hy)))
          have FRD := Lib.hid (framed_runs (framed_new room) OK0.out (l := l.take l.length) (fun y hy => HS.out y (List.mem_of_mem_take hy)))
          obtain ⟨d, hd⟩ : ∃ d, d = wruns (DkS.new room) (l.take l.length) := ⟨_, rfl⟩
          rw [← hd] at HB OKD FRD
          clear hd
          obtain ⟨R, hR1, hR2⟩ := FRD.out
          have HR1 := Lib.hid hR1
          have HR2 := Lib.hid hR2
          have EREC : Hid (d.recs = R) := (framed_recs hR1 hR2).1
          have HRL : Hid (R.length ≤ 1048576) := by show _ ≤ _; rw [← EREC.out]; exact recs_len OKD.out
          clear hR1 hR2 FRD

          have OKN := Lib.hid (ok_compact OKD.out HBY.out)
          obtain ⟨cd, hcd⟩ : ∃ cd, cd = (d.compact ll).1 := ⟨_, rfl⟩
          obtain ⟨d2, hd2⟩ : ∃ d2, d2 = (d.compact ll).2 := ⟨_, rfl⟩
          have CC := Lib.hid (compact_cases d ll)
          rw [← hcd, ← hd2] at CC
          rw [← hd2] at OKN
          have HCD := Lib.hid hcd
          have HD2 := Lib.hid hd2
          clear hcd hd2
          go_wp2_with fail
          refine (wal_Records gl g d _ HB.out.lk HB.out.b.dk OKD.out).mono ?_
          rw [EREC.out]
          rintro e wb ⟨v1, rfl, hv1, hb1⟩
          have HB3 := Lib.hid (HB.out.below hb1)
          have HW3 := Lib.hid (HW.out.trans (hb1.mono HW.out.size))
          have HV1 := Lib.hid (Kd.R_lower hv1 (Nat.zero_le _))
          clear hv1 hb1
          go_wp2_with fail
          refine (wal_Compact gl g d Al cl ll _ HB3.out.lk HB3.out.b.dk OKD.out (Kd.C_below HLL.out HW3.out) hcl hll).mono ?_
          rw [← HCD.out, ← HD2.out]
          rintro e wc ⟨rfl, h4, f4⟩
          have D4 := Lib.hid h4
          have L4 := Lib.hid (f4.blk HB3.out.lk HB3.out.nes.1)
          have HW4 := Lib.hid (below_fr HW3.out f4 HW3.out.size (fun j hj => by rw [hj]; exact GE.out.1))
          have HV4 : Hid ((Kd.slice 5 (Kd.int .u8)).R 33 wc 0 (fun _ => True) v1 R) := R_fr HV1.out f4 (by
            rintro i rfl _ q hq cs hc
            obtain ⟨u, hu, _⟩ := HB3.out.b.dk
            rw [hu] at hc
            obtain ⟨_, rfl, _⟩ := Obj.cells.inj (Option.some.inj hc)
            revert hq
            exact dk_types)
          clear h4 f4
          by_cases hc0 : cd = 0
          · subst hc0
            have hcc : (∀ x ∈ ll, rOk x) ∧ d2.b = puts ll ∧ d2.last = ((puts ll).length : Int) := by
              rcases CC.out with ⟨h, _⟩ | ⟨_, h⟩
              · exact absurd rfl h
              · exact h
            have HCC := Lib.hid hcc
            have ES : Hid ((d2.crash 0).b = puts ll) := by show _ = _; rw [crash_sure (by rw [hcc.2.1, hcc.2.2]), hcc.2.1]
            obtain ⟨d3, hd3⟩ : ∃ d3, d3 = d2.crash 0 := ⟨_, rfl⟩
            have OK3 := Lib.hid (DkS.ok_crash OKN.out 0)
            rw [← hd3] at ES OK3
            have HD3 := Lib.hid hd3
            have EO : Hid (d3.open = (0, d3)) := by
              show _ = _
              have := (framed_recs HCC.out.1 ES.out).2
              unfold DkS.open
              rw [this, if_neg (by omega)]
            have EREC3 : Hid (d3.recs = ll) := (framed_recs HCC.out.1 ES.out).1
            clear hcc hd3
            go_wp2_with fail
            refine (disk_Crash g d2 0 _ D4.out OKN.out).mono ?_
            rw [← HD3.out]
            rintro e w5' ⟨rfl, h5, f5⟩
            have D5 := Lib.hid h5
            have HW5 := Lib.hid (below_fr HW4.out f5 HW4.out.size (fun j hj => by rw [hj]; exact GE.out.1))
            clear h5 f5
            go_wp2_with fail
            refine (wal_Open g d3 _ D5.out OK3.out).mono ?_
            rw [EO.out]
            rintro e w6' ⟨p, rfl, h6, f6, h7, _⟩
            obtain ⟨l6, hl6, rfl, lk6⟩ := h7 rfl
            have D6 := Lib.hid h6
            have L6 := Lib.hid lk6
            have HW6 := Lib.hid (below_fr HW5.out f6 HW5.out.size (fun j hj => by rw [hj]; exact GE.out.1))
            clear h6 f6 h7 hl6 lk6
            go_wp2_with fail
            refine (wal_Records l6 g d3 _ L6.out D6.out OK3.out).mono ?_
            rw [EREC3.out]
            rintro e w7' ⟨v7, rfl, hv7, hb7⟩
            obtain ⟨R7, q7, rfl, hq7, hC7⟩ := Kd.R_reads hv7
            have HC7 := Lib.hid hC7
            have HQ7 := Lib.hid hq7
            have D7 := Lib.hid (D6.out.below hb7)
            have L7 := Lib.hid (blk_below L6.out hb7)
            have HW7 := Lib.hid (HW6.out.trans (hb7.mono HW6.out.size))
            clear hv7 hb7 hC7 hq7
            go_wp2_with fail
            refine (lessorref09_Same.calls (ll.length + 3) R7 q7 ll Al cl ll true _ HC7.out HQ7.out (Kd.C_below HLL.out HW7.out) hcl (sameL _ (by omega) _ (by omega))).mono ?_
            rintro e w8' ⟨rfl, hdr⟩
            have D8 := Lib.hid (D7.out.below hdr.below)
            have L8 := Lib.hid (blk_below L7.out hdr.below)
            have HW8 := Lib.hid (HW7.out.trans (hdr.below.mono HW7.out.size))
            clear hdr
            go_wp2_with fail
            refine (wal_Len l6 g d3 _ L8.out D8.out OK3.out).mono ?_
            rw [EREC3.out]
            rintro e w9' ⟨rfl, hb9⟩
            have HW9 := Lib.hid (HW8.out.trans (hb9.mono HW8.out.size))
            clear hb9
            go_wp2_with fail
            go_ret
            exact ⟨rfl, HW9.out⟩
          · have t2 : (cd != 0) = true := bne_iff_ne.2 hc0
            have eb : d2.b = d.b := by
              rcases CC.out with ⟨_, h⟩ | ⟨h, _⟩
              · exact h
              · exact absurd h hc0
            have EREC2 : Hid (d2.recs = R) := (framed_recs HR1.out (eb.trans HR2.out)).1
            clear eb hc0
            obtain ⟨R4, q4, e4, hq4, hC4⟩ := Kd.R_reads HV4.out
            subst e4
            have HC4 := Lib.hid hC4
            have HQ4 := Lib.hid hq4
            clear hC4 hq4
            go_wp2_with fail
            refine (wal_Records gl g d2 _ L4.out D4.out OKN.out).mono ?_
            rw [EREC2.out]
            rintro e w7' ⟨v7, rfl, hv7, hb7⟩
            obtain ⟨R7, q7, rfl, hq7, hC7⟩ := Kd.R_reads hv7
            have HC7 := Lib.hid hC7
            have HQ7 := Lib.hid hq7
            have HC5 := Lib.hid (Kd.C_below HC4.out hb7)
            have HW7 := Lib.hid (HW4.out.trans (hb7.mono HW4.out.size))
            clear hv7 hb7 hC7 hq7
            go_wp2_with fail
            refine (lessorref09_Same.calls (R.length + 3) R7 q7 R R4 q4 R true _ HC7.out HQ7.out HC5.out HQ4.out (sameL _ (by have := HRL.out; omega) _ (by omega))).mono ?_
            rintro e w8' ⟨rfl, hdr⟩
            have HW8 := Lib.hid (HW7.out.trans (hdr.below.mono HW7.out.size))
            clear hdr
            go_wp2_with fail
            go_ret
            exact ⟨rfl, HW8.out⟩
  · have h1 : room < 1 ∨ 1048576 < room := by omega
    have H1 := Lib.hid h1
    clear h1 hroom
    cases r with
    | true =>
      go_wp2_with (first
        | (go_at_call 9; refine (disk_New_no room _ H1.out).mono ?_; rintro e w3 ⟨rfl, rfl⟩)
        | (go_at_call 18; refine (ref_New_no room _ H1.out).mono ?_; rintro e w4 ⟨rfl, rfl⟩)
        | fail)
      go_ret
      exact ⟨rfl, B2.out⟩
    | false =>
      go_wp2_with (first
        | (go_at_call 9; refine (disk_New_no room _ H1.out).mono ?_; rintro e w3 ⟨rfl, rfl⟩)
        | (go_at_call 18; refine (ref_New_no room _ H1.out).mono ?_; rintro e w4 ⟨rfl, rfl⟩)
        | fail)
      go_ret
      exact ⟨rfl, B2.out⟩

def lessorlaw10_WalCompacts.f (a0 : Int) (l1 : List WsE) (l2 : List (List Int)) : Option Bool := if l1.length ≤ 9223372036854775807 ∧ (∀ x ∈ l1, wsOk x) ∧ ∀ x ∈ l2, ∀ y ∈ x, 0 ≤ y ∧ y ≤ 255 then some true else none
theorem lessorlaw10_WalCompacts.calls (a0 : Int) (A1 : Option Addr) (c1 : Nat) (l1 : List WsE) (A2 : Option Addr) (c2 : Nat) (l2 : List (List Int)) (r : Bool) (w : World) (hr1 : Kd.C k55 w A1 l1.length l1) (hc1 : l1.length ≤ c1) (hr2 : (Kd.slice 5 (Kd.int .u8)).C w A2 l2.length l2) (hc2 : l2.length ≤ c2) (h : lessorlaw10_WalCompacts.f a0 l1 l2 = some r) :
    Calls Try.prog 5 #[.int .i64 a0, .slice A1 l1.length c1, .slice A2 l2.length c2] w fun e w' => e = .returned (.bool r) ∧ Below w.heap.size w w' := by
  unfold lessorlaw10_WalCompacts.f at h
  split at h
  case isFalse => cases h
  rename_i hc
  obtain rfl : true = r := Option.some.inj h
  exact WalCompacts_calls a0 A1 c1 l1 A2 c2 l2 w hr1 hc1 hc.1 hc.2.1 hr2 hc2 hc.2.2

end Go.Proofs.Ytfndajgmjkimgaa
