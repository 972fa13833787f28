/-
  WalRefuses: what was refused changes nothing; what was appended is the last record. No condition.
-/
import Derived.Test.YtfndajgmjkimgaaHWalBase
import Derived.Test.YtfndajgmjkimgaaPrF15
namespace Go.Proofs.Ytfndajgmjkimgaa
open Go.RowKit Go.Proofs.Ytfndajgmjkimgaa.Pr Go.Proofs.Ytfndajgmjkimgaa.FrL Go.Proofs.YtfndajgmjkimgaaW.PrintWords Go.Proofs.YtfndajgmjkimgaaW.PrintLast Go.Proofs.YtfndajgmjkimgaaW.PrintMore
attribute [local go_sem] max2_int min2_int max_two min_two max_three min_three max_four min_four
set_option linter.unusedVariables false
set_option linter.unusedSimpArgs false

theorem dk_types : ¬ (64 ∈ (33 :: (Kd.slice 5 (Kd.int .u8)).E)) := by
  intro h
  rcases List.mem_cons.1 h with h | h
  · exact absurd h (by decide)
  · rcases List.mem_cons.1 h with h | h
    · exact absurd h (by decide)
    · cases h
theorem take_rows (A : Option Addr) (c : Nat) (n : Nat) (j : Nat) (hj : j ≤ n) (hc : n ≤ c) (W : World) : (Instr.slice 23 (.slice A n c) none (some (.int .i64 (j : Int))) none).run Try.prog W = .ok (.slice A j c) W := by
  have hi : (Try.prog.info? 33).map (fun i => i.size) = some 1 := by kernel_rfl
  obtain ⟨i0, hi, hz1⟩ := Option.map_eq_some_iff.1 hi
  have hel : Try.prog.elem 23 = 33 := by kernel_rfl
  have hu : Try.prog.underlying 23 = some (.slice (Try.prog.elem 23)) := by rw [hel]; exact Try.underlying23
  have ha : (A.map fun x => x.add 0) = A := by cases A <;> simp [Addr.add]
  rw [run_slice_h W 23 A n c hu .i64 (j : Int) (by omega) (by omega), hel]
  simp [sizeOf, typeInfo, hi, hz1, sliced, Result.andThen, ha]

set_option maxHeartbeats 8000000 in
set_option maxRecDepth 100000 in
theorem WalRefuses_calls (room : Int) (A : Option Addr) (c : Nat) (l : List WsE) (B : Option Addr) (cb : Nat) (b : List Int) (w : World) (hC : Kd.C k55 w A l.length l) (hc : l.length ≤ c) (hl : l.length ≤ 9223372036854775807) (hs : ∀ x ∈ l, wsOk x) (hB : (Kd.int .u8).C w B b.length b) (hcb : b.length ≤ cb) (hby : ∀ x ∈ b, 0 ≤ x ∧ x ≤ 255) :
    Calls Try.prog 6 #[.int .i64 room, .slice A l.length c, .slice B b.length cb] w fun e w' => e = .returned (.bool true) ∧ Below w.heap.size w w' := by
  have HC := Lib.hid hC
  have HS := Lib.hid hs
  clear hC hs
  have HBB := Lib.hid hB
  have HBY := Lib.hid hby
  clear hB hby
  go_enter Try.func6, Try.ntmps6
  go_wp2_with (go_at_call 8; refine (wawake_calls _).mono ?_; rintro e w1 ⟨rfl, b1⟩; have B1 := Lib.hid b1; clear b1)
  obtain ⟨r, hr, hlong⟩ := wlong_any l hl A c w1 (Kd.C_below HC.out B1.out) hc
  refine hlong.mono ?_
  rintro e w2 ⟨rfl, hdr⟩
  have B2 := Lib.hid (B1.out.trans (hdr.below.mono B1.out.size))
  have HR := Lib.hid hr
  clear hr hlong hdr
  by_cases hroom : 1 ≤ room ∧ room ≤ 1048576
  · obtain ⟨h1, h2⟩ := hroom
    have B3 : Hid (∀ o, Below w.heap.size w (w2.alloc o)) := fun o => below_alloc B2.out o
    have B4 : Hid (∀ o o', Below w.heap.size w ((w2.alloc o).alloc o')) := fun o o' => below_alloc (below_alloc B2.out o) o'
    have BO : Hid (Both ((w2.alloc (.cells #[.int .i64 room, .slice none 0 0, .int .i64 0, .int .i64 (-1)] 64)).alloc (.cells #[.int .i64 room, .slice none 0 0, .int .i64 0, .int .i64 (-1)] 61)) w2.heap.size (w2.heap.size + 1) (DkS.new room)) := by
      refine ⟨(new_at _ _ room w2).alloc _, ?_⟩
      have := new_at 61 5 room (w2.alloc (.cells #[.int .i64 room, .slice none 0 0, .int .i64 0, .int .i64 (-1)] 64))
      rwa [World.size_alloc] at this
    have OK0 := Lib.hid (DkS.ok_new h1 h2)
    have hge : w.heap.size ≤ w2.heap.size := B2.out.size
    cases r with
    | true =>
      go_wp2_with (first
        | (go_at_call 9; refine (disk_New_ok room _ h1 h2).mono ?_; rintro e w3 ⟨rfl, rfl⟩)
        | (go_at_call 18; refine (ref_New_ok room _ h1 h2).mono ?_; rintro e w4 ⟨rfl, rfl⟩)
        | fail)
      go_ret
      exact ⟨rfl, B3.out _⟩
    | false =>
      have hsm := HR.out rfl
      obtain ⟨hsm1, hsm2⟩ := hsm
      have HSM := Lib.hid hsm1
      clear hsm1
      by_cases hb2 : 1100 < b.length
      · have tb : decide (1100 < (b.length : Int)) = true := decide_eq_true (by omega)
        go_wp2_with (first
          | (go_at_call 9; refine (disk_New_ok room _ h1 h2).mono ?_; rintro e w3 ⟨rfl, rfl⟩)
          | fail)
        go_ret
        exact ⟨rfl, B3.out _⟩
      have hbl : b.length ≤ 1100 := by omega
      have tb : decide (1100 < (b.length : Int)) = false := decide_eq_false (by omega)
      clear hb2
      go_wp2_with (first
        | (go_at_call 9; refine (disk_New_ok room _ h1 h2).mono ?_; rintro e w3 ⟨rfl, rfl⟩)
        | (go_at_call 18; refine (ref_New_ok room _ h1 h2).mono ?_; rintro e w4 ⟨rfl, rfl⟩)
        | fail)
      obtain ⟨g, hg⟩ : ∃ g, w2.heap.size = g := ⟨_, rfl⟩
      obtain ⟨h, hh⟩ : ∃ h, g + 1 = h := ⟨_, rfl⟩
      obtain ⟨W4, hW4⟩ : ∃ W4, (w2.alloc (.cells #[.int .i64 room, .slice none 0 0, .int .i64 0, .int .i64 (-1)] 64)).alloc (.cells #[.int .i64 room, .slice none 0 0, .int .i64 0, .int .i64 (-1)] 61) = W4 := ⟨_, rfl⟩
      have B5 := Lib.hid (B4.out (.cells #[.int .i64 room, .slice none 0 0, .int .i64 0, .int .i64 (-1)] 64) (.cells #[.int .i64 room, .slice none 0 0, .int .i64 0, .int .i64 (-1)] 61))
      rw [hg, hh, hW4] at BO
      rw [hW4] at B5
      rw [hg, hh, hW4]
      have GE : Hid (w.heap.size ≤ g ∧ w.heap.size ≤ h) := by exact ⟨by omega, by omega⟩
      clear hg hh hW4 hge B4 B3
      refine (wal_Open g _ _ BO.out.dk OK0.out).mono ?_
      rw [open_new]
      rintro e w5 ⟨p, rfl, h5, f5, h6, _⟩
      obtain ⟨l5, hl5, rfl, lk5⟩ := h6 rfl
      have LK5 := Lib.hid lk5
      have H5 := Lib.hid h5
      have F5 := Lib.hid f5
      have B6 := Lib.hid (below_fr B5.out f5 B5.out.size (fun j hj => by rw [hj]; exact GE.out.1))
      have HM5 := Lib.hid (BO.out.mid f5)
      clear h5 f5 h6 hl5 lk5
      go_wp2_with fail
      refine (ref_Open h _ _ HM5.out OK0.out).mono ?_
      rw [open_new]
      rintro e w6 ⟨p, rfl, h7, f7, h8, _⟩
      obtain ⟨l6, hl6, rfl, lk6⟩ := h8 rfl
      have hne5 : l5 ≠ h := by obtain ⟨u, hu, _⟩ := HM5.out; exact blk_ne LK5.out hu (by decide)
      have LO : Hid (Logs w6 g h l5 l6 (DkS.new room)) := ⟨BO.out.after H5.out F5.out h7 f7, f7.blk LK5.out hne5, lk6⟩
      have B7 := Lib.hid (below_fr B6.out f7 B6.out.size (fun j hj => by rw [hj]; exact GE.out.2))
      clear h7 f7 h8 hl6 lk6 hne5 HM5 LK5 H5 F5 BO B5 B6
      go_wp2_with fail
      go_loopw [13, 15, 17] (fun vx vy i wr => ∃ (k gl hl : Nat), k ≤ l.length ∧ i = .int .i64 k ∧ vx = .pointer (some ⟨gl, 0, none⟩) ∧ vy = .pointer (some ⟨hl, 0, none⟩) ∧ Hid (Logs wr g h gl hl (wruns (DkS.new room) (l.take k))) ∧ Hid (Below w.heap.size w wr)) (fun _ _ i _ => l.length - (intOf i).toNat)
      case atStart => exact ⟨0, l5, l6, Nat.zero_le _, rfl, rfl, rfl, by simpa [wruns] using LO, B7⟩
      case round =>
        clear LO B7
        obtain ⟨k, gl, hl', hk, rfl, rfl, rfl, HB, HW⟩ := hrel
        by_cases hlt : k < l.length
        · obtain ⟨ad, A2, c2, A3, c3, rfl, hx0, hx1, hx2, hx3, hxl, hxc, hyl, hyc⟩ := at_ws HC.out hlt
          obtain ⟨x, hx⟩ : ∃ x, x = l[k] := ⟨_, rfl⟩
          rw [← hx] at hx0 hx1 hx2 hx3 hxl hxc hyl hyc
          have hxm : x.f3.length ≤ 20 := by rw [hx]; exact HSM.out _ (List.getElem_mem hlt)
          have OKD := Lib.hid (wruns_ok OK0.out (l := l.take k) (fun y hy => HS.out y (List.mem_of_mem_take hy)))
          have OKN := Lib.hid (wruns_ok OK0.out (l := l.take (k + 1)) (fun y hy => HS.out y (List.mem_of_mem_take hy)))
          have ER := Lib.hid (wruns_succ (DkS.new room) l hlt)
          rw [← hx] at ER
          obtain ⟨d, hd⟩ : ∃ d, d = wruns (DkS.new room) (l.take k) := ⟨_, rfl⟩
          obtain ⟨d', hd'⟩ : ∃ d', d' = wruns (DkS.new room) (l.take (k + 1)) := ⟨_, rfl⟩
          rw [← hd] at HB OKD ER
          rw [← hd'] at OKN ER
          have HD' := Lib.hid hd'
          clear hd hd' hx
          replace hx0 := (HW.out.cell (World.block_lt_of_cell? w _ hx0)).trans hx0
          replace hx1 := (HW.out.cell (World.block_lt_of_cell? w _ hx1)).trans hx1
          replace hx2 := (HW.out.cell (World.block_lt_of_cell? w _ hx2)).trans hx2
          replace hx3 := (HW.out.cell (World.block_lt_of_cell? w _ hx3)).trans hx3
          have HXC : Hid (∀ W, Fr wr W (fun k => k = g ∨ k = h) → (Kd.int .u8).C W A2 x.f2.length x.f2) := fun W hW => row_fr hxc HW.out hW (fun j hj => by rcases hj with rfl | rfl; exact GE.out.1; exact GE.out.2)
          have HYC : Hid (∀ W, Fr wr W (fun k => k = g ∨ k = h) → (Kd.slice 5 (Kd.int .u8)).C W A3 x.f3.length x.f3) := fun W hW => row_fr hyc HW.out hW (fun j hj => by rcases hj with rfl | rfl; exact GE.out.1; exact GE.out.2)
          have p1 : (0 ≤ (k : Int)) = True := eq_true (by omega)
          have p2 : ((k : Int) < (l.length : Int)) = True := eq_true (by omega)
          clear hxc hyc
          go_wp2_with (first
            | (go_at_call 20; refine (wstep_calls g h gl hl' d x.f0 x.f1 A2 c2 x.f2 A3 c3 x.f3 _ HB.out OKD.out HXC.out hxl HYC.out hyl hxm).mono ?_; rintro e wa ⟨gl2, hl2, rfl, hb, hf⟩; rw [← ER.out] at hb; have HB2 := Lib.hid hb; have HW2 := Lib.hid (below_fr HW.out hf HW.out.size (fun j hj => by rcases hj with rfl | rfl; exact GE.out.1; exact GE.out.2)); clear hb hf hx0 hx1 hx2 hx3)
            | fail)
          go_roundw
          case rel =>
            refine ⟨k + 1, gl2, hl2, by omega, by go_num, rfl, rfl, ?_, HW2⟩
            show Logs _ _ _ _ _ _
            rw [← HD'.out]
            exact HB2.out
          case measure => simp [intOf]; omega
        · obtain rfl : k = l.length := by omega
          have OKD := Lib.hid (wruns_ok OK0.out (l := l.take l.length) (fun y hy => HS.out y (List.mem_of_mem_take hy)))
          have FRD := Lib.hid (framed_runs (framed_new room) OK0.out (l := l.take l.length) (fun y hy => HS.out y (List.mem_of_mem_take hy)))
          obtain ⟨d, hd⟩ : ∃ d, d = wruns (DkS.new room) (l.take l.length) := ⟨_, rfl⟩
          rw [← hd] at HB OKD FRD
          clear hd
          obtain ⟨R, hR1, hR2⟩ := FRD.out
          have HR1 := Lib.hid hR1
          have HR2 := Lib.hid hR2
          have EREC : Hid (d.recs = R) := (framed_recs hR1 hR2).1
          have HRL : Hid (R.length ≤ 1048576) := by show _ ≤ _; rw [← EREC.out]; exact recs_len OKD.out
          clear hR1 hR2 FRD

          have OKN := Lib.hid (ok_put OKD.out HBY.out)
          obtain ⟨cd, hcd⟩ : ∃ cd, cd = (d.put b).1 := ⟨_, rfl⟩
          obtain ⟨d2, hd2⟩ : ∃ d2, d2 = (d.put b).2 := ⟨_, rfl⟩
          have CC := Lib.hid (put_cases d b)
          rw [← hcd, ← hd2] at CC
          rw [← hd2] at OKN
          have HCD := Lib.hid hcd
          have HD2 := Lib.hid hd2
          clear hcd hd2
          go_wp2_with fail
          refine (wal_Records gl g d _ HB.out.lk HB.out.b.dk OKD.out).mono ?_
          rw [EREC.out]
          rintro e wb ⟨v1, rfl, hv1, hb1⟩
          have HB3 := Lib.hid (HB.out.below hb1)
          have HW3 := Lib.hid (HW.out.trans (hb1.mono HW.out.size))
          have HV1 := Lib.hid (Kd.R_lower hv1 (Nat.zero_le _))
          clear hv1 hb1
          go_wp2_with fail
          refine (wal_Put gl g d B cb b _ HB3.out.lk HB3.out.b.dk OKD.out (Kd.C_below HBB.out HW3.out) hcb).mono ?_
          rw [← HCD.out, ← HD2.out]
          rintro e wc ⟨rfl, h4, f4⟩
          have D4 := Lib.hid h4
          have L4 := Lib.hid (f4.blk HB3.out.lk HB3.out.nes.1)
          have HW4 := Lib.hid (below_fr HW3.out f4 HW3.out.size (fun j hj => by rw [hj]; exact GE.out.1))
          have HV4 : Hid ((Kd.slice 5 (Kd.int .u8)).R 33 wc 0 (fun _ => True) v1 R) := R_fr HV1.out f4 (by
            rintro i rfl _ q hq cs hc
            obtain ⟨u, hu, _⟩ := HB3.out.b.dk
            rw [hu] at hc
            obtain ⟨_, rfl, _⟩ := Obj.cells.inj (Option.some.inj hc)
            revert hq
            exact dk_types)
          clear h4 f4
          obtain ⟨R4, q4, e4, hq4, hC4⟩ := Kd.R_reads HV4.out
          subst e4
          have HC4 := Lib.hid hC4
          have HQ4 := Lib.hid hq4
          clear hC4 hq4
          by_cases hc0 : cd = 0
          · subst hc0
            have hcc : rOk b ∧ d2.b = d.b ++ putOf b := by
              rcases CC.out with ⟨h, _⟩ | ⟨_, h⟩
              · exact absurd rfl h
              · exact h
            have hR' : ∀ x ∈ R ++ [b], rOk x := by
              intro x hx
              rcases List.mem_append.1 hx with hx | hx
              · exact HR1.out x hx
              · rw [List.mem_singleton.1 hx]; exact hcc.1
            have EREC2 : Hid (d2.recs = R ++ [b]) := (framed_recs hR' (by rw [hcc.2, HR2.out, puts_snoc])).1
            clear hcc hR'
            go_wp2_with fail
            refine (wal_Records gl g d2 _ L4.out D4.out OKN.out).mono ?_
            rw [EREC2.out]
            rintro e w7' ⟨v7, rfl, hv7, hb7⟩
            obtain ⟨R7, q7, rfl, hq7, hC7⟩ := Kd.R_reads hv7
            have HC7 := Lib.hid hC7
            have HQ7 := Lib.hid hq7
            have HC5 := Lib.hid (Kd.C_below HC4.out hb7)
            have HW7 := Lib.hid (HW4.out.trans (hb7.mono HW4.out.size))
            clear hv7 hb7 hC7 hq7
            have hlen : (R ++ [b]).length = R.length + 1 := by rw [List.length_append]; rfl
            have HLEN := Lib.hid hlen
            rw [hlen]
            clear hlen
            have hrl := HRL.out
            obtain ⟨ad, A9, c9, e9, x9, hx9, hC9⟩ := at_row HC7.out R.length (by rw [HLEN.out]; omega)
            have eg : (R ++ [b])[R.length]'(by rw [HLEN.out]; omega) = b := by simp
            rw [eg] at x9 hx9 hC9
            subst e9
            obtain ⟨sb, hsb⟩ : ∃ sb, sb = strOfNums b := ⟨_, rfl⟩
            have q9 : (convert 33 9 (.slice A9 b.length c9)).run Try.prog w7' = .ok (.string sb) w7' := by rw [hsb]; exact str_of hC9
            have q10 : (convert 33 9 (.slice B b.length cb)).run Try.prog w7' = .ok (.string sb) w7' := by rw [hsb]; exact str_of (Kd.C_below HBB.out HW7.out)
            have HSB := Lib.hid hsb
            have HC9 := Lib.hid hC9
            have q11 := fun W => take_rows (some ad) q7 (R.length + 1) R.length (by omega) (by have := HQ7.out; have := HLEN.out; omega) W
            have CT : Hid ((Kd.slice 5 (Kd.int .u8)).C w7' (some ad) R.length R) := by
              have := Kd.C_take (m := R.length) HC7.out (by rw [HLEN.out]; omega)
              rw [List.take_append_of_le_length (Nat.le_refl _), List.take_length] at this
              exact this
            have p1 : (0 ≤ (R.length : Int)) = True := eq_true (by omega)
            have p2 : ((R.length : Int) < ((R.length + 1 : Nat) : Int)) = True := eq_true (by omega)
            have p3 : ((R.length : Int) < (R.length : Int) + 1) = True := eq_true (by omega)
            clear eg hC9 hx9 hsb
            have QA : Hid (∀ W, Below w7'.heap.size w7' W → W.cell? (ad.add R.length) = some (.slice A9 b.length c9) ∧ (convert 33 9 (.slice A9 b.length c9)).run Try.prog W = .ok (.string sb) W ∧ (convert 33 9 (.slice B b.length cb)).run Try.prog W = .ok (.string sb) W) := fun W hW => ⟨pw_cell_below hW x9, by rw [HSB.out]; exact str_of (Kd.C_below HC9.out hW), by rw [HSB.out]; exact str_of (Kd.C_below HBB.out (HW7.out.trans (hW.mono HW7.out.size)))⟩
            have z9 := QA.out w7'.drew (below_drew (Below.refl _ _))
            have hsum : IntKind.i64.wrap ((R.length : Int) + 1) = (R.length : Int) + 1 := IntWalk.i64_in _ (by omega)
            have t9 : (((R.length + 1 : Nat) : Int) == (R.length : Int) + 1) = true := beq_iff_eq.2 (by omega)
            clear q9 q10
            go_wp2_with fail
            refine start_ (n := 26) (S := fun w' => w'.cell? (ad.add R.length) = some (.slice A9 b.length c9) ∧ (convert 33 9 (.slice A9 b.length c9)).run Try.prog w' = .ok (.string sb) w' ∧ (convert 33 9 (.slice B b.length cb)).run Try.prog w' = .ok (.string sb) w') (ds := []) #[false, false, false, false, false, false, false, false, false, false, false, false, false, false, false, false, false, false, false, false, false, false, false, false, false, false] (by kernel_rfl) rfl rfl z9 (fun hHeld => ?_)
            refine pure_ (i := 0) (N := some 104) (v := ?_) (a' := ?_) #[true, false, false, false, false, false, false, false, false, false, false, false, false, false, false, false, false, false, false, false, false, false, false, false, false, false] rfl rfl (by kernel_rfl) (fun _ _ _ h => h) (Or.inl ⟨by rfl, ?_⟩) ?_ ?_
            rotate_left
            · intro w'
              go_simp
              with_reducible rfl
            rotate_left
            · simp only [Act.put, List.setIfInBounds_toArray, List.set_cons_zero, List.set_cons_succ, i64_w, i32_w]
              rfl
            refine pure_ (i := 1) (N := some 105) (v := ?_) (a' := ?_) #[true, true, false, false, false, false, false, false, false, false, false, false, false, false, false, false, false, false, false, false, false, false, false, false, false, false] rfl rfl (by kernel_rfl) (fun _ _ _ h => h) (Or.inl ⟨by rfl, ?_⟩) ?_ ?_
            rotate_left
            · intro w'
              go_simp
              with_reducible rfl
            rotate_left
            · simp only [Act.put, List.setIfInBounds_toArray, List.set_cons_zero, List.set_cons_succ, i64_w, i32_w]
              rfl
            refine pure_ (i := 2) (N := some 106) (v := ?_) (a' := ?_) #[true, true, true, false, false, false, false, false, false, false, false, false, false, false, false, false, false, false, false, false, false, false, false, false, false, false] rfl rfl (by kernel_rfl) (fun _ _ _ h => h) (Or.inl ⟨by rfl, ?_⟩) ?_ ?_
            rotate_left
            · intro w'
              go_simp
              with_reducible rfl
            rotate_left
            · simp only [Act.put, List.setIfInBounds_toArray, List.set_cons_zero, List.set_cons_succ, i64_w, i32_w]
              rfl
            refine pure_ (i := 3) (N := some 107) (v := ?_) (a' := ?_) #[true, true, true, true, false, false, false, false, false, false, false, false, false, false, false, false, false, false, false, false, false, false, false, false, false, false] rfl rfl (by kernel_rfl) (fun _ _ _ h => h) (Or.inl ⟨by rfl, ?_⟩) ?_ ?_
            rotate_left
            · intro w'
              go_simp
              with_reducible rfl
            rotate_left
            · simp only [Act.put, List.setIfInBounds_toArray, List.set_cons_zero, List.set_cons_succ, i64_w, i32_w]
              rfl
            refine pure_ (i := 4) (N := some 108) (v := ?_) (a' := ?_) #[true, true, true, true, true, false, false, false, false, false, false, false, false, false, false, false, false, false, false, false, false, false, false, false, false, false] rfl rfl (by kernel_rfl) (fun _ _ _ h => h) (Or.inl ⟨by rfl, ?_⟩) ?_ ?_
            rotate_left
            · intro w'
              go_simp
              with_reducible rfl
            rotate_left
            · simp only [Act.put, List.setIfInBounds_toArray, List.set_cons_zero, List.set_cons_succ, i64_w, i32_w]
              rfl
            refine pure_ (i := 5) (N := some 109) (v := .bool true) (a' := ?_) #[true, true, true, true, true, true, false, false, false, false, false, false, false, false, false, false, false, false, false, false, false, false, false, false, false, false] rfl rfl (by kernel_rfl) (fun _ _ _ h => h) (Or.inl ⟨by rfl, ?_⟩) ?_ ?_
            · intro w'
              go_simp
              try (with_reducible rfl)
            rotate_left
            · simp only [Act.put, List.setIfInBounds_toArray, List.set_cons_zero, List.set_cons_succ, i64_w, i32_w]
              rfl
            refine pure_ (i := 6) (N := some 110) (v := ?_) (a' := ?_) #[true, true, true, true, true, true, true, false, false, false, false, false, false, false, false, false, false, false, false, false, false, false, false, false, false, false] rfl rfl (by kernel_rfl) (fun _ _ _ h => h) (Or.inl ⟨by rfl, ?_⟩) ?_ ?_
            rotate_left
            · intro w'
              go_simp
              with_reducible rfl
            rotate_left
            · simp only [Act.put, List.setIfInBounds_toArray, List.set_cons_zero, List.set_cons_succ, i64_w, i32_w]
              rfl
            refine pure_ (i := 7) (N := some 111) (v := ?_) (a' := ?_) #[true, true, true, true, true, true, true, true, false, false, false, false, false, false, false, false, false, false, false, false, false, false, false, false, false, false] rfl rfl (by kernel_rfl) (fun _ _ _ h => h) (Or.inl ⟨by rfl, ?_⟩) ?_ ?_
            rotate_left
            · intro w'
              go_simp
              with_reducible rfl
            rotate_left
            · simp only [Act.put, List.setIfInBounds_toArray, List.set_cons_zero, List.set_cons_succ, i64_w, i32_w]
              rfl
            refine pure_ (i := 8) (N := some 112) (v := ?_) (a' := ?_) #[true, true, true, true, true, true, true, true, true, false, false, false, false, false, false, false, false, false, false, false, false, false, false, false, false, false] rfl rfl (by kernel_rfl) (fun _ _ _ h => h) (Or.inl ⟨by rfl, ?_⟩) ?_ ?_
            rotate_left
            · intro w'
              go_simp
              with_reducible rfl
            rotate_left
            · simp only [Act.put, List.setIfInBounds_toArray, List.set_cons_zero, List.set_cons_succ, i64_w, i32_w]
              rfl
            refine pure_ (i := 9) (N := some 113) (v := ?_) (a' := ?_) #[true, true, true, true, true, true, true, true, true, true, false, false, false, false, false, false, false, false, false, false, false, false, false, false, false, false] rfl rfl (by kernel_rfl) (fun _ _ _ h => h) (Or.inl ⟨by rfl, ?_⟩) ?_ ?_
            rotate_left
            · intro w'
              go_simp
              with_reducible rfl
            rotate_left
            · simp only [Act.put, List.setIfInBounds_toArray, List.set_cons_zero, List.set_cons_succ, i64_w, i32_w]
              rfl
            refine pure_ (i := 10) (N := some 114) (v := ?_) (a' := ?_) #[true, true, true, true, true, true, true, true, true, true, true, false, false, false, false, false, false, false, false, false, false, false, false, false, false, false] rfl rfl (by kernel_rfl) (fun _ _ _ h => h) (Or.inl ⟨by rfl, ?_⟩) ?_ ?_
            rotate_left
            · intro w'
              go_simp
              with_reducible rfl
            rotate_left
            · simp only [Act.put, List.setIfInBounds_toArray, List.set_cons_zero, List.set_cons_succ, i64_w, i32_w]
              rfl
            refine pure_ (i := 13) (N := some 117) (v := ?_) (a' := ?_) #[true, true, true, true, true, true, true, true, true, true, true, false, false, true, false, false, false, false, false, false, false, false, false, false, false, false] rfl rfl (by kernel_rfl) (fun _ _ _ h => h) (Or.inl ⟨by rfl, ?_⟩) ?_ ?_
            rotate_left
            · intro w'
              go_simp
              with_reducible rfl
            rotate_left
            · simp only [Act.put, List.setIfInBounds_toArray, List.set_cons_zero, List.set_cons_succ, i64_w, i32_w]
              rfl
            refine take_ (i := 11) (N := some 115) (v := ?_) (a' := ?_) #[true, true, true, true, true, true, true, true, true, true, true, true, false, true, false, false, false, false, false, false, false, false, false, false, false, false] rfl rfl (by kernel_rfl) (fun _ _ _ h => h) (Or.inl ⟨by rfl, ?_⟩) hHeld ?_ ?_
            rotate_left
            · rintro w' ⟨s0, s1, s2⟩
              go_simp
              with_reducible rfl
            rotate_left
            · simp only [Act.put, List.setIfInBounds_toArray, List.set_cons_zero, List.set_cons_succ, i64_w, i32_w]
              rfl
            refine take_ (i := 12) (N := some 116) (v := ?_) (a' := ?_) #[true, true, true, true, true, true, true, true, true, true, true, true, true, true, false, false, false, false, false, false, false, false, false, false, false, false] rfl rfl (by kernel_rfl) (fun _ _ _ h => h) (Or.inl ⟨by rfl, ?_⟩) hHeld ?_ ?_
            rotate_left
            · rintro w' ⟨s0, s1, s2⟩
              go_simp
              with_reducible rfl
            rotate_left
            · simp only [Act.put, List.setIfInBounds_toArray, List.set_cons_zero, List.set_cons_succ, i64_w, i32_w]
              rfl
            refine take_ (i := 14) (N := some 118) (v := ?_) (a' := ?_) #[true, true, true, true, true, true, true, true, true, true, true, true, true, true, true, false, false, false, false, false, false, false, false, false, false, false] rfl rfl (by kernel_rfl) (fun _ _ _ h => h) (Or.inl ⟨by rfl, ?_⟩) hHeld ?_ ?_
            rotate_left
            · rintro w' ⟨s0, s1, s2⟩
              go_simp
              with_reducible rfl
            rotate_left
            · simp only [Act.put, List.setIfInBounds_toArray, List.set_cons_zero, List.set_cons_succ, i64_w, i32_w]
              rfl
            refine pure_ (i := 15) (N := some 119) (v := .bool true) (a' := ?_) #[true, true, true, true, true, true, true, true, true, true, true, true, true, true, true, true, false, false, false, false, false, false, false, false, false, false] rfl rfl (by kernel_rfl) (fun _ _ _ h => h) (Or.inl ⟨by rfl, ?_⟩) ?_ ?_
            · intro w'
              go_simp
              try (with_reducible rfl)
            rotate_left
            · simp only [Act.put, List.setIfInBounds_toArray, List.set_cons_zero, List.set_cons_succ, i64_w, i32_w]
              rfl
            refine pure_ (i := 16) (N := some 120) (v := ?_) (a' := ?_) #[true, true, true, true, true, true, true, true, true, true, true, true, true, true, true, true, true, false, false, false, false, false, false, false, false, false] rfl rfl (by kernel_rfl) (fun _ _ _ h => h) (Or.inl ⟨by rfl, ?_⟩) ?_ ?_
            rotate_left
            · intro w'
              go_simp
              with_reducible rfl
            rotate_left
            · simp only [Act.put, List.setIfInBounds_toArray, List.set_cons_zero, List.set_cons_succ, i64_w, i32_w]
              rfl
            refine pure_ (i := 17) (N := some 121) (v := ?_) (a' := ?_) #[true, true, true, true, true, true, true, true, true, true, true, true, true, true, true, true, true, true, false, false, false, false, false, false, false, false] rfl rfl (by kernel_rfl) (fun _ _ _ h => h) (Or.inl ⟨by rfl, ?_⟩) ?_ ?_
            rotate_left
            · intro w'
              go_simp
              with_reducible rfl
            rotate_left
            · simp only [Act.put, List.setIfInBounds_toArray, List.set_cons_zero, List.set_cons_succ, i64_w, i32_w]
              rfl
            refine pure_ (i := 18) (N := some 122) (v := ?_) (a' := ?_) #[true, true, true, true, true, true, true, true, true, true, true, true, true, true, true, true, true, true, true, false, false, false, false, false, false, false] rfl rfl (by kernel_rfl) (fun _ _ _ h => h) (Or.inl ⟨by rfl, ?_⟩) ?_ ?_
            rotate_left
            · intro w'
              go_simp
              with_reducible rfl
            rotate_left
            · simp only [Act.put, List.setIfInBounds_toArray, List.set_cons_zero, List.set_cons_succ, i64_w, i32_w]
              rfl
            refine pure_ (i := 19) (N := some 123) (v := ?_) (a' := ?_) #[true, true, true, true, true, true, true, true, true, true, true, true, true, true, true, true, true, true, true, true, false, false, false, false, false, false] rfl rfl (by kernel_rfl) (fun _ _ _ h => h) (Or.inl ⟨by rfl, ?_⟩) ?_ ?_
            rotate_left
            · intro w'
              go_simp
              with_reducible rfl
            rotate_left
            · simp only [Act.put, List.setIfInBounds_toArray, List.set_cons_zero, List.set_cons_succ, i64_w, i32_w]
              rfl
            refine pure_ (i := 20) (N := some 124) (v := ?_) (a' := ?_) #[true, true, true, true, true, true, true, true, true, true, true, true, true, true, true, true, true, true, true, true, true, false, false, false, false, false] rfl rfl (by kernel_rfl) (fun _ _ _ h => h) (Or.inl ⟨by rfl, ?_⟩) ?_ ?_
            rotate_left
            · intro w'
              go_simp
              with_reducible rfl
            rotate_left
            · simp only [Act.put, List.setIfInBounds_toArray, List.set_cons_zero, List.set_cons_succ, i64_w, i32_w]
              rfl
            refine pure_ (i := 21) (N := some 125) (v := ?_) (a' := ?_) #[true, true, true, true, true, true, true, true, true, true, true, true, true, true, true, true, true, true, true, true, true, true, false, false, false, false] rfl rfl (by kernel_rfl) (fun _ _ _ h => h) (Or.inl ⟨by rfl, ?_⟩) ?_ ?_
            rotate_left
            · intro w'
              go_simp
              with_reducible rfl
            rotate_left
            · simp only [Act.put, List.setIfInBounds_toArray, List.set_cons_zero, List.set_cons_succ, i64_w, i32_w]
              rfl
            refine pure_ (i := 22) (N := some 126) (v := ?_) (a' := ?_) #[true, true, true, true, true, true, true, true, true, true, true, true, true, true, true, true, true, true, true, true, true, true, true, false, false, false] rfl rfl (by kernel_rfl) (fun _ _ _ h => h) (Or.inl ⟨by rfl, ?_⟩) ?_ ?_
            rotate_left
            · intro w'
              go_simp
              with_reducible rfl
            rotate_left
            · simp only [Act.put, List.setIfInBounds_toArray, List.set_cons_zero, List.set_cons_succ, i64_w, i32_w]
              rfl
            refine one_ (i := 23) (N := some 127) #[true, true, true, true, true, true, true, true, true, true, true, true, true, true, true, true, true, true, true, true, true, true, true, true, false, false] rfl rfl (by kernel_rfl) (by decide) (fun K hK => ?_)
            refine goes_ Try.func15 (by kernel_rfl) rfl #[.slice (some ad) R.length q7, .slice R4 R.length q4] (by rfl) rfl rfl (by (try simp only [List.map_toArray, List.map_cons, List.map_nil]); rfl) ?_
            refine (lessorref09_Same.calls (R.length + 3) (some ad) q7 R R4 q4 R true _ (Kd.C_drew CT.out) (by have := HQ7.out; have := HLEN.out; omega) (Kd.C_drew HC5.out) HQ4.out (sameL _ (by omega) _ (by omega))).mono ?_
            rintro e w8' ⟨rfl, hdr⟩
            have B8 := Lib.hid ((below_drew (Below.refl w7'.heap.size w7')).trans hdr.below)
            clear hdr hHeld
            refine ⟨_, rfl, ?_⟩
            refine hK.out _ _ (QA.out _ B8.out) (fun hHeld => ?_)
            clear hK K
            try (refine norm_ (a' := ?_) ?_ ?_; rotate_left; focus (simp only [Act.put, List.setIfInBounds_toArray, List.set_cons_zero, List.set_cons_succ, i64_w, i32_w]; rfl))
            refine pure_ (i := 24) (N := some 128) (v := ?_) (a' := ?_) #[true, true, true, true, true, true, true, true, true, true, true, true, true, true, true, true, true, true, true, true, true, true, true, true, true, false] rfl rfl (by kernel_rfl) (fun _ _ _ h => h) (Or.inl ⟨by rfl, ?_⟩) ?_ ?_
            rotate_left
            · intro w'
              go_simp
              with_reducible rfl
            rotate_left
            · simp only [Act.put, List.setIfInBounds_toArray, List.set_cons_zero, List.set_cons_succ, i64_w, i32_w]
              rfl
            refine pure_ (i := 25) (N := some 6) (v := ?_) (a' := ?_) #[true, true, true, true, true, true, true, true, true, true, true, true, true, true, true, true, true, true, true, true, true, true, true, true, true, true] rfl rfl (by kernel_rfl) (fun _ _ _ h => h) (Or.inl ⟨by rfl, ?_⟩) ?_ ?_
            rotate_left
            · intro w'
              go_simp
              with_reducible rfl
            rotate_left
            · simp only [Act.put, List.setIfInBounds_toArray, List.set_cons_zero, List.set_cons_succ, i64_w, i32_w]
              rfl
            refine done_ (by kernel_rfl) ?_
            clear hHeld z9
            go_wp2_with fail
            go_ret
            exact ⟨rfl, HW7.out.trans (B8.out.mono HW7.out.size)⟩
          · have t2 : (cd != 0) = true := bne_iff_ne.2 hc0
            have eb : d2.b = d.b := by
              rcases CC.out with ⟨_, h⟩ | ⟨h, _⟩
              · exact h
              · exact absurd h hc0
            have EREC2 : Hid (d2.recs = R) := (framed_recs HR1.out (eb.trans HR2.out)).1
            clear eb hc0
            go_wp2_with fail
            refine (wal_Records gl g d2 _ L4.out D4.out OKN.out).mono ?_
            rw [EREC2.out]
            rintro e w7' ⟨v7, rfl, hv7, hb7⟩
            obtain ⟨R7, q7, rfl, hq7, hC7⟩ := Kd.R_reads hv7
            have HC7 := Lib.hid hC7
            have HQ7 := Lib.hid hq7
            have HC5 := Lib.hid (Kd.C_below HC4.out hb7)
            have HW7 := Lib.hid (HW4.out.trans (hb7.mono HW4.out.size))
            clear hv7 hb7 hC7 hq7
            go_wp2_with fail
            refine (lessorref09_Same.calls (R.length + 3) R4 q4 R R7 q7 R true _ HC5.out HQ4.out HC7.out HQ7.out (sameL _ (by have := HRL.out; omega) _ (by omega))).mono ?_
            rintro e w8' ⟨rfl, hdr⟩
            have HW8 := Lib.hid (HW7.out.trans (hdr.below.mono HW7.out.size))
            clear hdr
            go_wp2_with fail
            go_ret
            exact ⟨rfl, HW8.out⟩
  · have h1 : room < 1 ∨ 1048576 < room := by omega
    have H1 := Lib.hid h1
    clear h1 hroom
    cases r with
    | true =>
      go_wp2_with (first
        | (go_at_call 9; refine (disk_New_no room _ H1.out).mono ?_; rintro e w3 ⟨rfl, rfl⟩)
        | (go_at_call 18; refine (ref_New_no room _ H1.out).mono ?_; rintro e w4 ⟨rfl, rfl⟩)
        | fail)
      go_ret
      exact ⟨rfl, B2.out⟩
    | false =>
      go_wp2_with (first
        | (go_at_call 9; refine (disk_New_no room _ H1.out).mono ?_; rintro e w3 ⟨rfl, rfl⟩)
        | (go_at_call 18; refine (ref_New_no room _ H1.out).mono ?_; rintro e w4 ⟨rfl, rfl⟩)
        | fail)
      go_ret
      exact ⟨rfl, B2.out⟩

def lessorlaw10_WalRefuses.f (a0 : Int) (l1 : List WsE) (l2 : List Int) : Option Bool := if l1.length ≤ 9223372036854775807 ∧ (∀ x ∈ l1, wsOk x) ∧ ∀ y ∈ l2, 0 ≤ y ∧ y ≤ 255 then some true else none
theorem lessorlaw10_WalRefuses.calls (a0 : Int) (A1 : Option Addr) (c1 : Nat) (l1 : List WsE) (A2 : Option Addr) (c2 : Nat) (l2 : List Int) (r : Bool) (w : World) (hr1 : Kd.C k55 w A1 l1.length l1) (hc1 : l1.length ≤ c1) (hr2 : (Kd.int .u8).C w A2 l2.length l2) (hc2 : l2.length ≤ c2) (h : lessorlaw10_WalRefuses.f a0 l1 l2 = some r) :
    Calls Try.prog 6 #[.int .i64 a0, .slice A1 l1.length c1, .slice A2 l2.length c2] w fun e w' => e = .returned (.bool r) ∧ Below w.heap.size w w' := by
  unfold lessorlaw10_WalRefuses.f at h
  split at h
  case isFalse => cases h
  rename_i hc
  obtain rfl : true = r := Option.some.inj h
  exact WalRefuses_calls a0 A1 c1 l1 A2 c2 l2 w hr1 hc1 hc.1 hc.2.1 hr2 hc2 hc.2.2

end Go.Proofs.Ytfndajgmjkimgaa
