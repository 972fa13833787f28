/-
  WalScripts: a log on a disk of any room does any steps, as the document says. No condition.
-/
import Derived.Test.YtfndajgmjkimgaaHWalBase
import Derived.Test.YtfndajgmjkimgaaPrF15
namespace Go.Proofs.Ytfndajgmjkimgaa
open Go.RowKit Go.Proofs.Ytfndajgmjkimgaa.Pr Go.Proofs.Ytfndajgmjkimgaa.FrL Go.Proofs.YtfndajgmjkimgaaW.PrintWords Go.Proofs.YtfndajgmjkimgaaW.PrintLast Go.Proofs.YtfndajgmjkimgaaW.PrintMore
attribute [local go_sem] max2_int min2_int max_two min_two max_three min_three max_four min_four
set_option linter.unusedVariables false
set_option linter.unusedSimpArgs false


set_option maxHeartbeats 8000000 in
set_option maxRecDepth 100000 in
theorem WalScripts_calls (room : Int) (A : Option Addr) (c : Nat) (l : List WsE) (w : World) (hC : Kd.C k55 w A l.length l) (hc : l.length ≤ c) (hl : l.length ≤ 9223372036854775807) (hs : ∀ x ∈ l, wsOk x) :
    Calls Try.prog 7 #[.int .i64 room, .slice A l.length c] w fun e w' => e = .returned (.bool true) ∧ Below w.heap.size w w' := by
  have HC := Lib.hid hC
  have HS := Lib.hid hs
  clear hC hs
  go_enter Try.func7, Try.ntmps7
  go_wp2_with (go_at_call 8; refine (wawake_calls _).mono ?_; rintro e w1 ⟨rfl, b1⟩; have B1 := Lib.hid b1; clear b1)
  obtain ⟨r, hr, hlong⟩ := wlong_any l hl A c w1 (Kd.C_below HC.out B1.out) hc
  refine hlong.mono ?_
  rintro e w2 ⟨rfl, hdr⟩
  have B2 := Lib.hid (B1.out.trans (hdr.below.mono B1.out.size))
  have HR := Lib.hid hr
  clear hr hlong hdr
  by_cases hroom : 1 ≤ room ∧ room ≤ 1048576
  · obtain ⟨h1, h2⟩ := hroom
    have B3 : Hid (∀ o, Below w.heap.size w (w2.alloc o)) := fun o => below_alloc B2.out o
    have B4 : Hid (∀ o o', Below w.heap.size w ((w2.alloc o).alloc o')) := fun o o' => below_alloc (below_alloc B2.out o) o'
    have BO : Hid (Both ((w2.alloc (.cells #[.int .i64 room, .slice none 0 0, .int .i64 0, .int .i64 (-1)] 64)).alloc (.cells #[.int .i64 room, .slice none 0 0, .int .i64 0, .int .i64 (-1)] 61)) w2.heap.size (w2.heap.size + 1) (DkS.new room)) := by
      refine ⟨(new_at _ _ room w2).alloc _, ?_⟩
      have := new_at 61 5 room (w2.alloc (.cells #[.int .i64 room, .slice none 0 0, .int .i64 0, .int .i64 (-1)] 64))
      rwa [World.size_alloc] at this
    have OK0 := Lib.hid (DkS.ok_new h1 h2)
    have hge : w.heap.size ≤ w2.heap.size := B2.out.size
    cases r with
    | true =>
      go_wp2_with (first
        | (go_at_call 9; refine (disk_New_ok room _ h1 h2).mono ?_; rintro e w3 ⟨rfl, rfl⟩)
        | (go_at_call 18; refine (ref_New_ok room _ h1 h2).mono ?_; rintro e w4 ⟨rfl, rfl⟩)
        | fail)
      go_ret
      exact ⟨rfl, B4.out _ _⟩
    | false =>
      have hsm := HR.out rfl
      obtain ⟨hsm1, hsm2⟩ := hsm
      have HSM := Lib.hid hsm1
      clear hsm1
      go_wp2_with (first
        | (go_at_call 9; refine (disk_New_ok room _ h1 h2).mono ?_; rintro e w3 ⟨rfl, rfl⟩)
        | (go_at_call 18; refine (ref_New_ok room _ h1 h2).mono ?_; rintro e w4 ⟨rfl, rfl⟩)
        | fail)
      obtain ⟨g, hg⟩ : ∃ g, w2.heap.size = g := ⟨_, rfl⟩
      obtain ⟨h, hh⟩ : ∃ h, g + 1 = h := ⟨_, rfl⟩
      obtain ⟨W4, hW4⟩ : ∃ W4, (w2.alloc (.cells #[.int .i64 room, .slice none 0 0, .int .i64 0, .int .i64 (-1)] 64)).alloc (.cells #[.int .i64 room, .slice none 0 0, .int .i64 0, .int .i64 (-1)] 61) = W4 := ⟨_, rfl⟩
      have B5 := Lib.hid (B4.out (.cells #[.int .i64 room, .slice none 0 0, .int .i64 0, .int .i64 (-1)] 64) (.cells #[.int .i64 room, .slice none 0 0, .int .i64 0, .int .i64 (-1)] 61))
      rw [hg, hh, hW4] at BO
      rw [hW4] at B5
      rw [hg, hh, hW4]
      have GE : Hid (w.heap.size ≤ g ∧ w.heap.size ≤ h) := by exact ⟨by omega, by omega⟩
      clear hg hh hW4 hge B4 B3
      refine (wal_Open g _ _ BO.out.dk OK0.out).mono ?_
      rw [open_new]
      rintro e w5 ⟨p, rfl, h5, f5, h6, _⟩
      obtain ⟨l5, hl5, rfl, lk5⟩ := h6 rfl
      have LK5 := Lib.hid lk5
      have H5 := Lib.hid h5
      have F5 := Lib.hid f5
      have B6 := Lib.hid (below_fr B5.out f5 B5.out.size (fun j hj => by rw [hj]; exact GE.out.1))
      have HM5 := Lib.hid (BO.out.mid f5)
      clear h5 f5 h6 hl5 lk5
      go_wp2_with fail
      refine (ref_Open h _ _ HM5.out OK0.out).mono ?_
      rw [open_new]
      rintro e w6 ⟨p, rfl, h7, f7, h8, _⟩
      obtain ⟨l6, hl6, rfl, lk6⟩ := h8 rfl
      have hne5 : l5 ≠ h := by obtain ⟨u, hu, _⟩ := HM5.out; exact blk_ne LK5.out hu (by decide)
      have LO : Hid (Logs w6 g h l5 l6 (DkS.new room)) := ⟨BO.out.after H5.out F5.out h7 f7, f7.blk LK5.out hne5, lk6⟩
      have B7 := Lib.hid (below_fr B6.out f7 B6.out.size (fun j hj => by rw [hj]; exact GE.out.2))
      clear h7 f7 h8 hl6 lk6 hne5 HM5 LK5 H5 F5 BO B5 B6
      go_wp2_with fail
      go_loopw [11, 13, 15] (fun vx vy i wr => ∃ (k gl hl : Nat), k ≤ l.length ∧ i = .int .i64 k ∧ vx = .pointer (some ⟨gl, 0, none⟩) ∧ vy = .pointer (some ⟨hl, 0, none⟩) ∧ Hid (Logs wr g h gl hl (wruns (DkS.new room) (l.take k))) ∧ Hid (Below w.heap.size w wr)) (fun _ _ i _ => l.length - (intOf i).toNat)
      case atStart => exact ⟨0, l5, l6, Nat.zero_le _, rfl, rfl, rfl, by simpa [wruns] using LO, B7⟩
      case round =>
        clear LO B7
        obtain ⟨k, gl, hl', hk, rfl, rfl, rfl, HB, HW⟩ := hrel
        by_cases hlt : k < l.length
        · obtain ⟨ad, A2, c2, A3, c3, rfl, hx0, hx1, hx2, hx3, hxl, hxc, hyl, hyc⟩ := at_ws HC.out hlt
          obtain ⟨x, hx⟩ : ∃ x, x = l[k] := ⟨_, rfl⟩
          rw [← hx] at hx0 hx1 hx2 hx3 hxl hxc hyl hyc
          have hxm : x.f3.length ≤ 20 := by rw [hx]; exact HSM.out _ (List.getElem_mem hlt)
          have OKD := Lib.hid (wruns_ok OK0.out (l := l.take k) (fun y hy => HS.out y (List.mem_of_mem_take hy)))
          have OKN := Lib.hid (wruns_ok OK0.out (l := l.take (k + 1)) (fun y hy => HS.out y (List.mem_of_mem_take hy)))
          have ER := Lib.hid (wruns_succ (DkS.new room) l hlt)
          rw [← hx] at ER
          obtain ⟨d, hd⟩ : ∃ d, d = wruns (DkS.new room) (l.take k) := ⟨_, rfl⟩
          obtain ⟨d', hd'⟩ : ∃ d', d' = wruns (DkS.new room) (l.take (k + 1)) := ⟨_, rfl⟩
          rw [← hd] at HB OKD ER
          rw [← hd'] at OKN ER
          have HD' := Lib.hid hd'
          clear hd hd' hx
          replace hx0 := (HW.out.cell (World.block_lt_of_cell? w _ hx0)).trans hx0
          replace hx1 := (HW.out.cell (World.block_lt_of_cell? w _ hx1)).trans hx1
          replace hx2 := (HW.out.cell (World.block_lt_of_cell? w _ hx2)).trans hx2
          replace hx3 := (HW.out.cell (World.block_lt_of_cell? w _ hx3)).trans hx3
          have HXC : Hid (∀ W, Fr wr W (fun k => k = g ∨ k = h) → (Kd.int .u8).C W A2 x.f2.length x.f2) := fun W hW => row_fr hxc HW.out hW (fun j hj => by rcases hj with rfl | rfl; exact GE.out.1; exact GE.out.2)
          have HYC : Hid (∀ W, Fr wr W (fun k => k = g ∨ k = h) → (Kd.slice 5 (Kd.int .u8)).C W A3 x.f3.length x.f3) := fun W hW => row_fr hyc HW.out hW (fun j hj => by rcases hj with rfl | rfl; exact GE.out.1; exact GE.out.2)
          have p1 : (0 ≤ (k : Int)) = True := eq_true (by omega)
          have p2 : ((k : Int) < (l.length : Int)) = True := eq_true (by omega)
          clear hxc hyc
          go_wp2_with (first
            | (go_at_call 20; refine (wstep_calls g h gl hl' d x.f0 x.f1 A2 c2 x.f2 A3 c3 x.f3 _ HB.out OKD.out HXC.out hxl HYC.out hyl hxm).mono ?_; rintro e wa ⟨gl2, hl2, rfl, hb, hf⟩; rw [← ER.out] at hb; have HB2 := Lib.hid hb; have HW2 := Lib.hid (below_fr HW.out hf HW.out.size (fun j hj => by rcases hj with rfl | rfl; exact GE.out.1; exact GE.out.2)); clear hb hf hx0 hx1 hx2 hx3)
            | fail)
          have hrl := recs_len OKN.out
          have HRL := Lib.hid hrl
          clear hrl
          go_wp2_with fail
          refine (wal_Records gl2 g d' _ HB2.out.lk HB2.out.b.dk OKN.out).mono ?_
          rintro e wb ⟨v1, rfl, hv1, hb1⟩
          obtain ⟨R1, q1, rfl, hq1, hC1⟩ := Kd.R_reads hv1
          have HB3 := Lib.hid (HB2.out.below hb1)
          have HW3 := Lib.hid (HW2.out.trans (hb1.mono HW2.out.size))
          have HC1 := Lib.hid hC1
          have HQ1 := Lib.hid hq1
          clear hv1 hb1 hC1 hq1
          go_wp2_with fail
          refine (rlog_Records hl2 h d' _ HB3.out.rl HB3.out.b.rf OKN.out).mono ?_
          rintro e wc ⟨v2, rfl, hv2, hb2⟩
          obtain ⟨R2, q2, rfl, hq2, hC2⟩ := Kd.R_reads hv2
          have HB4 := Lib.hid (HB3.out.below hb2)
          have HW4 := Lib.hid (HW3.out.trans (hb2.mono HW3.out.size))
          have HC2 := Lib.hid hC2
          have HQ2 := Lib.hid hq2
          have HC3 := Lib.hid (Kd.C_below HC1.out hb2)
          clear hv2 hb2 hC2 hq2
          go_wp2_with fail
          refine (lessorref09_Same.calls (d'.recs.length + 3) R1 q1 d'.recs R2 q2 d'.recs true _ HC3.out HQ1.out HC2.out HQ2.out (sameL _ (by have := HRL.out; omega) _ (by omega))).mono ?_
          rintro e wd ⟨rfl, hdr⟩
          have HB5 := Lib.hid (HB4.out.below hdr.below)
          have HW5 := Lib.hid (HW4.out.trans (hdr.below.mono HW4.out.size))
          clear hdr
          have hbr := HB5.out.b.rf
          obtain ⟨v, hv, hrr⟩ := hbr
          obtain ⟨Ar, cr, rfl, hcr, hCr⟩ := Kd.R_reads hrr
          have y1 : wd.cell? ⟨h, 1, none⟩ = some (.slice Ar d'.b.length cr) := (blk_cell hv 1).trans rfl
          have y2 : wd.cell? ⟨h, 2, none⟩ = some (.int .i64 d'.last) := (blk_cell hv 2).trans rfl
          obtain ⟨sr, hsr⟩ : ∃ sr, sr = strOfNums d'.b := ⟨_, rfl⟩
          have S3 : Hid (∀ W, Below wd.heap.size wd W → (convert 33 9 (.slice Ar d'.b.length cr)).run Try.prog W = .ok (.string sr) W) := fun W hW => by rw [hsr]; exact str_of (Kd.C_below hCr hW)
          have HSR := Lib.hid hsr
          have HDL := Lib.hid (ok_len OKN.out)
          have z3 := S3.out wd.drew (below_drew (Below.refl _ _))
          have ALL : Hid (∀ W, Below wd.heap.size wd W → Logs W g h gl2 hl2 d' ∧ W.cell? ⟨h, 1, none⟩ = some (.slice Ar d'.b.length cr) ∧ W.cell? ⟨h, 2, none⟩ = some (.int .i64 d'.last)) := fun W hW => ⟨HB5.out.below hW, pw_cell_below hW y1, pw_cell_below hW y2⟩
          clear hv hrr hcr hCr hsr
          go_wp2_with fail
          refine start_ (n := 30) (S := fun w' => w'.cell? ⟨h, 1, none⟩ = some (.slice Ar d'.b.length cr) ∧ w'.cell? ⟨h, 2, none⟩ = some (.int .i64 d'.last) ∧ (convert 33 9 (.slice Ar d'.b.length cr)).run Try.prog w' = .ok (.string sr) w') (ds := []) #[false, false, false, false, false, false, false, false, false, false, false, false, false, false, false, false, false, false, false, false, false, false, false, false, false, false, false, false, false, false] (by kernel_rfl) rfl rfl ⟨y1, y2, z3⟩ (fun hHeld => ?_)
          refine pure_ (i := 0) (N := some 119) (v := ?_) (a' := ?_) #[true, false, false, false, false, false, false, false, false, false, false, false, false, false, false, false, false, false, false, false, false, false, false, false, false, false, false, false, false, false] rfl rfl (by kernel_rfl) (fun _ _ _ h => h) (Or.inl ⟨by rfl, ?_⟩) ?_ ?_
          rotate_left
          · intro w'
            go_simp
            with_reducible rfl
          rotate_left
          · simp only [Act.put, List.setIfInBounds_toArray, List.set_cons_zero, List.set_cons_succ, i64_w, i32_w]
            rfl
          refine pure_ (i := 1) (N := some 120) (v := ?_) (a' := ?_) #[true, true, false, false, false, false, false, false, false, false, false, false, false, false, false, false, false, false, false, false, false, false, false, false, false, false, false, false, false, false] rfl rfl (by kernel_rfl) (fun _ _ _ h => h) (Or.inl ⟨by rfl, ?_⟩) ?_ ?_
          rotate_left
          · intro w'
            go_simp
            with_reducible rfl
          rotate_left
          · simp only [Act.put, List.setIfInBounds_toArray, List.set_cons_zero, List.set_cons_succ, i64_w, i32_w]
            rfl
          refine pure_ (i := 2) (N := some 121) (v := ?_) (a' := ?_) #[true, true, true, false, false, false, false, false, false, false, false, false, false, false, false, false, false, false, false, false, false, false, false, false, false, false, false, false, false, false] rfl rfl (by kernel_rfl) (fun _ _ _ h => h) (Or.inl ⟨by rfl, ?_⟩) ?_ ?_
          rotate_left
          · intro w'
            go_simp
            with_reducible rfl
          rotate_left
          · simp only [Act.put, List.setIfInBounds_toArray, List.set_cons_zero, List.set_cons_succ, i64_w, i32_w]
            rfl
          refine pure_ (i := 3) (N := some 122) (v := ?_) (a' := ?_) #[true, true, true, true, false, false, false, false, false, false, false, false, false, false, false, false, false, false, false, false, false, false, false, false, false, false, false, false, false, false] rfl rfl (by kernel_rfl) (fun _ _ _ h => h) (Or.inl ⟨by rfl, ?_⟩) ?_ ?_
          rotate_left
          · intro w'
            go_simp
            with_reducible rfl
          rotate_left
          · simp only [Act.put, List.setIfInBounds_toArray, List.set_cons_zero, List.set_cons_succ, i64_w, i32_w]
            rfl
          refine pure_ (i := 5) (N := some 124) (v := ?_) (a' := ?_) #[true, true, true, true, false, true, false, false, false, false, false, false, false, false, false, false, false, false, false, false, false, false, false, false, false, false, false, false, false, false] rfl rfl (by kernel_rfl) (fun _ _ _ h => h) (Or.inl ⟨by rfl, ?_⟩) ?_ ?_
          rotate_left
          · intro w'
            go_simp
            with_reducible rfl
          rotate_left
          · simp only [Act.put, List.setIfInBounds_toArray, List.set_cons_zero, List.set_cons_succ, i64_w, i32_w]
            rfl
          refine one_ (i := 4) (N := some 123) #[true, true, true, true, true, true, false, false, false, false, false, false, false, false, false, false, false, false, false, false, false, false, false, false, false, false, false, false, false, false] rfl rfl (by kernel_rfl) (by decide) (fun K hK => ?_)
          refine goes_ Try.func16 (by kernel_rfl) rfl #[.pointer (some ⟨gl2, 0, none⟩)] (by rfl) rfl rfl (by (try simp only [List.map_toArray, List.map_cons, List.map_nil]); rfl) ?_
          have b0 : Below wd.heap.size wd wd.drew := below_drew (Below.refl _ _)
          refine (wal_Len gl2 g d' _ (ALL.out _ b0).1.lk (ALL.out _ b0).1.b.dk OKN.out).mono ?_
          rintro e we ⟨rfl, hb⟩
          have BE := Lib.hid (b0.trans hb)
          clear hb b0 hHeld
          refine ⟨_, rfl, ?_⟩
          refine hK.out _ _ ⟨(ALL.out _ BE.out).2.1, (ALL.out _ BE.out).2.2, S3.out _ BE.out⟩ (fun hHeld => ?_)
          clear hK K
          try (refine norm_ (a' := ?_) ?_ ?_; rotate_left; focus (simp only [Act.put, List.setIfInBounds_toArray, List.set_cons_zero, List.set_cons_succ, i64_w, i32_w]; rfl))
          refine one_ (i := 6) (N := some 125) #[true, true, true, true, true, true, true, false, false, false, false, false, false, false, false, false, false, false, false, false, false, false, false, false, false, false, false, false, false, false] rfl rfl (by kernel_rfl) (by decide) (fun K hK => ?_)
          refine goes_ Try.func23 (by kernel_rfl) rfl #[.pointer (some ⟨hl2, 0, none⟩)] (by rfl) rfl rfl (by (try simp only [List.map_toArray, List.map_cons, List.map_nil]); rfl) ?_
          refine (rlog_Records hl2 h d' _ (ALL.out _ BE.out).1.rl (ALL.out _ BE.out).1.b.rf OKN.out).mono ?_
          rintro e wf ⟨v5, rfl, hv5, hb⟩
          obtain ⟨R5, q5, rfl⟩ := Kd.R_slice hv5
          have BF := Lib.hid (BE.out.trans (hb.mono BE.out.size))
          clear hb hv5 hHeld
          refine ⟨_, rfl, ?_⟩
          refine hK.out _ _ ⟨(ALL.out _ BF.out).2.1, (ALL.out _ BF.out).2.2, S3.out _ BF.out⟩ (fun hHeld => ?_)
          clear hK K
          try (refine norm_ (a' := ?_) ?_ ?_; rotate_left; focus (simp only [Act.put, List.setIfInBounds_toArray, List.set_cons_zero, List.set_cons_succ, i64_w, i32_w]; rfl))
          refine pure_ (i := 7) (N := some 126) (v := ?_) (a' := ?_) #[true, true, true, true, true, true, true, true, false, false, false, false, false, false, false, false, false, false, false, false, false, false, false, false, false, false, false, false, false, false] rfl rfl (by kernel_rfl) (fun _ _ _ h => h) (Or.inl ⟨by rfl, ?_⟩) ?_ ?_
          rotate_left
          · intro w'
            go_simp
            with_reducible rfl
          rotate_left
          · simp only [Act.put, List.setIfInBounds_toArray, List.set_cons_zero, List.set_cons_succ, i64_w, i32_w]
            rfl
          refine pure_ (i := 8) (N := some 127) (v := .bool false) (a' := ?_) #[true, true, true, true, true, true, true, true, true, false, false, false, false, false, false, false, false, false, false, false, false, false, false, false, false, false, false, false, false, false] rfl rfl (by kernel_rfl) (fun _ _ _ h => h) (Or.inl ⟨by rfl, ?_⟩) ?_ ?_
          · intro w'
            go_simp
            try (with_reducible rfl)
          rotate_left
          · simp only [Act.put, List.setIfInBounds_toArray, List.set_cons_zero, List.set_cons_succ, i64_w, i32_w]
            rfl
          refine pure_ (i := 9) (N := some 128) (v := ?_) (a' := ?_) #[true, true, true, true, true, true, true, true, true, true, false, false, false, false, false, false, false, false, false, false, false, false, false, false, false, false, false, false, false, false] rfl rfl (by kernel_rfl) (fun _ _ _ h => h) (Or.inl ⟨by rfl, ?_⟩) ?_ ?_
          rotate_left
          · intro w'
            go_simp
            with_reducible rfl
          rotate_left
          · simp only [Act.put, List.setIfInBounds_toArray, List.set_cons_zero, List.set_cons_succ, i64_w, i32_w]
            rfl
          refine pure_ (i := 10) (N := some 129) (v := ?_) (a' := ?_) #[true, true, true, true, true, true, true, true, true, true, true, false, false, false, false, false, false, false, false, false, false, false, false, false, false, false, false, false, false, false] rfl rfl (by kernel_rfl) (fun _ _ _ h => h) (Or.inl ⟨by rfl, ?_⟩) ?_ ?_
          rotate_left
          · intro w'
            go_simp
            with_reducible rfl
          rotate_left
          · simp only [Act.put, List.setIfInBounds_toArray, List.set_cons_zero, List.set_cons_succ, i64_w, i32_w]
            rfl
          refine pure_ (i := 11) (N := some 130) (v := ?_) (a' := ?_) #[true, true, true, true, true, true, true, true, true, true, true, true, false, false, false, false, false, false, false, false, false, false, false, false, false, false, false, false, false, false] rfl rfl (by kernel_rfl) (fun _ _ _ h => h) (Or.inl ⟨by rfl, ?_⟩) ?_ ?_
          rotate_left
          · intro w'
            go_simp
            with_reducible rfl
          rotate_left
          · simp only [Act.put, List.setIfInBounds_toArray, List.set_cons_zero, List.set_cons_succ, i64_w, i32_w]
            rfl
          refine pure_ (i := 14) (N := some 133) (v := ?_) (a' := ?_) #[true, true, true, true, true, true, true, true, true, true, true, true, false, false, true, false, false, false, false, false, false, false, false, false, false, false, false, false, false, false] rfl rfl (by kernel_rfl) (fun _ _ _ h => h) (Or.inl ⟨by rfl, ?_⟩) ?_ ?_
          rotate_left
          · intro w'
            go_simp
            with_reducible rfl
          rotate_left
          · simp only [Act.put, List.setIfInBounds_toArray, List.set_cons_zero, List.set_cons_succ, i64_w, i32_w]
            rfl
          refine pure_ (i := 15) (N := some 134) (v := ?_) (a' := ?_) #[true, true, true, true, true, true, true, true, true, true, true, true, false, false, true, true, false, false, false, false, false, false, false, false, false, false, false, false, false, false] rfl rfl (by kernel_rfl) (fun _ _ _ h => h) (Or.inl ⟨by rfl, ?_⟩) ?_ ?_
          rotate_left
          · intro w'
            go_simp
            with_reducible rfl
          rotate_left
          · simp only [Act.put, List.setIfInBounds_toArray, List.set_cons_zero, List.set_cons_succ, i64_w, i32_w]
            rfl
          refine pure_ (i := 16) (N := some 135) (v := ?_) (a' := ?_) #[true, true, true, true, true, true, true, true, true, true, true, true, false, false, true, true, true, false, false, false, false, false, false, false, false, false, false, false, false, false] rfl rfl (by kernel_rfl) (fun _ _ _ h => h) (Or.inl ⟨by rfl, ?_⟩) ?_ ?_
          rotate_left
          · intro w'
            go_simp
            with_reducible rfl
          rotate_left
          · simp only [Act.put, List.setIfInBounds_toArray, List.set_cons_zero, List.set_cons_succ, i64_w, i32_w]
            rfl
          refine take_ (i := 17) (N := some 136) (v := ?_) (a' := ?_) #[true, true, true, true, true, true, true, true, true, true, true, true, false, false, true, true, true, true, false, false, false, false, false, false, false, false, false, false, false, false] rfl rfl (by kernel_rfl) (fun _ _ _ h => h) (Or.inl ⟨by rfl, ?_⟩) hHeld ?_ ?_
          rotate_left
          · rintro w' ⟨s0, s1, s2⟩
            go_simp
            with_reducible rfl
          rotate_left
          · simp only [Act.put, List.setIfInBounds_toArray, List.set_cons_zero, List.set_cons_succ, i64_w, i32_w]
            rfl
          refine take_ (i := 18) (N := some 137) (v := ?_) (a' := ?_) #[true, true, true, true, true, true, true, true, true, true, true, true, false, false, true, true, true, true, true, false, false, false, false, false, false, false, false, false, false, false] rfl rfl (by kernel_rfl) (fun _ _ _ h => h) (Or.inl ⟨by rfl, ?_⟩) hHeld ?_ ?_
          rotate_left
          · rintro w' ⟨s0, s1, s2⟩
            go_simp
            with_reducible rfl
          rotate_left
          · simp only [Act.put, List.setIfInBounds_toArray, List.set_cons_zero, List.set_cons_succ, i64_w, i32_w]
            rfl
          refine one_ (i := 12) (N := some 131) #[true, true, true, true, true, true, true, true, true, true, true, true, true, false, true, true, true, true, true, false, false, false, false, false, false, false, false, false, false, false] rfl rfl (by kernel_rfl) (by decide) (fun K hK => ?_)
          refine goes_ Try.func22 (by kernel_rfl) rfl #[.pointer (some ⟨g, 0, none⟩)] (by rfl) rfl rfl (by (try simp only [List.map_toArray, List.map_cons, List.map_nil]); rfl) ?_
          refine (disk_Read g d' _ (ALL.out _ BF.out).1.b.dk (by have := HDL.out; omega)).mono ?_
          rintro e wg ⟨v6, rfl, hv6, hb⟩
          obtain ⟨R6, q6, rfl, hq6, hC6⟩ := Kd.R_reads hv6
          have hcv : (convert 33 9 (.slice R6 d'.b.length q6)).run Try.prog wg = .ok (.string sr) wg := by rw [HSR.out]; exact str_of hC6
          have BG := Lib.hid (BF.out.trans (hb.mono BF.out.size))
          clear hb hv6 hq6 hC6 hHeld
          refine ⟨_, rfl, ?_⟩
          refine hK.out _ _ ⟨(ALL.out _ BG.out).2.1, (ALL.out _ BG.out).2.2, S3.out _ BG.out⟩ (fun hHeld => ?_)
          clear hK K
          try (refine norm_ (a' := ?_) ?_ ?_; rotate_left; focus (simp only [Act.put, List.setIfInBounds_toArray, List.set_cons_zero, List.set_cons_succ, i64_w, i32_w]; rfl))
          refine one_ (i := 13) (N := some 132) #[true, true, true, true, true, true, true, true, true, true, true, true, true, true, true, true, true, true, true, false, false, false, false, false, false, false, false, false, false, false] rfl rfl (by kernel_rfl) (by decide) (fun K hK => ?_)
          clear hHeld
          go_simp
          refine hK.out _ _ ⟨(ALL.out _ BG.out).2.1, (ALL.out _ BG.out).2.2, S3.out _ BG.out⟩ (fun hHeld => ?_)
          clear hK K
          try (refine norm_ (a' := ?_) ?_ ?_; rotate_left; focus (simp only [Act.put, List.setIfInBounds_toArray, List.set_cons_zero, List.set_cons_succ, i64_w, i32_w]; rfl))
          refine pure_ (i := 19) (N := some 138) (v := .bool false) (a' := ?_) #[true, true, true, true, true, true, true, true, true, true, true, true, true, true, true, true, true, true, true, true, false, false, false, false, false, false, false, false, false, false] rfl rfl (by kernel_rfl) (fun _ _ _ h => h) (Or.inl ⟨by rfl, ?_⟩) ?_ ?_
          · intro w'
            go_simp
            try (with_reducible rfl)
          rotate_left
          · simp only [Act.put, List.setIfInBounds_toArray, List.set_cons_zero, List.set_cons_succ, i64_w, i32_w]
            rfl
          refine pure_ (i := 20) (N := some 139) (v := ?_) (a' := ?_) #[true, true, true, true, true, true, true, true, true, true, true, true, true, true, true, true, true, true, true, true, true, false, false, false, false, false, false, false, false, false] rfl rfl (by kernel_rfl) (fun _ _ _ h => h) (Or.inl ⟨by rfl, ?_⟩) ?_ ?_
          rotate_left
          · intro w'
            go_simp
            with_reducible rfl
          rotate_left
          · simp only [Act.put, List.setIfInBounds_toArray, List.set_cons_zero, List.set_cons_succ, i64_w, i32_w]
            rfl
          refine pure_ (i := 21) (N := some 140) (v := ?_) (a' := ?_) #[true, true, true, true, true, true, true, true, true, true, true, true, true, true, true, true, true, true, true, true, true, true, false, false, false, false, false, false, false, false] rfl rfl (by kernel_rfl) (fun _ _ _ h => h) (Or.inl ⟨by rfl, ?_⟩) ?_ ?_
          rotate_left
          · intro w'
            go_simp
            with_reducible rfl
          rotate_left
          · simp only [Act.put, List.setIfInBounds_toArray, List.set_cons_zero, List.set_cons_succ, i64_w, i32_w]
            rfl
          refine pure_ (i := 22) (N := some 141) (v := ?_) (a' := ?_) #[true, true, true, true, true, true, true, true, true, true, true, true, true, true, true, true, true, true, true, true, true, true, true, false, false, false, false, false, false, false] rfl rfl (by kernel_rfl) (fun _ _ _ h => h) (Or.inl ⟨by rfl, ?_⟩) ?_ ?_
          rotate_left
          · intro w'
            go_simp
            with_reducible rfl
          rotate_left
          · simp only [Act.put, List.setIfInBounds_toArray, List.set_cons_zero, List.set_cons_succ, i64_w, i32_w]
            rfl
          refine pure_ (i := 24) (N := some 143) (v := ?_) (a' := ?_) #[true, true, true, true, true, true, true, true, true, true, true, true, true, true, true, true, true, true, true, true, true, true, true, false, true, false, false, false, false, false] rfl rfl (by kernel_rfl) (fun _ _ _ h => h) (Or.inl ⟨by rfl, ?_⟩) ?_ ?_
          rotate_left
          · intro w'
            go_simp
            with_reducible rfl
          rotate_left
          · simp only [Act.put, List.setIfInBounds_toArray, List.set_cons_zero, List.set_cons_succ, i64_w, i32_w]
            rfl
          refine pure_ (i := 25) (N := some 144) (v := ?_) (a' := ?_) #[true, true, true, true, true, true, true, true, true, true, true, true, true, true, true, true, true, true, true, true, true, true, true, false, true, true, false, false, false, false] rfl rfl (by kernel_rfl) (fun _ _ _ h => h) (Or.inl ⟨by rfl, ?_⟩) ?_ ?_
          rotate_left
          · intro w'
            go_simp
            with_reducible rfl
          rotate_left
          · simp only [Act.put, List.setIfInBounds_toArray, List.set_cons_zero, List.set_cons_succ, i64_w, i32_w]
            rfl
          refine pure_ (i := 26) (N := some 145) (v := ?_) (a' := ?_) #[true, true, true, true, true, true, true, true, true, true, true, true, true, true, true, true, true, true, true, true, true, true, true, false, true, true, true, false, false, false] rfl rfl (by kernel_rfl) (fun _ _ _ h => h) (Or.inl ⟨by rfl, ?_⟩) ?_ ?_
          rotate_left
          · intro w'
            go_simp
            with_reducible rfl
          rotate_left
          · simp only [Act.put, List.setIfInBounds_toArray, List.set_cons_zero, List.set_cons_succ, i64_w, i32_w]
            rfl
          refine take_ (i := 27) (N := some 146) (v := ?_) (a' := ?_) #[true, true, true, true, true, true, true, true, true, true, true, true, true, true, true, true, true, true, true, true, true, true, true, false, true, true, true, true, false, false] rfl rfl (by kernel_rfl) (fun _ _ _ h => h) (Or.inl ⟨by rfl, ?_⟩) hHeld ?_ ?_
          rotate_left
          · rintro w' ⟨s0, s1, s2⟩
            go_simp
            with_reducible rfl
          rotate_left
          · simp only [Act.put, List.setIfInBounds_toArray, List.set_cons_zero, List.set_cons_succ, i64_w, i32_w]
            rfl
          refine one_ (i := 23) (N := some 142) #[true, true, true, true, true, true, true, true, true, true, true, true, true, true, true, true, true, true, true, true, true, true, true, true, true, true, true, true, false, false] rfl rfl (by kernel_rfl) (by decide) (fun K hK => ?_)
          refine goes_ Try.func24 (by kernel_rfl) rfl #[.pointer (some ⟨g, 0, none⟩)] (by rfl) rfl rfl (by (try simp only [List.map_toArray, List.map_cons, List.map_nil]); rfl) ?_
          refine (disk_Lasts g d' _ (ALL.out _ BG.out).1.b.dk).mono ?_
          rintro e wh ⟨rfl, rfl⟩
          refine ⟨_, rfl, ?_⟩
          clear hHeld
          refine hK.out _ _ ⟨(ALL.out _ BG.out).2.1, (ALL.out _ BG.out).2.2, S3.out _ BG.out⟩ (fun hHeld => ?_)
          clear hK K
          try (refine norm_ (a' := ?_) ?_ ?_; rotate_left; focus (simp only [Act.put, List.setIfInBounds_toArray, List.set_cons_zero, List.set_cons_succ, i64_w, i32_w]; rfl))
          refine pure_ (i := 28) (N := some 147) (v := .bool false) (a' := ?_) #[true, true, true, true, true, true, true, true, true, true, true, true, true, true, true, true, true, true, true, true, true, true, true, true, true, true, true, true, true, false] rfl rfl (by kernel_rfl) (fun _ _ _ h => h) (Or.inl ⟨by rfl, ?_⟩) ?_ ?_
          · intro w'
            go_simp
            try (with_reducible rfl)
          rotate_left
          · simp only [Act.put, List.setIfInBounds_toArray, List.set_cons_zero, List.set_cons_succ, i64_w, i32_w]
            rfl
          refine pure_ (i := 29) (N := some 148) (v := ?_) (a' := ?_) #[true, true, true, true, true, true, true, true, true, true, true, true, true, true, true, true, true, true, true, true, true, true, true, true, true, true, true, true, true, true] rfl rfl (by kernel_rfl) (fun _ _ _ h => h) (Or.inl ⟨by rfl, ?_⟩) ?_ ?_
          rotate_left
          · intro w'
            go_simp
            with_reducible rfl
          rotate_left
          · simp only [Act.put, List.setIfInBounds_toArray, List.set_cons_zero, List.set_cons_succ, i64_w, i32_w]
            rfl
          refine done_ (by kernel_rfl) ?_
          clear hHeld hcv y1 y2 z3
          go_wp2_with fail
          go_roundw
          case rel =>
            refine ⟨k + 1, gl2, hl2, by omega, by go_num, rfl, rfl, ?_, HW5.out.trans (BG.out.mono HW5.out.size)⟩
            show Logs _ _ _ _ _ _
            rw [← HD'.out]
            exact (ALL.out _ BG.out).1
          case measure => simp [intOf]; omega
        · obtain rfl : k = l.length := by omega
          go_wp2_with fail
          go_ret
          exact ⟨rfl, HW.out⟩
  · have h1 : room < 1 ∨ 1048576 < room := by omega
    have H1 := Lib.hid h1
    clear h1 hroom
    cases r with
    | true =>
      go_wp2_with (first
        | (go_at_call 9; refine (disk_New_no room _ H1.out).mono ?_; rintro e w3 ⟨rfl, rfl⟩)
        | (go_at_call 18; refine (ref_New_no room _ H1.out).mono ?_; rintro e w4 ⟨rfl, rfl⟩)
        | fail)
      go_ret
      exact ⟨rfl, B2.out⟩
    | false =>
      go_wp2_with (first
        | (go_at_call 9; refine (disk_New_no room _ H1.out).mono ?_; rintro e w3 ⟨rfl, rfl⟩)
        | (go_at_call 18; refine (ref_New_no room _ H1.out).mono ?_; rintro e w4 ⟨rfl, rfl⟩)
        | fail)
      go_ret
      exact ⟨rfl, B2.out⟩

def lessorlaw10_WalScripts.f (a0 : Int) (l1 : List WsE) : Option Bool := if l1.length ≤ 9223372036854775807 ∧ (∀ x ∈ l1, wsOk x) then some true else none
theorem lessorlaw10_WalScripts.calls (a0 : Int) (A1 : Option Addr) (c1 : Nat) (l1 : List WsE) (r : Bool) (w : World) (hr1 : Kd.C k55 w A1 l1.length l1) (hc1 : l1.length ≤ c1) (h : lessorlaw10_WalScripts.f a0 l1 = some r) :
    Calls Try.prog 7 #[.int .i64 a0, .slice A1 l1.length c1] w fun e w' => e = .returned (.bool r) ∧ Below w.heap.size w w' := by
  unfold lessorlaw10_WalScripts.f at h
  split at h
  case isFalse => cases h
  rename_i hc
  obtain rfl : true = r := Option.some.inj h
  exact WalScripts_calls a0 A1 c1 l1 w hr1 hc1 hc.1 hc.2

end Go.Proofs.Ytfndajgmjkimgaa
