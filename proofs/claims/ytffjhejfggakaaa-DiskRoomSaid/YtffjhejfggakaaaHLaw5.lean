/-
  DiskRoom: there are never more bytes than room; what was refused changes nothing. No condition.
-/
import Derived.Test.YtffjhejfggakaaaHLaw3
namespace Go.Proofs.Ytffjhejfggakaaa
open Go.RowKit Go.Proofs.Ytffjhejfggakaaa.Pr Go.Proofs.YtffjhejfggakaaaW.PrintWords Go.Proofs.YtffjhejfggakaaaW.PrintLast Go.Proofs.YtffjhejfggakaaaW.PrintMore
attribute [local go_sem] max2_int min2_int max_two min_two max_three min_three max_four min_four
set_option linter.unusedVariables false
set_option linter.unusedSimpArgs false

theorem same_of_code (d : DkS) (b : List Int) : ((d.append b).1 ≠ 0 → (d.append b).2.b = d.b ∧ (d.append b).2.last = d.last) ∧ (d.sync.1 ≠ 0 → d.sync.2.b = d.b ∧ d.sync.2.last = d.last) ∧ ((d.swap b).1 ≠ 0 → (d.swap b).2.b = d.b ∧ (d.swap b).2.last = d.last) := by
  unfold DkS.append DkS.sync DkS.swap
  refine ⟨?_, ?_, ?_⟩
  · repeat' split
    all_goals (intro h; first | exact ⟨rfl, rfl⟩ | exact absurd rfl h)
  · repeat' split
    all_goals (intro h; first | exact ⟨rfl, rfl⟩ | exact absurd rfl h)
  · repeat' split
    all_goals (intro h; first | exact ⟨rfl, rfl⟩ | exact absurd rfl h)
theorem runs_room (d : DkS) (l : List StE) : (runs d l).room = d.room := by
  unfold runs
  induction l generalizing d with
  | nil => rfl
  | cons x l ih => rw [List.foldl_cons, ih, DkS.step_room]

set_option maxHeartbeats 8000000 in
set_option maxRecDepth 100000 in
theorem DiskRoom_calls (room : Int) (A : Option Addr) (c : Nat) (l : List StE) (w : World) (hC : Kd.C k40 w A l.length l) (hc : l.length ≤ c) (hl : l.length ≤ 9223372036854775807) (hs : ∀ x ∈ l, stOk x) :
    Calls Try.prog 6 #[.int .i64 room, .slice A l.length c] w fun e w' => e = .returned (.bool true) ∧ Below w.heap.size w w' := by
  have HC := Lib.hid hC
  have HS := Lib.hid hs
  clear hC hs
  go_enter Try.func6, Try.ntmps6
  go_wp2_with (go_at_call 8; refine (awake_calls _).mono ?_; rintro e w1 ⟨rfl, b1⟩; have B1 := Lib.hid b1; clear b1)
  obtain ⟨r, hr, hlong⟩ := long_any l hl A c w1 (Kd.C_below HC.out B1.out) hc
  refine hlong.mono ?_
  rintro e w2 ⟨rfl, hdr⟩
  have B2 := Lib.hid (B1.out.trans (hdr.below.mono B1.out.size))
  have HR := Lib.hid hr
  clear hr hlong hdr
  by_cases hroom : 1 ≤ room ∧ room ≤ 1048576
  · obtain ⟨h1, h2⟩ := hroom
    have B3 : Hid (∀ o, Below w.heap.size w (w2.alloc o)) := fun o => below_alloc B2.out o
    have B4 : Hid (∀ o o', Below w.heap.size w ((w2.alloc o).alloc o')) := fun o o' => below_alloc (below_alloc B2.out o) o'
    have BO : Hid (Both ((w2.alloc (.cells #[.int .i64 room, .slice none 0 0, .int .i64 0, .int .i64 (-1)] 48)).alloc (.cells #[.int .i64 room, .slice none 0 0, .int .i64 0, .int .i64 (-1)] 42)) w2.heap.size (w2.heap.size + 1) (DkS.new room)) := by
      refine ⟨(new_at _ _ room w2).alloc _, ?_⟩
      have := new_at 42 5 room (w2.alloc (.cells #[.int .i64 room, .slice none 0 0, .int .i64 0, .int .i64 (-1)] 48))
      rwa [World.size_alloc] at this
    have OK0 := Lib.hid (DkS.ok_new h1 h2)
    have hge : w.heap.size ≤ w2.heap.size := B2.out.size
    cases r with
    | true =>
      go_wp2_with (first
        | (go_at_call 9; refine (disk_New_ok room _ h1 h2).mono ?_; rintro e w3 ⟨rfl, rfl⟩)
        | fail)
      go_ret
      exact ⟨rfl, B3.out _⟩
    | false =>
      have hsm := HR.out rfl
      obtain ⟨hsm1, hsm2⟩ := hsm
      have HSM := Lib.hid hsm1
      clear hsm1
      go_wp2_with (first
        | (go_at_call 9; refine (disk_New_ok room _ h1 h2).mono ?_; rintro e w3 ⟨rfl, rfl⟩)
        | (go_at_call 16; refine (ref_New_ok room _ h1 h2).mono ?_; rintro e w4 ⟨rfl, rfl⟩)
        | fail)
      obtain ⟨g, hg⟩ : ∃ g, w2.heap.size = g := ⟨_, rfl⟩
      obtain ⟨h, hh⟩ : ∃ h, g + 1 = h := ⟨_, rfl⟩
      obtain ⟨W4, hW4⟩ : ∃ W4, (w2.alloc (.cells #[.int .i64 room, .slice none 0 0, .int .i64 0, .int .i64 (-1)] 48)).alloc (.cells #[.int .i64 room, .slice none 0 0, .int .i64 0, .int .i64 (-1)] 42) = W4 := ⟨_, rfl⟩
      have B5 := Lib.hid (B4.out (.cells #[.int .i64 room, .slice none 0 0, .int .i64 0, .int .i64 (-1)] 48) (.cells #[.int .i64 room, .slice none 0 0, .int .i64 0, .int .i64 (-1)] 42))
      rw [hg, hh, hW4] at BO
      rw [hW4] at B5
      rw [hg, hh, hW4]
      have GE : Hid (w.heap.size ≤ g ∧ w.heap.size ≤ h) := by exact ⟨by omega, by omega⟩
      clear hg hh hW4 hge B4 B3
      go_loopw [11] (fun i wr => ∃ k : Nat, k ≤ l.length ∧ i = .int .i64 k ∧ Hid (Both wr g h (runs (DkS.new room) (l.take k))) ∧ Hid (Below w.heap.size w wr)) (fun i _ => l.length - (intOf i).toNat)
      case atStart => exact ⟨0, Nat.zero_le _, rfl, by simpa [runs] using BO, B5⟩
      case round =>
        obtain ⟨k, hk, rfl, HB, HW⟩ := hrel
        by_cases hlt : k < l.length
        · obtain ⟨ad, A2, c2, rfl, hx0, hx1, hx2, hxl, hxc⟩ := at_step HC.out hlt
          obtain ⟨x, hx⟩ : ∃ x, x = l[k] := ⟨_, rfl⟩
          rw [← hx] at hx0 hx1 hx2 hxl hxc
          have hxm : x.f2.length ≤ 200 := by rw [hx]; exact HSM.out _ (List.getElem_mem hlt)
          have OKD := Lib.hid (runs_ok OK0.out (l := l.take k) (fun y hy => HS.out y (List.mem_of_mem_take hy)))
          have ER := Lib.hid (runs_succ (DkS.new room) l hlt)
          rw [← hx] at ER
          obtain ⟨d, hd⟩ : ∃ d, d = runs (DkS.new room) (l.take k) := ⟨_, rfl⟩
          rw [← hd] at HB OKD ER
          clear hd
          have OKN := Lib.hid (runs_ok OK0.out (l := l.take (k + 1)) (fun y hy => HS.out y (List.mem_of_mem_take hy)))
          have HDN : Hid ((runs (DkS.new room) (l.take (k + 1))).room = room) := runs_room (DkS.new room) (l.take (k + 1))
          have X0 : Hid (∀ W, Below w.heap.size w W → W.cell? (ad.add (k * 3)) = some (.int .i64 x.f0)) := fun W hW => (hW.cell (World.block_lt_of_cell? w _ hx0)).trans hx0
          have X1 : Hid (∀ W, Below w.heap.size w W → W.cell? ⟨(ad.add (k * 3)).block, (ad.add (k * 3)).off + 1, none⟩ = some (.int .i64 x.f1)) := fun W hW => (hW.cell (World.block_lt_of_cell? w _ hx1)).trans hx1
          have X2 : Hid (∀ W, Below w.heap.size w W → W.cell? ⟨(ad.add (k * 3)).block, (ad.add (k * 3)).off + 2, none⟩ = some (.slice A2 x.f2.length c2)) := fun W hW => (hW.cell (World.block_lt_of_cell? w _ hx2)).trans hx2
          have XC := Lib.hid hxc
          have p1 : (0 ≤ (k : Int)) = True := eq_true (by omega)
          have p2 : ((k : Int) < (l.length : Int)) = True := eq_true (by omega)
          obtain ⟨s8, hs8⟩ : ∃ s8, s8 = strOfNums d.b := ⟨_, rfl⟩
          have HS8 := Lib.hid hs8
          obtain ⟨kx, hkx⟩ : ∃ kx, kx = x.f0 := ⟨_, rfl⟩
          rw [← hkx] at X0
          have EK := Lib.hid hkx
          clear hxc hx hx0 hx1 hx2 hs8 hkx
          have hdl : d.b.length ≤ 140737488355328 := by have h1 := OKD.out.2.1; have h2 := OKD.out.2.2.1; omega
          have HDL := Lib.hid hdl
          clear hdl
          go_wp2_with fail
          refine (disk_Read g d _ HB.out.dk HDL.out).mono ?_
          rintro e w5 ⟨v, rfl, hv, hb⟩
          obtain ⟨A5, c5, rfl, hc5, hC5⟩ := Kd.R_reads hv
          have hcv5 : (convert 29 9 (.slice A5 d.b.length c5)).run Try.prog w5 = .ok (.string s8) w5 := by rw [HS8.out]; exact str_of hC5
          have HB5 := Lib.hid (HB.out.below hb)
          have HW5 := Lib.hid (HW.out.trans (hb.mono HW.out.size))
          have HXC5 := Lib.hid (Kd.C_below XC.out HW5.out)
          have hx0 := X0.out w5 HW5.out
          have hx1 := X1.out w5 HW5.out
          have hx2 := X2.out w5 HW5.out
          clear hv hb hC5 hc5
          by_cases hk0 : kx = 0
          · subst hk0
            have ES : Hid (d.step 0 x.f1 x.f2 = (d.append x.f2).2) := by show _ = _; unfold DkS.step; simp
            obtain ⟨d2, hd2⟩ : ∃ d2, d2 = (d.append x.f2).2 := ⟨_, rfl⟩
            obtain ⟨fc, hfc⟩ : ∃ fc, fc = (d.append x.f2).1 := ⟨_, rfl⟩
            rw [← hd2] at ES
            have ER2 : Hid (runs (DkS.new room) (l.take (k + 1)) = d2) := by show _ = _; rw [ER.out, ← EK.out, ES.out]
            rw [ER2.out] at OKN HDN
            have SM : Hid (fc ≠ 0 → d2.b = d.b ∧ d2.last = d.last) := by
              have := same_of_code d x.f2
              rw [hfc, hd2]
              exact this.1
            have HD2 := Lib.hid hd2
            have HFC := Lib.hid hfc
            have tr : decide (room < (d2.b.length : Int)) = false := decide_eq_false (by have h1 := OKN.out.2.2.1; have h2 := HDN.out; omega)
            have tr2 : (d2.b.length : Int) ≤ room := by have h1 := OKN.out.2.2.1; have h2 := HDN.out; omega
            clear hd2 hfc 
            by_cases hf0 : fc = 0
            · have tf : (fc != 0) = false := by rw [hf0]; rfl
              rw [hf0] at HFC
              subst hf0
              clear SM tf
              go_wp2_with (first
                | (go_at_call 18; refine (disk_Lasts g d _ HB5.out.dk).mono ?_; rintro e wl ⟨rfl, rfl⟩)
                | (go_at_call 11; refine (disk_Append g d A2 c2 x.f2 _ HB5.out.dk OKD.out HXC5.out hxl (by omega)).mono ?_; rw [← HD2.out, ← HFC.out]; rintro e w6 ⟨rfl, h6, f6⟩; have HM := Lib.hid (HB5.out.mid f6); have HXC6 := Lib.hid (C_fr_dk HXC5.out HB5.out.dk f6); have HW6 := Lib.hid (below_fr HW5.out f6 HW5.out.size (fun j hj => by rw [hj]; exact GE.out.1)); have H6 := Lib.hid h6; have F6 := Lib.hid f6; have hx2 := X2.out w6 HW6.out; clear h6 f6)
                | (go_at_call 19; refine (ref_Append h d A2 c2 x.f2 _ HM.out OKD.out HXC6.out hxl (by omega)).mono ?_; rw [← HD2.out, ← HFC.out]; rintro e w7 ⟨rfl, h7, f7⟩; have HB2 := Lib.hid (HB5.out.after H6.out F6.out h7 f7); have HW2 := Lib.hid (below_fr HW6.out f7 HW6.out.size (fun j hj => by rw [hj]; exact GE.out.2)); clear h7 f7)
                | fail)
              refine (disk_Read g d2 _ HB2.out.dk (by have := OKN.out.2.1; have := OKN.out.2.2.1; omega)).mono ?_
              rintro e w9 ⟨v, rfl, hv, hb⟩
              obtain ⟨A9, c9, rfl, hc9, hC9⟩ := Kd.R_reads hv
              have HB9 := Lib.hid (HB2.out.below hb)
              have HW9 := Lib.hid (HW2.out.trans (hb.mono HW2.out.size))
              clear hv hb hC9 hc9
              go_wp2_with fail
              go_roundw
              case rel => exact ⟨k + 1, by omega, by go_num, by rw [ER2.out]; exact HB9, HW9⟩
              case measure => simp [intOf]; omega
            · have tf : (fc != 0) = true := bne_iff_ne.2 hf0
              have HSAME := Lib.hid (SM.out hf0)
              clear SM hf0
              go_wp2_with (first
                | (go_at_call 18; refine (disk_Lasts g d _ HB5.out.dk).mono ?_; rintro e wl ⟨rfl, rfl⟩)
                | (go_at_call 11; refine (disk_Append g d A2 c2 x.f2 _ HB5.out.dk OKD.out HXC5.out hxl (by omega)).mono ?_; rw [← HD2.out, ← HFC.out]; rintro e w6 ⟨rfl, h6, f6⟩; have HM := Lib.hid (HB5.out.mid f6); have HXC6 := Lib.hid (C_fr_dk HXC5.out HB5.out.dk f6); have HW6 := Lib.hid (below_fr HW5.out f6 HW5.out.size (fun j hj => by rw [hj]; exact GE.out.1)); have H6 := Lib.hid h6; have F6 := Lib.hid f6; have hx2 := X2.out w6 HW6.out; clear h6 f6)
                | (go_at_call 19; refine (ref_Append h d A2 c2 x.f2 _ HM.out OKD.out HXC6.out hxl (by omega)).mono ?_; rw [← HD2.out, ← HFC.out]; rintro e w7 ⟨rfl, h7, f7⟩; have HB2 := Lib.hid (HB5.out.after H6.out F6.out h7 f7); have HW2 := Lib.hid (below_fr HW6.out f7 HW6.out.size (fun j hj => by rw [hj]; exact GE.out.2)); clear h7 f7)
                | fail)
              refine (disk_Read g d2 _ HB2.out.dk (by have := OKN.out.2.1; have := OKN.out.2.2.1; omega)).mono ?_
              rintro e w8 ⟨v, rfl, hv, hb⟩
              obtain ⟨A8, c8, rfl, hc8, hC8⟩ := Kd.R_reads hv
              have hcv : (convert 29 9 (.slice A8 d2.b.length c8)).run Try.prog w8 = .ok (.string s8) w8 := by rw [HS8.out, ← HSAME.out.1]; exact str_of hC8
              have HB8 := Lib.hid (HB2.out.below hb)
              have HW8 := Lib.hid (HW2.out.trans (hb.mono HW2.out.size))
              clear hv hb hC8 hc8
              go_wp2_with (go_at_call 18; refine (disk_Lasts g d2 _ HB8.out.dk).mono ?_; rw [HSAME.out.2]; rintro e wc ⟨rfl, rfl⟩)
              refine (disk_Read g d2 _ HB8.out.dk (by have := OKN.out.2.1; have := OKN.out.2.2.1; omega)).mono ?_
              rintro e w9 ⟨v, rfl, hv, hb⟩
              obtain ⟨A9, c9, rfl, hc9, hC9⟩ := Kd.R_reads hv
              have HB9 := Lib.hid (HB8.out.below hb)
              have HW9 := Lib.hid (HW8.out.trans (hb.mono HW8.out.size))
              clear hv hb hC9 hc9 hcv
              go_wp2_with fail
              go_roundw
              case rel => exact ⟨k + 1, by omega, by go_num, by rw [ER2.out]; exact HB9, HW9⟩
              case measure => simp [intOf]; omega
          have t0 : (kx == 0) = false := beq_eq_false_iff_ne.2 hk0
          by_cases hk1 : kx = 1
          · subst hk1
            have ES : Hid (d.step 1 x.f1 x.f2 = (d.sync).2) := by show _ = _; unfold DkS.step; simp
            obtain ⟨d2, hd2⟩ : ∃ d2, d2 = (d.sync).2 := ⟨_, rfl⟩
            obtain ⟨fc, hfc⟩ : ∃ fc, fc = (d.sync).1 := ⟨_, rfl⟩
            rw [← hd2] at ES
            have ER2 : Hid (runs (DkS.new room) (l.take (k + 1)) = d2) := by show _ = _; rw [ER.out, ← EK.out, ES.out]
            rw [ER2.out] at OKN HDN
            have SM : Hid (fc ≠ 0 → d2.b = d.b ∧ d2.last = d.last) := by
              have := same_of_code d x.f2
              rw [hfc, hd2]
              exact this.2.1
            have HD2 := Lib.hid hd2
            have HFC := Lib.hid hfc
            have tr : decide (room < (d2.b.length : Int)) = false := decide_eq_false (by have h1 := OKN.out.2.2.1; have h2 := HDN.out; omega)
            have tr2 : (d2.b.length : Int) ≤ room := by have h1 := OKN.out.2.2.1; have h2 := HDN.out; omega
            clear hd2 hfc t0
            by_cases hf0 : fc = 0
            · have tf : (fc != 0) = false := by rw [hf0]; rfl
              rw [hf0] at HFC
              subst hf0
              clear SM tf
              go_wp2_with (first
                | (go_at_call 18; refine (disk_Lasts g d _ HB5.out.dk).mono ?_; rintro e wl ⟨rfl, rfl⟩)
                | (go_at_call 13; refine (disk_Sync g d _ HB5.out.dk OKD.out).mono ?_; rw [← HD2.out, ← HFC.out]; rintro e w6 ⟨rfl, h6, f6⟩; have HM := Lib.hid (HB5.out.mid f6); have HXC6 := Lib.hid (C_fr_dk HXC5.out HB5.out.dk f6); have HW6 := Lib.hid (below_fr HW5.out f6 HW5.out.size (fun j hj => by rw [hj]; exact GE.out.1)); have H6 := Lib.hid h6; have F6 := Lib.hid f6; have hx2 := X2.out w6 HW6.out; clear h6 f6)
                | (go_at_call 20; refine (ref_Sync h d _ HM.out OKD.out).mono ?_; rw [← HD2.out, ← HFC.out]; rintro e w7 ⟨rfl, h7, f7⟩; have HB2 := Lib.hid (HB5.out.after H6.out F6.out h7 f7); have HW2 := Lib.hid (below_fr HW6.out f7 HW6.out.size (fun j hj => by rw [hj]; exact GE.out.2)); clear h7 f7)
                | fail)
              refine (disk_Read g d2 _ HB2.out.dk (by have := OKN.out.2.1; have := OKN.out.2.2.1; omega)).mono ?_
              rintro e w9 ⟨v, rfl, hv, hb⟩
              obtain ⟨A9, c9, rfl, hc9, hC9⟩ := Kd.R_reads hv
              have HB9 := Lib.hid (HB2.out.below hb)
              have HW9 := Lib.hid (HW2.out.trans (hb.mono HW2.out.size))
              clear hv hb hC9 hc9
              go_wp2_with fail
              go_roundw
              case rel => exact ⟨k + 1, by omega, by go_num, by rw [ER2.out]; exact HB9, HW9⟩
              case measure => simp [intOf]; omega
            · have tf : (fc != 0) = true := bne_iff_ne.2 hf0
              have HSAME := Lib.hid (SM.out hf0)
              clear SM hf0
              go_wp2_with (first
                | (go_at_call 18; refine (disk_Lasts g d _ HB5.out.dk).mono ?_; rintro e wl ⟨rfl, rfl⟩)
                | (go_at_call 13; refine (disk_Sync g d _ HB5.out.dk OKD.out).mono ?_; rw [← HD2.out, ← HFC.out]; rintro e w6 ⟨rfl, h6, f6⟩; have HM := Lib.hid (HB5.out.mid f6); have HXC6 := Lib.hid (C_fr_dk HXC5.out HB5.out.dk f6); have HW6 := Lib.hid (below_fr HW5.out f6 HW5.out.size (fun j hj => by rw [hj]; exact GE.out.1)); have H6 := Lib.hid h6; have F6 := Lib.hid f6; have hx2 := X2.out w6 HW6.out; clear h6 f6)
                | (go_at_call 20; refine (ref_Sync h d _ HM.out OKD.out).mono ?_; rw [← HD2.out, ← HFC.out]; rintro e w7 ⟨rfl, h7, f7⟩; have HB2 := Lib.hid (HB5.out.after H6.out F6.out h7 f7); have HW2 := Lib.hid (below_fr HW6.out f7 HW6.out.size (fun j hj => by rw [hj]; exact GE.out.2)); clear h7 f7)
                | fail)
              refine (disk_Read g d2 _ HB2.out.dk (by have := OKN.out.2.1; have := OKN.out.2.2.1; omega)).mono ?_
              rintro e w8 ⟨v, rfl, hv, hb⟩
              obtain ⟨A8, c8, rfl, hc8, hC8⟩ := Kd.R_reads hv
              have hcv : (convert 29 9 (.slice A8 d2.b.length c8)).run Try.prog w8 = .ok (.string s8) w8 := by rw [HS8.out, ← HSAME.out.1]; exact str_of hC8
              have HB8 := Lib.hid (HB2.out.below hb)
              have HW8 := Lib.hid (HW2.out.trans (hb.mono HW2.out.size))
              clear hv hb hC8 hc8
              go_wp2_with (go_at_call 18; refine (disk_Lasts g d2 _ HB8.out.dk).mono ?_; rw [HSAME.out.2]; rintro e wc ⟨rfl, rfl⟩)
              refine (disk_Read g d2 _ HB8.out.dk (by have := OKN.out.2.1; have := OKN.out.2.2.1; omega)).mono ?_
              rintro e w9 ⟨v, rfl, hv, hb⟩
              obtain ⟨A9, c9, rfl, hc9, hC9⟩ := Kd.R_reads hv
              have HB9 := Lib.hid (HB8.out.below hb)
              have HW9 := Lib.hid (HW8.out.trans (hb.mono HW8.out.size))
              clear hv hb hC9 hc9 hcv
              go_wp2_with fail
              go_roundw
              case rel => exact ⟨k + 1, by omega, by go_num, by rw [ER2.out]; exact HB9, HW9⟩
              case measure => simp [intOf]; omega
          have t1 : (kx == 1) = false := beq_eq_false_iff_ne.2 hk1
          by_cases hk2 : kx = 2
          · subst hk2
            have ES : Hid (d.step 2 x.f1 x.f2 = (d.swap x.f2).2) := by show _ = _; unfold DkS.step; simp
            obtain ⟨d2, hd2⟩ : ∃ d2, d2 = (d.swap x.f2).2 := ⟨_, rfl⟩
            obtain ⟨fc, hfc⟩ : ∃ fc, fc = (d.swap x.f2).1 := ⟨_, rfl⟩
            rw [← hd2] at ES
            have ER2 : Hid (runs (DkS.new room) (l.take (k + 1)) = d2) := by show _ = _; rw [ER.out, ← EK.out, ES.out]
            rw [ER2.out] at OKN HDN
            have SM : Hid (fc ≠ 0 → d2.b = d.b ∧ d2.last = d.last) := by
              have := same_of_code d x.f2
              rw [hfc, hd2]
              exact this.2.2
            have HD2 := Lib.hid hd2
            have HFC := Lib.hid hfc
            have tr : decide (room < (d2.b.length : Int)) = false := decide_eq_false (by have h1 := OKN.out.2.2.1; have h2 := HDN.out; omega)
            have tr2 : (d2.b.length : Int) ≤ room := by have h1 := OKN.out.2.2.1; have h2 := HDN.out; omega
            clear hd2 hfc t0 t1
            by_cases hf0 : fc = 0
            · have tf : (fc != 0) = false := by rw [hf0]; rfl
              rw [hf0] at HFC
              subst hf0
              clear SM tf
              go_wp2_with (first
                | (go_at_call 18; refine (disk_Lasts g d _ HB5.out.dk).mono ?_; rintro e wl ⟨rfl, rfl⟩)
                | (go_at_call 21; refine (disk_Swap g d A2 c2 x.f2 _ HB5.out.dk OKD.out HXC5.out hxl (by omega)).mono ?_; rw [← HD2.out, ← HFC.out]; rintro e w6 ⟨rfl, h6, f6⟩; have HM := Lib.hid (HB5.out.mid f6); have HXC6 := Lib.hid (C_fr_dk HXC5.out HB5.out.dk f6); have HW6 := Lib.hid (below_fr HW5.out f6 HW5.out.size (fun j hj => by rw [hj]; exact GE.out.1)); have H6 := Lib.hid h6; have F6 := Lib.hid f6; have hx2 := X2.out w6 HW6.out; clear h6 f6)
                | (go_at_call 22; refine (ref_Swap h d A2 c2 x.f2 _ HM.out OKD.out HXC6.out hxl (by omega)).mono ?_; rw [← HD2.out, ← HFC.out]; rintro e w7 ⟨rfl, h7, f7⟩; have HB2 := Lib.hid (HB5.out.after H6.out F6.out h7 f7); have HW2 := Lib.hid (below_fr HW6.out f7 HW6.out.size (fun j hj => by rw [hj]; exact GE.out.2)); clear h7 f7)
                | fail)
              refine (disk_Read g d2 _ HB2.out.dk (by have := OKN.out.2.1; have := OKN.out.2.2.1; omega)).mono ?_
              rintro e w9 ⟨v, rfl, hv, hb⟩
              obtain ⟨A9, c9, rfl, hc9, hC9⟩ := Kd.R_reads hv
              have HB9 := Lib.hid (HB2.out.below hb)
              have HW9 := Lib.hid (HW2.out.trans (hb.mono HW2.out.size))
              clear hv hb hC9 hc9
              go_wp2_with fail
              go_roundw
              case rel => exact ⟨k + 1, by omega, by go_num, by rw [ER2.out]; exact HB9, HW9⟩
              case measure => simp [intOf]; omega
            · have tf : (fc != 0) = true := bne_iff_ne.2 hf0
              have HSAME := Lib.hid (SM.out hf0)
              clear SM hf0
              go_wp2_with (first
                | (go_at_call 18; refine (disk_Lasts g d _ HB5.out.dk).mono ?_; rintro e wl ⟨rfl, rfl⟩)
                | (go_at_call 21; refine (disk_Swap g d A2 c2 x.f2 _ HB5.out.dk OKD.out HXC5.out hxl (by omega)).mono ?_; rw [← HD2.out, ← HFC.out]; rintro e w6 ⟨rfl, h6, f6⟩; have HM := Lib.hid (HB5.out.mid f6); have HXC6 := Lib.hid (C_fr_dk HXC5.out HB5.out.dk f6); have HW6 := Lib.hid (below_fr HW5.out f6 HW5.out.size (fun j hj => by rw [hj]; exact GE.out.1)); have H6 := Lib.hid h6; have F6 := Lib.hid f6; have hx2 := X2.out w6 HW6.out; clear h6 f6)
                | (go_at_call 22; refine (ref_Swap h d A2 c2 x.f2 _ HM.out OKD.out HXC6.out hxl (by omega)).mono ?_; rw [← HD2.out, ← HFC.out]; rintro e w7 ⟨rfl, h7, f7⟩; have HB2 := Lib.hid (HB5.out.after H6.out F6.out h7 f7); have HW2 := Lib.hid (below_fr HW6.out f7 HW6.out.size (fun j hj => by rw [hj]; exact GE.out.2)); clear h7 f7)
                | fail)
              refine (disk_Read g d2 _ HB2.out.dk (by have := OKN.out.2.1; have := OKN.out.2.2.1; omega)).mono ?_
              rintro e w8 ⟨v, rfl, hv, hb⟩
              obtain ⟨A8, c8, rfl, hc8, hC8⟩ := Kd.R_reads hv
              have hcv : (convert 29 9 (.slice A8 d2.b.length c8)).run Try.prog w8 = .ok (.string s8) w8 := by rw [HS8.out, ← HSAME.out.1]; exact str_of hC8
              have HB8 := Lib.hid (HB2.out.below hb)
              have HW8 := Lib.hid (HW2.out.trans (hb.mono HW2.out.size))
              clear hv hb hC8 hc8
              go_wp2_with (go_at_call 18; refine (disk_Lasts g d2 _ HB8.out.dk).mono ?_; rw [HSAME.out.2]; rintro e wc ⟨rfl, rfl⟩)
              refine (disk_Read g d2 _ HB8.out.dk (by have := OKN.out.2.1; have := OKN.out.2.2.1; omega)).mono ?_
              rintro e w9 ⟨v, rfl, hv, hb⟩
              obtain ⟨A9, c9, rfl, hc9, hC9⟩ := Kd.R_reads hv
              have HB9 := Lib.hid (HB8.out.below hb)
              have HW9 := Lib.hid (HW8.out.trans (hb.mono HW8.out.size))
              clear hv hb hC9 hc9 hcv
              go_wp2_with fail
              go_roundw
              case rel => exact ⟨k + 1, by omega, by go_num, by rw [ER2.out]; exact HB9, HW9⟩
              case measure => simp [intOf]; omega
          have t2 : (kx == 2) = false := beq_eq_false_iff_ne.2 hk2
          obtain ⟨d2, hd2⟩ : ∃ d2, d2 = d.step kx x.f1 x.f2 := ⟨_, rfl⟩
          have ER2 : Hid (runs (DkS.new room) (l.take (k + 1)) = d2) := by show _ = _; rw [ER.out, ← EK.out, hd2]
          rw [ER2.out] at OKN HDN
          have HD2 := Lib.hid hd2
          have tr : decide (room < (d2.b.length : Int)) = false := decide_eq_false (by have h1 := OKN.out.2.2.1; have h2 := HDN.out; omega)
          have tr2 : (d2.b.length : Int) ≤ room := by have h1 := OKN.out.2.2.1; have h2 := HDN.out; omega
          clear hk0 hk1 hk2 hd2
          go_wp2_with (first
            | (go_at_call 18; refine (disk_Lasts g d _ HB5.out.dk).mono ?_; rintro e wl ⟨rfl, rfl⟩)
            | (go_at_call 17; refine (step_calls g h d kx x.f1 A2 c2 x.f2 _ HB5.out OKD.out HXC5.out hxl (by omega)).mono ?_; rw [← HD2.out]; rintro e wa ⟨rfl, hb, hf⟩; have HB2 := Lib.hid hb; have HW2 := Lib.hid (below_fr HW5.out hf HW5.out.size (fun j hj => by rcases hj with rfl | rfl; exact GE.out.1; exact GE.out.2)); clear hb hf)
            | fail)
          refine (disk_Read g d2 _ HB2.out.dk (by have := OKN.out.2.1; have := OKN.out.2.2.1; omega)).mono ?_
          rintro e w9 ⟨v, rfl, hv, hb⟩
          obtain ⟨A9, c9, rfl, hc9, hC9⟩ := Kd.R_reads hv
          have HB9 := Lib.hid (HB2.out.below hb)
          have HW9 := Lib.hid (HW2.out.trans (hb.mono HW2.out.size))
          clear hv hb hC9 hc9
          go_wp2_with fail
          go_roundw
          case rel => exact ⟨k + 1, by omega, by go_num, by rw [ER2.out]; exact HB9, HW9⟩
          case measure => simp [intOf]; omega
        · obtain rfl : k = l.length := by omega
          have OKD := Lib.hid (runs_ok OK0.out (l := l.take l.length) (fun y hy => HS.out y (List.mem_of_mem_take hy)))
          obtain ⟨d, hd⟩ : ∃ d, d = runs (DkS.new room) (l.take l.length) := ⟨_, rfl⟩
          have hdr : d.room = room := by
            rw [hd]; exact runs_room _ _
          rw [← hd] at HB OKD
          have HDR := Lib.hid hdr
          clear hd hdr BO B5
          go_wp2_with fail
          go_ret
          exact ⟨rfl, HW.out⟩
  · have h1 : room < 1 ∨ 1048576 < room := by omega
    have H1 := Lib.hid h1
    clear h1 hroom
    go_wp2_with (first
      | (go_at_call 9; refine (disk_New_no room _ H1.out).mono ?_; rintro e w3 ⟨rfl, rfl⟩)
      | fail)
    go_ret
    exact ⟨rfl, B2.out⟩

def lessorlaw08_DiskRoom.f (a0 : Int) (l1 : List StE) : Option Bool := if l1.length ≤ 9223372036854775807 ∧ (∀ x ∈ l1, stOk x) then some true else none
theorem lessorlaw08_DiskRoom.calls (a0 : Int) (A1 : Option Addr) (c1 : Nat) (l1 : List StE) (r : Bool) (w : World) (hr1 : Kd.C k40 w A1 l1.length l1) (hc1 : l1.length ≤ c1) (h : lessorlaw08_DiskRoom.f a0 l1 = some r) :
    Calls Try.prog 6 #[.int .i64 a0, .slice A1 l1.length c1] w fun e w' => e = .returned (.bool r) ∧ Below w.heap.size w w' := by
  unfold lessorlaw08_DiskRoom.f at h
  split at h
  case isFalse => cases h
  rename_i hc
  obtain rfl : true = r := Option.some.inj h
  exact DiskRoom_calls a0 A1 c1 l1 w hr1 hc1 hc.1 hc.2

end Go.Proofs.Ytffjhejfggakaaa
