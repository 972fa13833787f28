/-
  WalLasts: behind any crash, opening finds a beginning of what was appended, with all that was synced. No condition.
-/
import Derived.Test.YtfndajgmjkimgaaHWalBase
import Derived.Test.YtfndajgmjkimgaaWNEv
import Derived.Test.YtfndajgmjkimgaaPrF15
namespace Go.Proofs.Ytfndajgmjkimgaa
open Go.RowKit Go.Proofs.Ytfndajgmjkimgaa.Pr Go.Proofs.Ytfndajgmjkimgaa.FrL Go.Proofs.YtfndajgmjkimgaaW.PrintWords Go.Proofs.YtfndajgmjkimgaaW.PrintLast Go.Proofs.YtfndajgmjkimgaaW.PrintMore
attribute [local go_sem] max2_int min2_int max_two min_two max_three min_three max_four min_four
set_option linter.unusedVariables false
set_option linter.unusedSimpArgs false

/-- A disk stays, where a row of another type grows. -/
theorem DkAt.grown {T U E : TypeId} {w W : World} {g : Nat} {d : DkS} {row : Option Nat} (h : DkAt T U w g d) (hg : w.grownBy W row) (ht : ∀ k, row = some k → ∃ cs, w.heap[k]? = some (.cells cs E (0, 0))) (h1 : E ≠ T) (h2 : E ≠ U) : DkAt T U W g d := by
  obtain ⟨v, hv, hr⟩ := h
  have hf := fr_grown hg
  refine ⟨v, hf.blk hv (fun hk => ?_), R_fr hr hf (fun k hk hlt q hq cs hc => ?_)⟩
  · obtain ⟨cs, hc⟩ := ht g hk.symm
    rw [hv] at hc
    obtain ⟨_, e, _⟩ := Obj.cells.inj (Option.some.inj hc)
    exact h1 e.symm
  · obtain ⟨cs', hc'⟩ := ht k hk.symm
    rw [hc'] at hc
    obtain ⟨_, e, _⟩ := Obj.cells.inj (Option.some.inj hc)
    rcases List.mem_cons.1 hq with rfl | hq
    · exact h2 e
    · cases hq
theorem at_flag {w : World} {A : Option Addr} {l : List Bool} (hC : Kd.C Kd.bool w A l.length l) {k : Nat} (hk : k < l.length) : ∃ ad, A = some ad ∧ w.cell? (ad.add k) = some (.bool l[k]) := by
  obtain ⟨ad, e, hc⟩ := hC.2.2 (by omega)
  obtain ⟨cs, hl, hK, hcell⟩ := hc k l[k] (List.getElem?_eq_getElem hk)
  have e2 : cs = [.bool l[k]] := hK
  subst e2
  refine ⟨ad, e, ?_⟩
  have := hcell 0 _ rfl
  rwa [show Kd.bool.sz = 1 from rfl, Nat.mul_one, Nat.add_zero] at this
theorem L6_grown {w W : World} {row : Option Nat} {k : Nat} {o : Obj} (hg : w.grownBy W row) (h : w.heap[k]? = some o) (hne : some k ≠ row) : W.heap[k]? = some o := (hg.block k (blk_lt h) hne).trans h
theorem wl_info : (Try.prog.info? 33).map (fun i => (i.zero, i.size, i.bytes)) = some (some (.slice none 0 0), 1, 24) := by kernel_rfl

/-- A log whose records are R, of which so many last. -/
def WL (d : DkS) (R : List (List Int)) (s : Nat) : Prop := d.b = puts R ∧ (∀ x ∈ R, rOk x) ∧ s ≤ R.length ∧ d.last = ((puts (R.take s)).length : Int) ∧ d.inn = -1
theorem wl_new (room : Int) : WL (DkS.new room) [] 0 := ⟨by simp [DkS.new, puts], by simp, Nat.le_refl _, by simp [DkS.new, puts], rfl⟩
theorem wl_count {d : DkS} (h : d.inn = -1) : d.count = d := by
  unfold DkS.count
  rw [if_neg (by omega)]
theorem wl_put {d : DkS} {R : List (List Int)} {s : Nat} (h : WL d R s) {x : List Int} (h0 : (d.put x).1 = 0) : WL (d.put x).2 (R ++ [x]) s := by
  obtain ⟨hb, hr, hs, hl, hi⟩ := h
  unfold DkS.put at h0 ⊢
  split at h0
  case isFalse => cases h0
  rename_i hx
  rw [if_pos hx]
  unfold DkS.append at h0 ⊢
  split at h0
  · cases h0
  · rename_i h1
    rw [if_neg h1]
    split at h0
    · cases h0
    · rename_i h2
      rw [if_neg h2, wl_count hi]
      refine ⟨by show d.b ++ putOf x = _; rw [hb, puts_snoc], fun y hy => ?_, by rw [List.length_append]; omega, ?_, hi⟩
      · rcases List.mem_append.1 hy with hy | hy
        · exact hr y hy
        · rw [List.mem_singleton.1 hy]; exact hx
      · show d.last = _
        rw [List.take_append_of_le_length hs]; exact hl
theorem wl_put_no {d : DkS} {R : List (List Int)} {s : Nat} (h : WL d R s) {x : List Int} (h0 : (d.put x).1 ≠ 0) : WL (d.put x).2 R s := by
  unfold DkS.put at h0 ⊢
  split
  · rename_i hx
    rw [if_pos hx] at h0
    unfold DkS.append at h0 ⊢
    rw [wl_count h.2.2.2.2] at h0 ⊢
    split
    · exact h
    · rename_i h1
      rw [if_neg h1] at h0
      split
      · exact h
      · rename_i h2
        rw [if_neg h2] at h0
        exact absurd rfl h0
  · exact h
theorem wl_sync {d : DkS} {R : List (List Int)} {s : Nat} (h : WL d R s) : d.sync.1 = 0 ∧ WL d.sync.2 R R.length := by
  unfold DkS.sync
  rw [wl_count h.2.2.2.2, if_neg (by rw [h.2.2.2.2]; decide)]
  exact ⟨rfl, h.1, h.2.1, Nat.le_refl _, by show (d.b.length : Int) = _; rw [h.1, List.take_length], h.2.2.2.2⟩
theorem wl_cut (R : List (List Int)) (cut : Nat) : ∀ (n : Nat), n ≤ R.length → E R n ≤ cut → ∃ W, n ≤ W ∧ W ≤ R.length ∧ E R W ≤ cut ∧ (W = R.length ∨ cut < E R (W + 1)) := by
  intro n
  obtain ⟨m, hm⟩ : ∃ m, m = R.length - n := ⟨_, rfl⟩
  induction m generalizing n with
  | zero => intro h1 h2; exact ⟨n, Nat.le_refl _, h1, h2, .inl (by omega)⟩
  | succ m ih =>
    intro h1 h2
    by_cases h : E R (n + 1) ≤ cut
    · obtain ⟨W, a, b, c, e⟩ := ih (n + 1) (by omega) (by omega) h
      exact ⟨W, by omega, b, c, e⟩
    · exact ⟨n, Nat.le_refl _, h1, h2, .inr (by omega)⟩
theorem wl_left {d : DkS} {R : List (List Int)} {s : Nat} (h : WL d R s) (hok : d.ok) (n : Int) : ∃ W, s ≤ W ∧ W ≤ R.length ∧ ((d.crash n).open.2).recs = R.take W := by
  obtain ⟨hb, hr, hs, hl, hi⟩ := h
  obtain ⟨h1, h2⟩ := DkS.crashed_len hok n
  obtain ⟨cut, hcut⟩ : ∃ cut, d.crashed n = d.b.take cut := ⟨_, rfl⟩
  have hlen : (d.crashed n).length = min cut d.b.length := by rw [hcut, List.length_take]
  have hc : d.crashed n = (puts R).take (min cut d.b.length) := by
    rw [hcut, ← hb]
    by_cases h : cut ≤ d.b.length
    · rw [Nat.min_eq_left h]
    · rw [Nat.min_eq_right (by omega), List.take_length, List.take_of_length_le (by omega)]
  obtain ⟨W, a, b, c, e⟩ := wl_cut R (min cut d.b.length) s hs (by unfold E; rw [hl] at h2; omega)
  have hscan := cut_scan (l := R) hr b c (by rw [← hb]; omega) e
  have hrec : (d.crash n).recs = R.take W := by
    unfold DkS.recs
    show (frScan (d.crashed n)).1 = _
    rw [hc, hscan]
  refine ⟨W, a, b, ?_⟩
  have hok2 := DkS.ok_crash hok n
  obtain ⟨u, g1, g2, g3, g4⟩ := ok_used hok2
  have h0 := crash_open hok n
  have hb2 : ((d.crash n).open.2).b = puts (d.crash n).recs := by
    rw [g3]
    unfold DkS.open at h0 ⊢
    rw [g2] at h0 ⊢
    by_cases hlt : (u : Int) < (d.crash n).b.length
    · rw [if_pos hlt, Int.toNat_natCast] at h0 ⊢
      unfold DkS.swap at h0 ⊢
      split
      · rename_i hi; rw [if_pos hi] at h0; cases h0
      · rename_i hi
        rw [if_neg hi] at h0
        split
        · rename_i hj; rw [if_pos hj] at h0; cases h0
        · rfl
    · rw [if_neg hlt, List.take_of_length_le (by omega)]
  rw [← hrec]
  exact (framed_recs g4 hb2).1

/-- The row of what was appended: its own block aside, it leads to what the caller has. -/
abbrev AllN (w : World) (base g : Nat) (v : Value) (R : List (List Int)) : Prop := Kd.N (Kd.slice 5 (Kd.int .u8)) 33 w base (fun k => k ≠ g) v R
theorem AllN.fr {w W : World} {base g : Nat} {v : Value} {R : List (List Int)} (h : AllN w base g v R) (hf : Fr w W (fun k => k = g)) : AllN W base g v R := Kd.N_step h (fun k hk hlt => hf.block k hlt hk)

set_option maxHeartbeats 8000000 in
set_option maxRecDepth 100000 in
theorem WalLasts_calls (a b : Int) (Al : Option Addr) (cl : Nat) (l : List (List Int)) (As : Option Addr) (cs : Nat) (ss : List Bool) (w : World) (hC : (Kd.slice 5 (Kd.int .u8)).C w Al l.length l) (hc : l.length ≤ cl) (hS : Kd.C Kd.bool w As ss.length ss) (hcs : ss.length ≤ cs) (hby : ∀ x ∈ l, ∀ y ∈ x, 0 ≤ y ∧ y ≤ 255) :
    Calls Try.prog 3 #[.agg #[.int .i64 a, .int .i64 b], .slice Al l.length cl, .slice As ss.length cs] w fun e w' => e = .returned (.bool true) ∧ Below w.heap.size w w' := by
  have HC := Lib.hid hC
  have HS := Lib.hid hS
  have HBY := Lib.hid hby
  have hsl : ss.length ≤ 9223372036854775807 := hS.2.1
  have hll : l.length ≤ 9223372036854775807 := hC.2.1
  clear hC hS hby
  obtain ⟨gx, hgx⟩ : ∃ g, w.heap.size = g := ⟨_, rfl⟩
  obtain ⟨W0, hW0⟩ : ∃ W, w.alloc (.cells #[.int .i64 a, .int .i64 b] 22) = W := ⟨_, rfl⟩
  have X0 : Hid (W0.heap[gx]? = some (.cells #[.int .i64 a, .int .i64 b] 22 (0, 0))) := by show _ = _; rw [← hW0, ← hgx]; exact blk_new _ _
  have B0 : Hid (Below w.heap.size w W0) := by show Below _ _ _; rw [← hW0]; exact below_alloc (Below.refl _ _) _
  have GX : Hid (w.heap.size = gx) := hgx
  go_enter Try.func3, Try.ntmps3
  go_upto_region 1 with fail
  clear hW0 hgx
  go_wp2_with fail
  refine (wawake_calls _).mono ?_
  rintro e w1 ⟨rfl, b1⟩
  have X1 := Lib.hid (blk_below X0.out b1)
  have B1 := Lib.hid (B0.out.trans (b1.mono B0.out.size))
  clear b1 X0 B0
  have x0 : w1.cell? ⟨gx, 0, none⟩ = some (.int .i64 a) := (blk_cell X1.out 0).trans rfl
  by_cases hroom : 1 ≤ a ∧ a ≤ 1048576
  · obtain ⟨h1, h2⟩ := hroom
    have OK0 := Lib.hid (DkS.ok_new h1 h2)
    go_wp2_with fail
    refine (disk_New_ok a _ h1 h2).mono ?_
    rintro e w2 ⟨rfl, rfl⟩
    obtain ⟨g, hg⟩ : ∃ g, w1.heap.size = g := ⟨_, rfl⟩
    have hD := new_at 64 5 a w1
    obtain ⟨W2, hW2⟩ : ∃ W, w1.alloc (.cells #[.int .i64 a, .slice none 0 0, .int .i64 0, .int .i64 (-1)] 64) = W := ⟨_, rfl⟩
    have D2 : Hid (DK W2 g (DkS.new a)) := by show DkAt _ _ _ _ _; rw [← hW2, ← hg]; exact hD
    have B2 : Hid (Below w.heap.size w W2) := by show Below _ _ _; rw [← hW2]; exact below_alloc B1.out _
    have X2 : Hid (W2.heap[gx]? = some (.cells #[.int .i64 a, .int .i64 b] 22 (0, 0))) := by show _ = _; rw [← hW2]; exact blk_alloc X1.out _
    have GE : Hid (w.heap.size ≤ g ∧ gx ≠ g) := ⟨by rw [← hg]; exact B1.out.size, by have := blk_lt X1.out; omega⟩
    rw [hW2, hg]
    clear hW2 hg hD B1 X1 x0
    by_cases hlong : l.length > 60
    · have p9 : (60 < (l.length : Int)) = True := eq_true (by omega)
      go_wp2_with fail
      go_ret
      exact ⟨rfl, B2.out⟩
    · have p9 : (60 < (l.length : Int)) = False := eq_false (by omega)
      go_wp2_with fail
      refine (wal_Open g _ _ D2.out OK0.out).mono ?_
      rw [open_new]
      rintro e w5 ⟨p, rfl, h5, f5, h6, _⟩
      obtain ⟨l5, hl5, rfl, lk5⟩ := h6 rfl
      have LK5 := Lib.hid lk5
      have H5 := Lib.hid h5
      have X5 := Lib.hid (f5.blk X2.out GE.out.2)
      have B5 := Lib.hid (below_fr B2.out f5 B2.out.size (fun j hj => by rw [hj]; exact GE.out.1))
      have NE5 : Hid (l5 ≠ g) := by obtain ⟨u, hu, _⟩ := h5; exact blk_ne lk5 hu (by decide)
      clear h5 f5 h6 hl5 lk5 D2 B2 X2
      go_wp2_with fail
      go_loopw [12, 13, 14] (fun v s i wr => ∃ (k sure : Nat) (d : DkS) (R : List (List Int)), k ≤ l.length ∧ i = .int .i64 k ∧ s = .int .i64 sure ∧ Hid (DK wr g d ∧ d.ok ∧ WL d R sure ∧ R.length ≤ k) ∧ Hid (LK wr l5 g) ∧ Hid (wr.heap[gx]? = some (.cells #[.int .i64 a, .int .i64 b] 22 (0, 0))) ∧ Hid (AllN wr w.heap.size g v R) ∧ Hid (Below w.heap.size w wr)) (fun _ _ i _ => l.length - (intOf i).toNat)
      case atStart => exact ⟨0, 0, DkS.new a, [], Nat.zero_le _, rfl, rfl, ⟨H5.out, OK0.out, wl_new a, Nat.le_refl _⟩, LK5, X5, by show Kd.N _ _ _ _ _ _ _; exact Kd.N_nil _ _ _ _ _, B5⟩
      case round =>
        clear H5 LK5 X5 B5 OK0
        obtain ⟨k, sure, d, R, hk, rfl, rfl, HD, HL, HX, HN, HW⟩ := hrel
        by_cases hlt : k < l.length
        · obtain ⟨ad, A2, c2, rfl, hx, hxl, hxc⟩ := at_row HC.out k hlt
          obtain ⟨x, hxe⟩ : ∃ x, x = l[k] := ⟨_, rfl⟩
          rw [← hxe] at hx hxl hxc
          have HXF := Lib.hid (Kd.C_F (Kd.heap_int .u8) hxc)
          replace hx := (HW.out.cell (World.block_lt_of_cell? w _ hx)).trans hx
          have HXC := Lib.hid hxc
          have HXL := Lib.hid hxl
          have HXB : Hid (∀ y ∈ x, 0 ≤ y ∧ y ≤ 255) := by show ∀ y ∈ x, _; rw [hxe]; exact HBY.out _ (List.getElem_mem hlt)
          have p1 : (0 ≤ (k : Int)) = True := eq_true (by omega)
          have p2 : ((k : Int) < (l.length : Int)) = True := eq_true (by omega)
          clear hxc hxl hxe
          by_cases big : (x.length : Int) > 1100
          · go_wp2_with fail
            go_ret
            exact ⟨rfl, HW.out⟩
          · go_wp2_with fail
            refine (wal_Put l5 g d A2 c2 x _ HL.out HD.out.1 HD.out.2.1 (Kd.C_below HXC.out HW.out) HXL.out).mono ?_
            rintro e w6 ⟨rfl, h6, f6⟩
            have OK6 := Lib.hid (ok_put HD.out.2.1 HXB.out)
            have L6 := Lib.hid (f6.blk HL.out NE5.out)
            have X6 := Lib.hid (f6.blk HX.out GE.out.2)
            have N6 := Lib.hid (HN.out.fr f6)
            have W6 := Lib.hid (below_fr HW.out f6 HW.out.size (fun j hj => by rw [hj]; exact GE.out.1))
            have Z6 : Hid (w.heap.size ≤ w6.heap.size) := W6.out.size
            have hx6 : w6.cell? (ad.add k) = some (.slice A2 x.length c2) := by
              have h := World.block_lt_of_cell? wr _ hx
              have := f6.block _ h (fun e => by
                have := hx
                obtain ⟨u, hu, _⟩ := HD.out.1
                have h3 : (ad.add k).block < w.heap.size := by
                  obtain ⟨ad2, A3, c3, e3, h4, _⟩ := at_row HC.out k hlt
                  cases e3
                  exact World.block_lt_of_cell? w _ h4
                have := GE.out.1
                omega)
              simpa [World.cell?, this] using hx
            have D6 := Lib.hid h6
            obtain ⟨e6, he6⟩ : ∃ e6, e6 = (d.put x).1 := ⟨_, rfl⟩
            obtain ⟨d6, hd6⟩ : ∃ d6, d6 = (d.put x).2 := ⟨_, rfl⟩
            have WC : Hid ((e6 = 0 → WL d6 (R ++ [x]) sure) ∧ (e6 ≠ 0 → WL d6 R sure)) := ⟨fun h => by rw [hd6]; exact wl_put HD.out.2.2.1 (by rw [← he6]; exact h), fun h => by rw [hd6]; exact wl_put_no HD.out.2.2.1 (by rw [← he6]; exact h)⟩
            have RL : Hid (R.length ≤ k) := HD.out.2.2.2
            rw [← hd6] at OK6 D6
            rw [← he6]
            clear he6 hd6 h6 f6 hx HD HL HX HN HW HXC
            by_cases hz : e6 = 0
            · subst hz
              have WW := Lib.hid (WC.out.1 rfl)
              clear WC
              go_upto_region 18 with (first
                | ((with_reducible refine gate_builtin (b := .append) (xs := #[.tmp 72, .tmp 77]) rfl ?_); (try (refine gate_guard (by rfl) ?_; dsimp only)); at_builtin; refine Kd.N_append (Kd.slice 5 (Kd.int .u8)) (w0 := w) w.heap.size rfl (.tmp 72) (.tmp 77) 23 33 (.slice none 0 0) 24 rfl Try.underlying23 wl_info rfl (by decide) (by decide) _ R x [.slice A2 x.length c2] (fun k => k ≠ g) (fun k => k < w.heap.size) rfl rfl ?ap ?aok ?afr N6.out W6.out Z6.out ?al ?_; (case ap => exact Kd.FK_slice_mk HXL.out (Kd.F_below HXF.out W6.out)); (case aok => exact fun j hj => ⟨fun e => by have := GE.out.1; omega, fun e => by have := Kd.N_base N6.out j e.symm; omega⟩); (case afr => exact fun j hj e => by have := D6.out.lt; omega); (case al => have := RL.out; omega); intro v7 w7 n7 b7 g7 at7; have N7 := Lib.hid n7; have W7 := Lib.hid b7; have L7 := Lib.hid (L6_grown g7 L6.out (Kd.N_ne N6.out L6.out (by decide))); have X7 := Lib.hid (L6_grown g7 X6.out (Kd.N_ne N6.out X6.out (by decide))); have D7 := Lib.hid (D6.out.grown g7 (fun j hj => Kd.N_typed N6.out j hj) (by decide) (by decide)); clear n7 b7 g7 at7)
                | fail)
              clear D6 L6 X6 N6 W6 hx6 Z6
              obtain ⟨R2, hR2⟩ : ∃ R2, R2 = R ++ [x] := ⟨_, rfl⟩
              have RL2 : Hid (R2.length ≤ k + 1) := by show _ ≤ _; rw [hR2, List.length_append]; have := RL.out; simp; omega
              rw [← hR2] at N7 WW
              clear hR2
              by_cases hs : k < ss.length
              · obtain ⟨as_, rfl, hb⟩ := at_flag HS.out hs
                obtain ⟨f, hf⟩ : ∃ f, f = ss[k] := ⟨_, rfl⟩
                rw [← hf] at hb
                replace hb := (W7.out.cell (World.block_lt_of_cell? w _ hb)).trans hb
                clear hf
                have p3 : ((k : Int) < (ss.length : Int)) = True := eq_true (by omega)
                have p4 : decide (k < ss.length) = true := decide_eq_true hs
                cases f with
                | true =>
                  have z7 : w7.cell? ⟨l5, 0, none⟩ = some (.pointer (some ⟨g, 0, none⟩)) := (blk_cell L7.out 0).trans rfl
                  have SY := disk_Sync g d6 w7 D7.out OK6.out
                  rw [(wl_sync WW.out).1] at SY
                  have SYH := Lib.hid SY
                  clear SY
                  obtain ⟨A7, c7, rfl⟩ := Kd.N_slice N7.out
                  go_wp2_with fail
                  refine SYH.out.mono ?_
                  rintro e w8 ⟨rfl, h8, f8⟩
                  have D8 : Hid (DK w8 g d6.sync.2 ∧ d6.sync.2.ok ∧ WL d6.sync.2 (R2) (R2).length ∧ (R2).length ≤ k + 1) := ⟨h8, DkS.ok_sync OK6.out, (wl_sync WW.out).2, RL2.out⟩
                  have L8 := Lib.hid (f8.blk L7.out NE5.out)
                  have X8 := Lib.hid (f8.blk X7.out GE.out.2)
                  have N8 := Lib.hid (AllN.fr N7.out f8)
                  have W8 := Lib.hid (below_fr W7.out f8 W7.out.size (fun j hj => by rw [hj]; exact GE.out.1))
                  clear h8 f8 z7 hb SYH D7 L7 X7 N7 W7
                  go_wp2_with fail
                  go_roundw
                  case rel => exact ⟨k + 1, (R2).length, d6.sync.2, R2, by omega, by go_num, rfl, D8, L8, X8, N8, W8⟩
                  case measure => simp [intOf]; omega
                | false =>
                  have D8 : Hid (DK w7 g d6 ∧ d6.ok ∧ WL d6 (R2) sure ∧ (R2).length ≤ k + 1) := ⟨D7.out, OK6.out, WW.out, RL2.out⟩
                  go_wp2_with fail
                  go_roundw
                  case rel => exact ⟨k + 1, sure, d6, R2, by omega, by go_num, rfl, D8, L7, X7, N7, W7⟩
                  case measure => simp [intOf]; omega
              · have p3 : ((k : Int) < (ss.length : Int)) = False := eq_false (by omega)
                have p4 : decide (k < ss.length) = false := decide_eq_false hs
                have D8 : Hid (DK w7 g d6 ∧ d6.ok ∧ WL d6 (R2) sure ∧ (R2).length ≤ k + 1) := ⟨D7.out, OK6.out, WW.out, RL2.out⟩
                go_wp2_with fail
                go_roundw
                case rel => exact ⟨k + 1, sure, d6, R2, by omega, by go_num, rfl, D8, L7, X7, N7, W7⟩
                case measure => simp [intOf]; omega
            · have WW := Lib.hid (WC.out.2 hz)
              have hz2 : (e6 == 0) = false := beq_eq_false_iff_ne.2 hz
              clear WC
              obtain ⟨w7, hw7⟩ : ∃ w7, w7 = w6 := ⟨_, rfl⟩
              rw [← hw7] at D6 L6 X6 N6 W6 ⊢
              have D7 := D6
              have L7 := L6
              have X7 := X6
              have N7 := N6
              have W7 := W6
              clear hw7 D6 L6 X6 N6 W6 hx6 Z6
              by_cases hs : k < ss.length
              · obtain ⟨as_, rfl, hb⟩ := at_flag HS.out hs
                obtain ⟨f, hf⟩ : ∃ f, f = ss[k] := ⟨_, rfl⟩
                rw [← hf] at hb
                replace hb := (W7.out.cell (World.block_lt_of_cell? w _ hb)).trans hb
                clear hf
                have p3 : ((k : Int) < (ss.length : Int)) = True := eq_true (by omega)
                have p4 : decide (k < ss.length) = true := decide_eq_true hs
                cases f with
                | true =>
                  have z7 : w7.cell? ⟨l5, 0, none⟩ = some (.pointer (some ⟨g, 0, none⟩)) := (blk_cell L7.out 0).trans rfl
                  have SY := disk_Sync g d6 w7 D7.out OK6.out
                  rw [(wl_sync WW.out).1] at SY
                  have SYH := Lib.hid SY
                  clear SY
                  obtain ⟨A7, c7, rfl⟩ := Kd.N_slice N7.out
                  go_wp2_with fail
                  refine SYH.out.mono ?_
                  rintro e w8 ⟨rfl, h8, f8⟩
                  have D8 : Hid (DK w8 g d6.sync.2 ∧ d6.sync.2.ok ∧ WL d6.sync.2 (R) (R).length ∧ (R).length ≤ k + 1) := ⟨h8, DkS.ok_sync OK6.out, (wl_sync WW.out).2, by have := RL.out; omega⟩
                  have L8 := Lib.hid (f8.blk L7.out NE5.out)
                  have X8 := Lib.hid (f8.blk X7.out GE.out.2)
                  have N8 := Lib.hid (AllN.fr N7.out f8)
                  have W8 := Lib.hid (below_fr W7.out f8 W7.out.size (fun j hj => by rw [hj]; exact GE.out.1))
                  clear h8 f8 z7 hb SYH D7 L7 X7 N7 W7
                  go_wp2_with fail
                  go_roundw
                  case rel => exact ⟨k + 1, (R).length, d6.sync.2, R, by omega, by go_num, rfl, D8, L8, X8, N8, W8⟩
                  case measure => simp [intOf]; omega
                | false =>
                  have D8 : Hid (DK w7 g d6 ∧ d6.ok ∧ WL d6 (R) sure ∧ (R).length ≤ k + 1) := ⟨D7.out, OK6.out, WW.out, by have := RL.out; omega⟩
                  go_wp2_with fail
                  go_roundw
                  case rel => exact ⟨k + 1, sure, d6, R, by omega, by go_num, rfl, D8, L7, X7, N7, W7⟩
                  case measure => simp [intOf]; omega
              · have p3 : ((k : Int) < (ss.length : Int)) = False := eq_false (by omega)
                have p4 : decide (k < ss.length) = false := decide_eq_false hs
                have D8 : Hid (DK w7 g d6 ∧ d6.ok ∧ WL d6 (R) sure ∧ (R).length ≤ k + 1) := ⟨D7.out, OK6.out, WW.out, by have := RL.out; omega⟩
                go_wp2_with fail
                go_roundw
                case rel => exact ⟨k + 1, sure, d6, R, by omega, by go_num, rfl, D8, L7, X7, N7, W7⟩
                case measure => simp [intOf]; omega
        · obtain rfl : k = l.length := by omega
          obtain ⟨A9, c9, rfl⟩ := Kd.N_slice HN.out
          have p2 : ((l.length : Int) < (l.length : Int)) = False := eq_false (by omega)
          have x1 : wr.cell? ⟨gx, 1, none⟩ = some (.int .i64 b) := (blk_cell HX.out 1).trans rfl
          go_wp2_with fail
          refine (disk_Crash g d b _ HD.out.1 HD.out.2.1).mono ?_
          rintro e w6 ⟨rfl, h6, f6⟩
          have D6 := Lib.hid h6
          have OK6 := Lib.hid (DkS.ok_crash HD.out.2.1 b)
          have N6 := Lib.hid (HN.out.fr f6)
          have W6 := Lib.hid (below_fr HW.out f6 HW.out.size (fun j hj => by rw [hj]; exact GE.out.1))
          have E0 := Lib.hid (crash_open HD.out.2.1 b)
          obtain ⟨W, wa, wb, wc⟩ := wl_left HD.out.2.2.1 HD.out.2.1 b
          have WC := Lib.hid wc
          have RL : Hid (R.length ≤ l.length) := HD.out.2.2.2
          have OK7 := Lib.hid (ok_open OK6.out)
          clear h6 f6 HD HL HX HN HW x1 wc
          have HO7 := wal_Open g (d.crash b) w6 D6.out OK6.out
          rw [E0.out] at HO7
          have HO := Lib.hid HO7
          clear HO7
          go_wp2_with fail
          refine HO.out.mono ?_
          rintro e w7 ⟨p, rfl, h7, f7, h8, _⟩
          obtain ⟨l7, hl7, rfl, lk7⟩ := (by first | exact h8 rfl | exact h8 trivial)
          have D7 := Lib.hid h7
          have L7 := Lib.hid lk7
          have N7 := Lib.hid (N6.out.fr f7)
          have W7 := Lib.hid (below_fr W6.out f7 W6.out.size (fun j hj => by rw [hj]; exact GE.out.1))
          clear h7 f7 h8 hl7 lk7 D6 N6 W6 HO E0
          go_wp2_with fail
          refine (wal_Records l7 g _ _ L7.out D7.out OK7.out).mono ?_
          rw [WC.out]
          rintro e w8 ⟨v8, rfl, hv8, hb8⟩
          obtain ⟨R8, q8, rfl, hq8, hC8⟩ := Kd.R_reads hv8
          have N8 := Lib.hid (Kd.N_below N7.out hb8)
          have W8 := Lib.hid (W7.out.trans (hb8.mono W7.out.size))
          have C8 := Lib.hid hC8
          have Q8 := Lib.hid hq8
          have TL : Hid ((R.take W).length = W) := by show _ = _; rw [List.length_take]; omega
          obtain ⟨n8, hn8⟩ : ∃ n, n = (R.take W).length := ⟨_, rfl⟩
          have HN8 := Lib.hid hn8
          have hnW : n8 = W := hn8.trans TL.out
          clear hv8 hb8 hC8 hq8
          rw [← hn8]
          subst hnW
          clear hn8
          obtain ⟨_, hc9, hC9⟩ := Kd.N_reads' N8.out
          have Q9 := Lib.hid hc9
          have C9 := Lib.hid hC9
          obtain ⟨wl_i, wl_hi, _⟩ := Option.map_eq_some_iff.1 wl_info
          have hcut := cut_to (P := Try.prog) 23 33 .i64 (i := wl_i) Try.underlying23 wl_hi A9 R.length c9 (n8 : Int) (by omega) (by omega) hc9
          rw [Int.toNat_natCast] at hcut
          clear hc9 hC9
          have HSM := lessorref09_Same.calls (l.length + 3) R8 q8 (R.take n8) A9 c9 (R.take n8) true w8 C8.out Q8.out (Kd.C_take C9.out wb) (by rw [TL.out]; have := Q9.out; omega) (sameL _ (by rw [TL.out]; have := RL.out; omega) _ (by rw [TL.out]; have := RL.out; omega))
          rw [TL.out] at HSM
          have HS2 := Lib.hid HSM
          clear HSM
          have p5 : ((sure : Int) ≤ (n8 : Int)) = True := eq_true (by omega)
          have p6 : ((n8 : Int) ≤ (R.length : Int)) = True := eq_true (by omega)
          have p7 : decide (sure ≤ n8) = true := decide_eq_true (by omega)
          have p8 : decide (n8 ≤ R.length) = true := decide_eq_true wb
          go_wp2_with fail
          refine HS2.out.mono ?_
          rintro e w9 ⟨rfl, hdr⟩
          have W9 := Lib.hid (W8.out.trans (hdr.below.mono W8.out.size))
          clear hdr
          go_wp2_with fail
          go_ret
          exact ⟨rfl, W9.out⟩
  · have hno : a < 1 ∨ 1048576 < a := by omega
    go_wp2_with fail
    refine (disk_New_no a _ hno).mono ?_
    rintro e w2 ⟨rfl, rfl⟩
    go_wp2_with fail
    go_ret
    exact ⟨rfl, B1.out⟩

def lessorlaw10_WalLasts.f (a0 a1 : Int) (l1 : List (List Int)) (l2 : List Bool) : Option Bool := if ∀ x ∈ l1, ∀ y ∈ x, 0 ≤ y ∧ y ≤ 255 then some true else none
theorem lessorlaw10_WalLasts.calls (a0 a1 : Int) (A1 : Option Addr) (c1 : Nat) (l1 : List (List Int)) (A2 : Option Addr) (c2 : Nat) (l2 : List Bool) (r : Bool) (w : World) (hr1 : (Kd.slice 5 (Kd.int .u8)).C w A1 l1.length l1) (hc1 : l1.length ≤ c1) (hr2 : Kd.C Kd.bool w A2 l2.length l2) (hc2 : l2.length ≤ c2) (h : lessorlaw10_WalLasts.f a0 a1 l1 l2 = some r) :
    Calls Try.prog 3 #[.agg #[.int .i64 a0, .int .i64 a1], .slice A1 l1.length c1, .slice A2 l2.length c2] w fun e w' => e = .returned (.bool r) ∧ Below w.heap.size w w' := by
  unfold lessorlaw10_WalLasts.f at h
  split at h
  case isFalse => cases h
  rename_i hc
  obtain rfl : true = r := Option.some.inj h
  exact WalLasts_calls a0 a1 A1 c1 l1 A2 c2 l2 w hr1 hc1 hr2 hc2 hc

end Go.Proofs.Ytfndajgmjkimgaa
