/-
  NetScripts: a net of any room does any steps, as the document says. No condition.
-/
import Derived.Test.YtokcplapbjhnoaaHNt9
namespace Go.Proofs.Ytokcplapbjhnoaa
open Go.RowKit Go.Proofs.Ytokcplapbjhnoaa.Pr Go.Proofs.YtokcplapbjhnoaaW.PrintWords Go.Proofs.YtokcplapbjhnoaaW.PrintLast Go.Proofs.YtokcplapbjhnoaaW.PrintMore
attribute [local go_sem] max2_int min2_int max_two min_two max_three min_three max_four min_four
set_option linter.unusedVariables false
set_option linter.unusedSimpArgs false

abbrev NsE := S40
theorem row_fr {α : Type} {d : Kd α} {w0 w W : World} {A : Option Addr} {n : Nat} {xs : List α} {S : Nat → Prop} (h : d.C w0 A n xs) (hb : Below w0.heap.size w0 w) (hf : Fr w W S) (hS : ∀ k, S k → w0.heap.size ≤ k) : d.C W A n xs :=
  Kd.C_below h (below_fr hb hf hb.size hS)
theorem row_cell {w W : World} {p : Addr} {v : Value} (h : w.cell? p = some v) (hb : p.block < w.heap.size → W.heap[p.block]? = w.heap[p.block]?) : W.cell? p = some v := by
  rw [World.cell?_of_block (hb (World.block_lt_of_cell? w _ h))]
  exact h
theorem rd_ns (l : List NsE) {i : Nat} (h : i < l.length) : rd_T40 l (i : Int) = l[i] := by
  unfold rd_T40
  rw [Int.toNat_natCast, List.getD_eq_getElem?_getD, List.getElem?_eq_getElem h]; rfl
/-- The step that is to come. -/
theorem at_ns {w : World} {A : Option Addr} {l : List NsE} (hC : Kd.C k40 w A l.length l) {k : Nat} (hk : k < l.length) :
    ∃ ad A4 c4, A = some ad ∧ w.cell? (ad.add (k * 5)) = some (.int .i64 l[k].f0) ∧ w.cell? ⟨(ad.add (k * 5)).block, (ad.add (k * 5)).off + 1, none⟩ = some (.int .i64 l[k].f1) ∧ w.cell? ⟨(ad.add (k * 5)).block, (ad.add (k * 5)).off + 2, none⟩ = some (.int .i64 l[k].f2) ∧
      w.cell? ⟨(ad.add (k * 5)).block, (ad.add (k * 5)).off + 3, none⟩ = some (.bool l[k].f3) ∧ w.cell? ⟨(ad.add (k * 5)).block, (ad.add (k * 5)).off + 4, none⟩ = some (.slice A4 l[k].f4.length c4) ∧ l[k].f4.length ≤ c4 ∧ (Kd.int .u8).C w A4 l[k].f4.length l[k].f4 := by
  have := at_T40 hC (k : Int) (by omega) (by omega)
  rw [rd_ns l hk, Int.toNat_natCast] at this
  exact this
def nruns (n : NtS) (l : List NsE) : NtS := l.foldl (fun n x => n.nstep x.f0 x.f1 x.f2 x.f3 x.f4) n
theorem nruns_succ (n : NtS) (l : List NsE) {k : Nat} (h : k < l.length) : nruns n (l.take (k + 1)) = (nruns n (l.take k)).nstep l[k].f0 l[k].f1 l[k].f2 l[k].f3 l[k].f4 := by
  unfold nruns
  rw [List.take_succ_eq_append_getElem h, List.foldl_append]; rfl

set_option maxHeartbeats 8000000 in
set_option maxRecDepth 100000 in
theorem NetScripts_calls (room : Int) (A : Option Addr) (c : Nat) (l : List NsE) (w : World) (hC : Kd.C k40 w A l.length l) (hc : l.length ≤ c) (hl : l.length ≤ 9223372036854775807) :
    Calls Try.prog 4 #[.int .i64 room, .slice A l.length c] w fun e w' => e = .returned (.bool true) ∧ Below w.heap.size w w' := by
  have HC := Lib.hid hC
  clear hC
  go_enter Try.func4, Try.ntmps4
  go_wp2_with (go_at_call 7; refine (nawake_calls _).mono ?_; rintro e w1 ⟨rfl, b1⟩; have B1 := Lib.hid b1; clear b1)
  by_cases hroom : 1 ≤ room ∧ room ≤ 1000
  · obtain ⟨h1, h2⟩ := hroom
    have OK0 := Lib.hid (NtS.ok_new h1 h2)
    refine (net_New_ok room _ h1 h2).mono ?_
    rintro e w3 ⟨rfl, rfl⟩
    obtain ⟨g, hg⟩ : ∃ g, w1.heap.size = g := ⟨_, rfl⟩
    obtain ⟨W3, hW3⟩ : ∃ W3, w1.alloc (.cells #[.int .i64 room, .bool false, .slice none 0 0, .slice none 0 0] 49) = W3 := ⟨_, rfl⟩
    have D3 := NtAt.new' 49 5 28 room w1 W3 g hg hW3
    have b3 := below_alloc B1.out (.cells #[.int .i64 room, .bool false, .slice none 0 0, .slice none 0 0] 49)
    have hsz : W3.heap.size = g + 1 := by rw [← hW3, World.size_alloc, hg]
    rw [hW3] at b3
    rw [hW3, hg]
    have GG : Hid (w.heap.size ≤ g) := by show _ ≤ _; rw [← hg]; exact B1.out.size
    have DD := Lib.hid D3
    have B3 := Lib.hid b3
    clear hg hW3 D3 b3 B1
    go_wp2_with fail
    refine (ref_New_ok room _ h1 h2).mono ?_
    rintro e w4 ⟨rfl, rfl⟩
    obtain ⟨h, hh⟩ : ∃ h, W3.heap.size = h := ⟨_, rfl⟩
    obtain ⟨W4, hW4⟩ : ∃ W4, W3.alloc (.cells #[.int .i64 room, .bool false, .slice none 0 0, .slice none 0 0] 57) = W4 := ⟨_, rfl⟩
    have D4 := NtAt.new' 57 5 28 room W3 W4 h hh hW4
    have d3 := DD.out.below (below_alloc (Below.refl _ _) (.cells #[.int .i64 room, .bool false, .slice none 0 0, .slice none 0 0] 57))
    have b4 := below_alloc B3.out (.cells #[.int .i64 room, .bool false, .slice none 0 0, .slice none 0 0] 57)
    rw [hW4] at b4 d3
    rw [hW4, hh]
    have NS : Hid (Nets W4 g (fun k => k = g) h (fun k => k = h) (NtS.new room)) := ⟨d3, D4, fun k hk hk2 => by have e1 : k = g := hk; have e2 : k = h := hk2; omega⟩
    have GE : Hid (∀ k, k = g ∨ k = h → w.heap.size ≤ k) := fun k hk => by have := GG.out; omega
    have B4 := Lib.hid b4
    clear hh hW4 D4 d3 b4 DD B3 hsz
    go_wp2_with fail
    go_loopw [10] (fun i wr => ∃ (k : Nat) (O O' : Nat → Prop), k ≤ l.length ∧ i = .int .i64 k ∧ Hid (Nets wr g O h O' (nruns (NtS.new room) (l.take k))) ∧ Hid (nruns (NtS.new room) (l.take k)).ok ∧ Hid (∀ k, O k ∨ O' k → w.heap.size ≤ k) ∧ Hid (Below w.heap.size w wr)) (fun i _ => l.length - (intOf i).toNat)
    case atStart => exact ⟨0, _, _, Nat.zero_le _, rfl, by simpa [nruns] using NS, by simpa [nruns] using OK0, GE, B4⟩
    case round =>
      clear NS GE B4
      obtain ⟨k, O, O', hk, rfl, HN, OKD, GE, HW⟩ := hrel
      by_cases hlt : k < l.length
      · by_cases h200 : k < 200
        · obtain ⟨ad, A4, c4, rfl, hx0, hx1, hx2, hx3, hx4, hxl, hxc⟩ := at_ns HC.out hlt
          have ER := Lib.hid (nruns_succ (NtS.new room) l hlt)
          obtain ⟨x, hx⟩ : ∃ x, x = l[k] := ⟨_, rfl⟩
          rw [← hx] at hx0 hx1 hx2 hx3 hx4 hxl hxc ER
          obtain ⟨n, hn⟩ : ∃ n, n = nruns (NtS.new room) (l.take k) := ⟨_, rfl⟩
          rw [← hn] at HN OKD ER
          have HXL : Hid ((ad.add (k * 5)).block < w.heap.size) := World.block_lt_of_cell? w _ hx0
          replace hx0 := (HW.out.cell (World.block_lt_of_cell? w _ hx0)).trans hx0
          replace hx1 := (HW.out.cell (World.block_lt_of_cell? w _ hx1)).trans hx1
          replace hx2 := (HW.out.cell (World.block_lt_of_cell? w _ hx2)).trans hx2
          replace hx3 := (HW.out.cell (World.block_lt_of_cell? w _ hx3)).trans hx3
          replace hx4 := (HW.out.cell (World.block_lt_of_cell? w _ hx4)).trans hx4
          have HXC : Hid (∀ W, Fr wr W (fun k => O k ∨ O' k) → (Kd.int .u8).C W A4 x.f4.length x.f4) := fun W hW => row_fr hxc HW.out hW GE.out
          have p1 : (0 ≤ (k : Int)) = True := eq_true (by omega)
          have p2 : ((k : Int) < (l.length : Int)) = True := eq_true (by omega)
          have p3 : ((k : Int) < 200) = True := eq_true (by omega)
          clear hxc hn hx
          by_cases hbig : (x.f4.length : Int) > 1000
          · go_wp2_with fail
            go_ret
            exact ⟨rfl, HW.out⟩
          · have hsm : x.f4.length ≤ 1000 := by omega
            have OKN := Lib.hid (NtS.ok_nstep OKD.out x.f0 x.f1 x.f2 x.f3 hsm)
            rw [← ER.out] at OKN
            have y1 : ∀ W, Fr wr W (fun k => O k ∨ O' k) → W.cell? ⟨(ad.add (k * 5)).block, (ad.add (k * 5)).off + 1, none⟩ = some (.int .i64 x.f1) := fun W hW => row_cell hx1 (fun hlt => hW.block _ hlt (fun ho => Nat.not_lt.2 (GE.out _ ho) HXL.out))
            go_wp2_with (first
              | (go_at_call 15; refine (nstep_calls g O h O' n x.f0 x.f1 x.f2 x.f3 A4 c4 x.f4 _ HN.out OKD.out HXC.out hxl hsm).mono ?_; rintro e wa ⟨O1, O2, rfl, hb, hf, hg⟩; rw [← ER.out] at hb; have HN2 := Lib.hid hb; have hy := y1 wa hf; have HW2 := Lib.hid (below_fr HW.out hf HW.out.size GE.out); have GE2 : Hid (∀ k, O1 k ∨ O2 k → w.heap.size ≤ k) := (fun k hk => by rcases hg k hk with h3 | h3 | h3; exact GE.out k (.inl h3); exact GE.out k (.inr h3); exact Nat.le_trans HW.out.size h3); clear hb hf hg hx0 hx1 hx2 hx3 hx4)
              | fail)
            refine start_ (n := 33) (S := fun w' => w'.cell? ⟨(ad.add (k * 5)).block, (ad.add (k * 5)).off + 1, none⟩ = some (.int .i64 x.f1)) (ds := []) #[false, false, false, false, false, false, false, false, false, false, false, false, false, false, false, false, false, false, false, false, false, false, false, false, false, false, false, false, false, false, false, false, false] (by kernel_rfl) rfl rfl hy (fun hHeld => ?_)
            obtain ⟨W2, hW2⟩ : ∃ W2, wa.drew = W2 := ⟨_, rfl⟩
            have hbw : Below wa.heap.size wa W2 := by rw [← hW2]; exact below_drew (Below.refl _ _)
            rw [hW2] at hHeld ⊢
            clear hW2
            have HN3 := Lib.hid (HN2.out.below hbw)
            have HW3 := Lib.hid (HW2.out.trans (hbw.mono HW2.out.size))
            clear hbw
            obtain ⟨n2, hn2⟩ : ∃ n2, n2 = nruns (NtS.new room) (l.take (k + 1)) := ⟨_, rfl⟩
            rw [← hn2] at HN3
            refine pure_ (i := 0) (N := some 65) (v := ?_) (a' := ?_) #[true, false, false, false, false, false, false, false, false, false, false, false, false, false, false, false, false, false, false, false, false, false, false, false, false, false, false, false, false, false, false, false, false] rfl rfl (by kernel_rfl) (fun _ _ _ h => h) (Or.inl ⟨by rfl, ?_⟩) ?_ ?_
            rotate_left
            · intro w'
              go_simp
              with_reducible rfl
            rotate_left
            · simp only [Act.put, List.setIfInBounds_toArray, List.set_cons_zero, List.set_cons_succ, i64_w, i32_w]
              rfl
            refine pure_ (i := 1) (N := some 66) (v := ?_) (a' := ?_) #[true, true, false, false, false, false, false, false, false, false, false, false, false, false, false, false, false, false, false, false, false, false, false, false, false, false, false, false, false, false, false, false, false] rfl rfl (by kernel_rfl) (fun _ _ _ h => h) (Or.inl ⟨by rfl, ?_⟩) ?_ ?_
            rotate_left
            · intro w'
              go_simp
              with_reducible rfl
            rotate_left
            · simp only [Act.put, List.setIfInBounds_toArray, List.set_cons_zero, List.set_cons_succ, i64_w, i32_w]
              rfl
            refine pure_ (i := 2) (N := some 67) (v := ?_) (a' := ?_) #[true, true, true, false, false, false, false, false, false, false, false, false, false, false, false, false, false, false, false, false, false, false, false, false, false, false, false, false, false, false, false, false, false] rfl rfl (by kernel_rfl) (fun _ _ _ h => h) (Or.inl ⟨by rfl, ?_⟩) ?_ ?_
            rotate_left
            · intro w'
              go_simp
              with_reducible rfl
            rotate_left
            · simp only [Act.put, List.setIfInBounds_toArray, List.set_cons_zero, List.set_cons_succ, i64_w, i32_w]
              rfl
            refine pure_ (i := 3) (N := some 68) (v := ?_) (a' := ?_) #[true, true, true, true, false, false, false, false, false, false, false, false, false, false, false, false, false, false, false, false, false, false, false, false, false, false, false, false, false, false, false, false, false] rfl rfl (by kernel_rfl) (fun _ _ _ h => h) (Or.inl ⟨by rfl, ?_⟩) ?_ ?_
            rotate_left
            · intro w'
              go_simp
              with_reducible rfl
            rotate_left
            · simp only [Act.put, List.setIfInBounds_toArray, List.set_cons_zero, List.set_cons_succ, i64_w, i32_w]
              rfl
            refine pure_ (i := 5) (N := some 70) (v := ?_) (a' := ?_) #[true, true, true, true, false, true, false, false, false, false, false, false, false, false, false, false, false, false, false, false, false, false, false, false, false, false, false, false, false, false, false, false, false] rfl rfl (by kernel_rfl) (fun _ _ _ h => h) (Or.inl ⟨by rfl, ?_⟩) ?_ ?_
            rotate_left
            · intro w'
              go_simp
              with_reducible rfl
            rotate_left
            · simp only [Act.put, List.setIfInBounds_toArray, List.set_cons_zero, List.set_cons_succ, i64_w, i32_w]
              rfl
            refine one_ (i := 4) (N := some 69) #[true, true, true, true, true, true, false, false, false, false, false, false, false, false, false, false, false, false, false, false, false, false, false, false, false, false, false, false, false, false, false, false, false] rfl rfl (by kernel_rfl) (by decide) (fun K hK => ?_)
            refine goes_ Try.func13 (by kernel_rfl) rfl #[.pointer (some ⟨g, 0, none⟩), .int .i64 0] (by rfl) rfl rfl (by (try simp only [List.map_toArray, List.map_cons, List.map_nil]); rfl) ?_
            refine (net_Len g O1 _ 0 _ HN3.out.nn).mono ?_
            rintro e wc ⟨rfl, hw⟩
            obtain rfl := hw.symm
            refine ⟨_, rfl, ?_⟩
            refine hK.out _ _ hHeld (fun hHeld => ?_)
            clear hK K
            try (refine norm_ (a' := ?_) ?_ ?_; rotate_left; focus (simp only [Act.put, List.setIfInBounds_toArray, List.set_cons_zero, List.set_cons_succ, i64_w, i32_w]; rfl))
            refine one_ (i := 6) (N := some 71) #[true, true, true, true, true, true, true, false, false, false, false, false, false, false, false, false, false, false, false, false, false, false, false, false, false, false, false, false, false, false, false, false, false] rfl rfl (by kernel_rfl) (by decide) (fun K hK => ?_)
            refine goes_ Try.func16 (by kernel_rfl) rfl #[.pointer (some ⟨h, 0, none⟩), .int .i64 0] (by rfl) rfl rfl (by (try simp only [List.map_toArray, List.map_cons, List.map_nil]); rfl) ?_
            refine (ref_Len h O2 _ 0 _ HN3.out.rn).mono ?_
            rintro e wc ⟨rfl, hw⟩
            obtain rfl := hw.symm
            refine ⟨_, rfl, ?_⟩
            refine hK.out _ _ hHeld (fun hHeld => ?_)
            clear hK K
            try (refine norm_ (a' := ?_) ?_ ?_; rotate_left; focus (simp only [Act.put, List.setIfInBounds_toArray, List.set_cons_zero, List.set_cons_succ, i64_w, i32_w]; rfl))
            refine pure_ (i := 7) (N := some 72) (v := .bool false) (a' := ?_) #[true, true, true, true, true, true, true, true, false, false, false, false, false, false, false, false, false, false, false, false, false, false, false, false, false, false, false, false, false, false, false, false, false] rfl rfl (by kernel_rfl) (fun _ _ _ h => h) (Or.inl ⟨by rfl, ?_⟩) ?_ ?_
            · intro w'
              go_simp
              try (with_reducible rfl)
            rotate_left
            · simp only [Act.put, List.setIfInBounds_toArray, List.set_cons_zero, List.set_cons_succ, i64_w, i32_w]
              rfl
            refine pure_ (i := 8) (N := some 73) (v := .bool false) (a' := ?_) #[true, true, true, true, true, true, true, true, true, false, false, false, false, false, false, false, false, false, false, false, false, false, false, false, false, false, false, false, false, false, false, false, false] rfl rfl (by kernel_rfl) (fun _ _ _ h => h) (Or.inl ⟨by rfl, ?_⟩) ?_ ?_
            · intro w'
              go_simp
              try (with_reducible rfl)
            rotate_left
            · simp only [Act.put, List.setIfInBounds_toArray, List.set_cons_zero, List.set_cons_succ, i64_w, i32_w]
              rfl
            refine pure_ (i := 9) (N := some 74) (v := ?_) (a' := ?_) #[true, true, true, true, true, true, true, true, true, true, false, false, false, false, false, false, false, false, false, false, false, false, false, false, false, false, false, false, false, false, false, false, false] rfl rfl (by kernel_rfl) (fun _ _ _ h => h) (Or.inl ⟨by rfl, ?_⟩) ?_ ?_
            rotate_left
            · intro w'
              go_simp
              with_reducible rfl
            rotate_left
            · simp only [Act.put, List.setIfInBounds_toArray, List.set_cons_zero, List.set_cons_succ, i64_w, i32_w]
              rfl
            refine pure_ (i := 10) (N := some 75) (v := ?_) (a' := ?_) #[true, true, true, true, true, true, true, true, true, true, true, false, false, false, false, false, false, false, false, false, false, false, false, false, false, false, false, false, false, false, false, false, false] rfl rfl (by kernel_rfl) (fun _ _ _ h => h) (Or.inl ⟨by rfl, ?_⟩) ?_ ?_
            rotate_left
            · intro w'
              go_simp
              with_reducible rfl
            rotate_left
            · simp only [Act.put, List.setIfInBounds_toArray, List.set_cons_zero, List.set_cons_succ, i64_w, i32_w]
              rfl
            refine pure_ (i := 12) (N := some 77) (v := ?_) (a' := ?_) #[true, true, true, true, true, true, true, true, true, true, true, false, true, false, false, false, false, false, false, false, false, false, false, false, false, false, false, false, false, false, false, false, false] rfl rfl (by kernel_rfl) (fun _ _ _ h => h) (Or.inl ⟨by rfl, ?_⟩) ?_ ?_
            rotate_left
            · intro w'
              go_simp
              with_reducible rfl
            rotate_left
            · simp only [Act.put, List.setIfInBounds_toArray, List.set_cons_zero, List.set_cons_succ, i64_w, i32_w]
              rfl
            refine one_ (i := 11) (N := some 76) #[true, true, true, true, true, true, true, true, true, true, true, true, true, false, false, false, false, false, false, false, false, false, false, false, false, false, false, false, false, false, false, false, false] rfl rfl (by kernel_rfl) (by decide) (fun K hK => ?_)
            refine goes_ Try.func13 (by kernel_rfl) rfl #[.pointer (some ⟨g, 0, none⟩), .int .i64 1] (by rfl) rfl rfl (by (try simp only [List.map_toArray, List.map_cons, List.map_nil]); rfl) ?_
            refine (net_Len g O1 _ 1 _ HN3.out.nn).mono ?_
            rintro e wc ⟨rfl, hw⟩
            obtain rfl := hw.symm
            refine ⟨_, rfl, ?_⟩
            refine hK.out _ _ hHeld (fun hHeld => ?_)
            clear hK K
            try (refine norm_ (a' := ?_) ?_ ?_; rotate_left; focus (simp only [Act.put, List.setIfInBounds_toArray, List.set_cons_zero, List.set_cons_succ, i64_w, i32_w]; rfl))
            refine one_ (i := 13) (N := some 78) #[true, true, true, true, true, true, true, true, true, true, true, true, true, true, false, false, false, false, false, false, false, false, false, false, false, false, false, false, false, false, false, false, false] rfl rfl (by kernel_rfl) (by decide) (fun K hK => ?_)
            refine goes_ Try.func16 (by kernel_rfl) rfl #[.pointer (some ⟨h, 0, none⟩), .int .i64 1] (by rfl) rfl rfl (by (try simp only [List.map_toArray, List.map_cons, List.map_nil]); rfl) ?_
            refine (ref_Len h O2 _ 1 _ HN3.out.rn).mono ?_
            rintro e wc ⟨rfl, hw⟩
            obtain rfl := hw.symm
            refine ⟨_, rfl, ?_⟩
            refine hK.out _ _ hHeld (fun hHeld => ?_)
            clear hK K
            try (refine norm_ (a' := ?_) ?_ ?_; rotate_left; focus (simp only [Act.put, List.setIfInBounds_toArray, List.set_cons_zero, List.set_cons_succ, i64_w, i32_w]; rfl))
            refine pure_ (i := 14) (N := some 79) (v := .bool false) (a' := ?_) #[true, true, true, true, true, true, true, true, true, true, true, true, true, true, true, false, false, false, false, false, false, false, false, false, false, false, false, false, false, false, false, false, false] rfl rfl (by kernel_rfl) (fun _ _ _ h => h) (Or.inl ⟨by rfl, ?_⟩) ?_ ?_
            · intro w'
              go_simp
              try (with_reducible rfl)
            rotate_left
            · simp only [Act.put, List.setIfInBounds_toArray, List.set_cons_zero, List.set_cons_succ, i64_w, i32_w]
              rfl
            refine pure_ (i := 15) (N := some 80) (v := .bool false) (a' := ?_) #[true, true, true, true, true, true, true, true, true, true, true, true, true, true, true, true, false, false, false, false, false, false, false, false, false, false, false, false, false, false, false, false, false] rfl rfl (by kernel_rfl) (fun _ _ _ h => h) (Or.inl ⟨by rfl, ?_⟩) ?_ ?_
            · intro w'
              go_simp
              try (with_reducible rfl)
            rotate_left
            · simp only [Act.put, List.setIfInBounds_toArray, List.set_cons_zero, List.set_cons_succ, i64_w, i32_w]
              rfl
            refine pure_ (i := 16) (N := some 81) (v := ?_) (a' := ?_) #[true, true, true, true, true, true, true, true, true, true, true, true, true, true, true, true, true, false, false, false, false, false, false, false, false, false, false, false, false, false, false, false, false] rfl rfl (by kernel_rfl) (fun _ _ _ h => h) (Or.inl ⟨by rfl, ?_⟩) ?_ ?_
            rotate_left
            · intro w'
              go_simp
              with_reducible rfl
            rotate_left
            · simp only [Act.put, List.setIfInBounds_toArray, List.set_cons_zero, List.set_cons_succ, i64_w, i32_w]
              rfl
            refine pure_ (i := 17) (N := some 82) (v := ?_) (a' := ?_) #[true, true, true, true, true, true, true, true, true, true, true, true, true, true, true, true, true, true, false, false, false, false, false, false, false, false, false, false, false, false, false, false, false] rfl rfl (by kernel_rfl) (fun _ _ _ h => h) (Or.inl ⟨by rfl, ?_⟩) ?_ ?_
            rotate_left
            · intro w'
              go_simp
              with_reducible rfl
            rotate_left
            · simp only [Act.put, List.setIfInBounds_toArray, List.set_cons_zero, List.set_cons_succ, i64_w, i32_w]
              rfl
            refine pure_ (i := 18) (N := some 83) (v := ?_) (a' := ?_) #[true, true, true, true, true, true, true, true, true, true, true, true, true, true, true, true, true, true, true, false, false, false, false, false, false, false, false, false, false, false, false, false, false] rfl rfl (by kernel_rfl) (fun _ _ _ h => h) (Or.inl ⟨by rfl, ?_⟩) ?_ ?_
            rotate_left
            · intro w'
              go_simp
              with_reducible rfl
            rotate_left
            · simp only [Act.put, List.setIfInBounds_toArray, List.set_cons_zero, List.set_cons_succ, i64_w, i32_w]
              rfl
            refine pure_ (i := 19) (N := some 84) (v := ?_) (a' := ?_) #[true, true, true, true, true, true, true, true, true, true, true, true, true, true, true, true, true, true, true, true, false, false, false, false, false, false, false, false, false, false, false, false, false] rfl rfl (by kernel_rfl) (fun _ _ _ h => h) (Or.inl ⟨by rfl, ?_⟩) ?_ ?_
            rotate_left
            · intro w'
              go_simp
              with_reducible rfl
            rotate_left
            · simp only [Act.put, List.setIfInBounds_toArray, List.set_cons_zero, List.set_cons_succ, i64_w, i32_w]
              rfl
            refine pure_ (i := 20) (N := some 85) (v := ?_) (a' := ?_) #[true, true, true, true, true, true, true, true, true, true, true, true, true, true, true, true, true, true, true, true, true, false, false, false, false, false, false, false, false, false, false, false, false] rfl rfl (by kernel_rfl) (fun _ _ _ h => h) (Or.inl ⟨by rfl, ?_⟩) ?_ ?_
            rotate_left
            · intro w'
              go_simp
              with_reducible rfl
            rotate_left
            · simp only [Act.put, List.setIfInBounds_toArray, List.set_cons_zero, List.set_cons_succ, i64_w, i32_w]
              rfl
            refine pure_ (i := 21) (N := some 86) (v := ?_) (a' := ?_) #[true, true, true, true, true, true, true, true, true, true, true, true, true, true, true, true, true, true, true, true, true, true, false, false, false, false, false, false, false, false, false, false, false] rfl rfl (by kernel_rfl) (fun _ _ _ h => h) (Or.inl ⟨by rfl, ?_⟩) ?_ ?_
            rotate_left
            · intro w'
              go_simp
              with_reducible rfl
            rotate_left
            · simp only [Act.put, List.setIfInBounds_toArray, List.set_cons_zero, List.set_cons_succ, i64_w, i32_w]
              rfl
            refine pure_ (i := 24) (N := some 89) (v := ?_) (a' := ?_) #[true, true, true, true, true, true, true, true, true, true, true, true, true, true, true, true, true, true, true, true, true, true, false, false, true, false, false, false, false, false, false, false, false] rfl rfl (by kernel_rfl) (fun _ _ _ h => h) (Or.inl ⟨by rfl, ?_⟩) ?_ ?_
            rotate_left
            · intro w'
              go_simp
              with_reducible rfl
            rotate_left
            · simp only [Act.put, List.setIfInBounds_toArray, List.set_cons_zero, List.set_cons_succ, i64_w, i32_w]
              rfl
            refine pure_ (i := 25) (N := some 90) (v := ?_) (a' := ?_) #[true, true, true, true, true, true, true, true, true, true, true, true, true, true, true, true, true, true, true, true, true, true, false, false, true, true, false, false, false, false, false, false, false] rfl rfl (by kernel_rfl) (fun _ _ _ h => h) (Or.inl ⟨by rfl, ?_⟩) ?_ ?_
            rotate_left
            · intro w'
              go_simp
              with_reducible rfl
            rotate_left
            · simp only [Act.put, List.setIfInBounds_toArray, List.set_cons_zero, List.set_cons_succ, i64_w, i32_w]
              rfl
            refine pure_ (i := 26) (N := some 91) (v := ?_) (a' := ?_) #[true, true, true, true, true, true, true, true, true, true, true, true, true, true, true, true, true, true, true, true, true, true, false, false, true, true, true, false, false, false, false, false, false] rfl rfl (by kernel_rfl) (fun _ _ _ h => h) (Or.inl ⟨by rfl, ?_⟩) ?_ ?_
            rotate_left
            · intro w'
              go_simp
              with_reducible rfl
            rotate_left
            · simp only [Act.put, List.setIfInBounds_toArray, List.set_cons_zero, List.set_cons_succ, i64_w, i32_w]
              rfl
            refine pure_ (i := 27) (N := some 92) (v := ?_) (a' := ?_) #[true, true, true, true, true, true, true, true, true, true, true, true, true, true, true, true, true, true, true, true, true, true, false, false, true, true, true, true, false, false, false, false, false] rfl rfl (by kernel_rfl) (fun _ _ _ h => h) (Or.inl ⟨by rfl, ?_⟩) ?_ ?_
            rotate_left
            · intro w'
              go_simp
              with_reducible rfl
            rotate_left
            · simp only [Act.put, List.setIfInBounds_toArray, List.set_cons_zero, List.set_cons_succ, i64_w, i32_w]
              rfl
            refine pure_ (i := 28) (N := some 93) (v := ?_) (a' := ?_) #[true, true, true, true, true, true, true, true, true, true, true, true, true, true, true, true, true, true, true, true, true, true, false, false, true, true, true, true, true, false, false, false, false] rfl rfl (by kernel_rfl) (fun _ _ _ h => h) (Or.inl ⟨by rfl, ?_⟩) ?_ ?_
            rotate_left
            · intro w'
              go_simp
              with_reducible rfl
            rotate_left
            · simp only [Act.put, List.setIfInBounds_toArray, List.set_cons_zero, List.set_cons_succ, i64_w, i32_w]
              rfl
            refine take_ (i := 22) (N := some 87) (v := .int .i64 x.f1) (a' := ?_) #[true, true, true, true, true, true, true, true, true, true, true, true, true, true, true, true, true, true, true, true, true, true, true, false, true, true, true, true, true, false, false, false, false] rfl rfl (by kernel_rfl) (fun _ _ _ h => h) (Or.inl ⟨by rfl, ?_⟩) hHeld ?_ ?_
            · rintro w' s0
              go_simp
              try (with_reducible rfl)
            rotate_left
            · simp only [Act.put, List.setIfInBounds_toArray, List.set_cons_zero, List.set_cons_succ, i64_w, i32_w]
              rfl
            refine take_ (i := 29) (N := some 94) (v := .int .i64 x.f1) (a' := ?_) #[true, true, true, true, true, true, true, true, true, true, true, true, true, true, true, true, true, true, true, true, true, true, true, false, true, true, true, true, true, true, false, false, false] rfl rfl (by kernel_rfl) (fun _ _ _ h => h) (Or.inl ⟨by rfl, ?_⟩) hHeld ?_ ?_
            · rintro w' s0
              go_simp
              try (with_reducible rfl)
            rotate_left
            · simp only [Act.put, List.setIfInBounds_toArray, List.set_cons_zero, List.set_cons_succ, i64_w, i32_w]
              rfl
            refine one_ (i := 23) (N := some 88) #[true, true, true, true, true, true, true, true, true, true, true, true, true, true, true, true, true, true, true, true, true, true, true, true, true, true, true, true, true, true, false, false, false] rfl rfl (by kernel_rfl) (by decide) (fun K hK => ?_)
            refine goes_ Try.func13 (by kernel_rfl) rfl #[.pointer (some ⟨g, 0, none⟩), .int .i64 x.f1] (by rfl) rfl rfl (by (try simp only [List.map_toArray, List.map_cons, List.map_nil]); rfl) ?_
            refine (net_Len g O1 _ x.f1 _ HN3.out.nn).mono ?_
            rintro e wc ⟨rfl, hw⟩
            obtain rfl := hw.symm
            refine ⟨_, rfl, ?_⟩
            refine hK.out _ _ hHeld (fun hHeld => ?_)
            clear hK K
            try (refine norm_ (a' := ?_) ?_ ?_; rotate_left; focus (simp only [Act.put, List.setIfInBounds_toArray, List.set_cons_zero, List.set_cons_succ, i64_w, i32_w]; rfl))
            refine one_ (i := 30) (N := some 95) #[true, true, true, true, true, true, true, true, true, true, true, true, true, true, true, true, true, true, true, true, true, true, true, true, true, true, true, true, true, true, true, false, false] rfl rfl (by kernel_rfl) (by decide) (fun K hK => ?_)
            refine goes_ Try.func16 (by kernel_rfl) rfl #[.pointer (some ⟨h, 0, none⟩), .int .i64 x.f1] (by rfl) rfl rfl (by (try simp only [List.map_toArray, List.map_cons, List.map_nil]); rfl) ?_
            refine (ref_Len h O2 _ x.f1 _ HN3.out.rn).mono ?_
            rintro e wc ⟨rfl, hw⟩
            obtain rfl := hw.symm
            refine ⟨_, rfl, ?_⟩
            refine hK.out _ _ hHeld (fun hHeld => ?_)
            clear hK K
            try (refine norm_ (a' := ?_) ?_ ?_; rotate_left; focus (simp only [Act.put, List.setIfInBounds_toArray, List.set_cons_zero, List.set_cons_succ, i64_w, i32_w]; rfl))
            refine pure_ (i := 31) (N := some 96) (v := .bool false) (a' := ?_) #[true, true, true, true, true, true, true, true, true, true, true, true, true, true, true, true, true, true, true, true, true, true, true, true, true, true, true, true, true, true, true, true, false] rfl rfl (by kernel_rfl) (fun _ _ _ h => h) (Or.inl ⟨by rfl, ?_⟩) ?_ ?_
            · intro w'
              go_simp
              try (with_reducible rfl)
            rotate_left
            · simp only [Act.put, List.setIfInBounds_toArray, List.set_cons_zero, List.set_cons_succ, i64_w, i32_w]
              rfl
            refine pure_ (i := 32) (N := some 97) (v := .bool false) (a' := ?_) #[true, true, true, true, true, true, true, true, true, true, true, true, true, true, true, true, true, true, true, true, true, true, true, true, true, true, true, true, true, true, true, true, true] rfl rfl (by kernel_rfl) (fun _ _ _ h => h) (Or.inl ⟨by rfl, ?_⟩) ?_ ?_
            · intro w'
              go_simp
              try (with_reducible rfl)
            rotate_left
            · simp only [Act.put, List.setIfInBounds_toArray, List.set_cons_zero, List.set_cons_succ, i64_w, i32_w]
              rfl
            refine done_ (by kernel_rfl) ?_
            go_wp2_with fail
            go_roundw
            case rel => exact ⟨k + 1, O1, O2, by omega, by go_num, by rw [← hn2]; exact HN3, OKN, GE2, HW3⟩
            case measure => simp [intOf]; omega
        · have p3 : ((k : Int) < 200) = False := eq_false (by omega)
          have p2 : ((k : Int) < (l.length : Int)) = True := eq_true (by omega)
          go_wp2_with fail
          go_ret
          exact ⟨rfl, HW.out⟩
      · have p2 : ((k : Int) < (l.length : Int)) = False := eq_false (by omega)
        go_wp2_with fail
        go_ret
        exact ⟨rfl, HW.out⟩
  · have H1 : Hid (room < 1 ∨ 1000 < room) := by show _ ∨ _; omega
    clear hroom
    refine (net_New_no room _ H1.out).mono ?_
    rintro e w3 ⟨rfl, rfl⟩
    go_wp2_with fail
    refine (ref_New_no room _ H1.out).mono ?_
    rintro e w4 ⟨rfl, rfl⟩
    go_wp2_with fail
    have B2 := Lib.hid B1.out
    go_loopw [10] (fun i wr => i = .int .i64 0 ∧ Hid (Below w.heap.size w wr)) (fun _ _ => 0)
    case atStart => exact ⟨rfl, B2⟩
    case round =>
      obtain ⟨rfl, HW⟩ := hrel
      by_cases hlt : 0 < l.length
      · have p2 : ((0 : Int) < (l.length : Int)) = True := eq_true (by omega)
        go_wp2_with fail
        go_ret
        exact ⟨rfl, HW.out⟩
      · have p2 : ((0 : Int) < (l.length : Int)) = False := eq_false (by omega)
        go_wp2_with fail
        go_ret
        exact ⟨rfl, HW.out⟩

def lessorlaw22_NetScripts.f (a0 : Int) (l1 : List NsE) : Option Bool := if l1.length ≤ 9223372036854775807 then some true else none
theorem lessorlaw22_NetScripts.calls (a0 : Int) (A1 : Option Addr) (c1 : Nat) (l1 : List NsE) (r : Bool) (w : World) (hr1 : Kd.C k40 w A1 l1.length l1) (hc1 : l1.length ≤ c1) (h : lessorlaw22_NetScripts.f a0 l1 = some r) :
    Calls Try.prog 4 #[.int .i64 a0, .slice A1 l1.length c1] w fun e w' => e = .returned (.bool r) ∧ Below w.heap.size w w' := by
  unfold lessorlaw22_NetScripts.f at h
  split at h
  case isFalse => cases h
  rename_i hc
  obtain rfl : true = r := Option.some.inj h
  exact NetScripts_calls a0 A1 c1 l1 w hr1 hc1 hc

end Go.Proofs.Ytokcplapbjhnoaa
