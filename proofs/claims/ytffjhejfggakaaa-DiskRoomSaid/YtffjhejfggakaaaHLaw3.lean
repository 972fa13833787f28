/-
  DiskScripts: a disk of any room does any steps, as the document says. No condition.
-/
import Derived.Test.YtffjhejfggakaaaHLaw2
import Derived.Test.YtffjhejfggakaaaPrF15
namespace Go.Proofs.Ytffjhejfggakaaa
open Go.RowKit Go.Proofs.Ytffjhejfggakaaa.Pr Go.Proofs.YtffjhejfggakaaaW.PrintWords Go.Proofs.YtffjhejfggakaaaW.PrintLast Go.Proofs.YtffjhejfggakaaaW.PrintMore
attribute [local go_sem] max2_int min2_int max_two min_two max_three min_three max_four min_four
set_option linter.unusedVariables false
set_option linter.unusedSimpArgs false

abbrev StE := S40
def stOk (x : StE) : Prop := x.f1 ≤ 9223372036854775807 ∧ ∀ y ∈ x.f2, 0 ≤ y ∧ y ≤ 255

theorem long_loop (l : List StE) (hl : l.length ≤ 9223372036854775807) : ∀ (d i k : Nat), l.length ≤ i + d → i ≤ l.length → d < k → (∀ x ∈ l.take i, x.f2.length ≤ 200) →
    ∃ r, lessorlaw08_long.l0 k l (i : Int) = some r ∧ (r = false → (∀ x ∈ l, x.f2.length ≤ 200) ∧ l.length ≤ 120) := by
  intro d
  induction d with
  | zero =>
    intro i k h1 h2 hk hp
    obtain ⟨k, rfl⟩ : ∃ m, k = m + 1 := ⟨k - 1, by omega⟩
    obtain rfl : i = l.length := by omega
    simp only [lessorlaw08_long.l0]
    rw [if_neg (by omega)]
    rw [List.take_length] at hp
    exact ⟨_, rfl, fun h => ⟨hp, by have := of_decide_eq_false h; omega⟩⟩
  | succ d ih =>
    intro i k h1 h2 hk hp
    obtain ⟨k, rfl⟩ : ∃ m, k = m + 1 := ⟨k - 1, by omega⟩
    by_cases h : i < l.length
    · simp only [lessorlaw08_long.l0]
      have er : rd_T40 l (i : Int) = l[i] := by
        unfold rd_T40
        rw [Int.toNat_natCast, List.getD_eq_getElem?_getD, List.getElem?_eq_getElem h]; rfl
      rw [if_pos (by omega), if_pos (by omega), er]
      by_cases c : ((l[i].f2.length : Nat) : Int) > 200
      · rw [if_pos c]
        exact ⟨true, rfl, fun h => by cases h⟩
      · rw [if_neg c, show wrap64 ((i : Int) + 1) = ((i + 1 : Nat) : Int) from by unfold wrap64; omega]
        refine ih (i + 1) k (by omega) (by omega) (by omega) ?_
        intro x hx
        rw [List.take_succ_eq_append_getElem h] at hx
        rcases List.mem_append.1 hx with hx | hx
        · exact hp x hx
        · rw [List.mem_singleton.1 hx]; omega
    · obtain rfl : i = l.length := by omega
      exact ih l.length (k + 1) (by omega) (by omega) (by omega) hp
theorem long_any (l : List StE) (hl : l.length ≤ 9223372036854775807) (A : Option Addr) (c : Nat) (w : World) (hC : Kd.C k40 w A l.length l) (hc : l.length ≤ c) :
    ∃ r : Bool, (r = false → (∀ x ∈ l, x.f2.length ≤ 200) ∧ l.length ≤ 120) ∧ Calls Try.prog 15 #[.slice A l.length c] w fun e w' => e = .returned (.bool r) ∧ Drawn0 w w' := by
  obtain ⟨r, h1, h2⟩ := long_loop l hl l.length 0 (l.length + 1) (by omega) (by omega) (by omega) (by simp)
  exact ⟨r, h2, lessorlaw08_long.calls (l.length + 1) A c l r w hC hc (by unfold lessorlaw08_long.f; exact h1)⟩

/-- What steps make of a disk. -/
def runs (d : DkS) (l : List StE) : DkS := l.foldl (fun d x => d.step x.f0 x.f1 x.f2) d
theorem runs_succ (d : DkS) (l : List StE) {k : Nat} (h : k < l.length) : runs d (l.take (k + 1)) = (runs d (l.take k)).step l[k].f0 l[k].f1 l[k].f2 := by
  unfold runs
  rw [List.take_succ_eq_append_getElem h, List.foldl_append]; rfl
theorem runs_ok {d : DkS} (h : d.ok) {l : List StE} (hl : ∀ x ∈ l, stOk x) : (runs d l).ok := by
  induction l generalizing d with
  | nil => exact h
  | cons x l ih =>
    have hx := hl x (List.mem_cons_self ..)
    exact ih (DkS.ok_step h x.f0 hx.1 hx.2) (fun y hy => hl y (List.mem_cons_of_mem _ hy))

/-- The step that is to come. -/
theorem at_step {w : World} {A : Option Addr} {l : List StE} (hC : Kd.C k40 w A l.length l) {k : Nat} (hk : k < l.length) :
    ∃ ad A2 c2, A = some ad ∧ w.cell? (ad.add (k * 3)) = some (.int .i64 l[k].f0) ∧ w.cell? ⟨(ad.add (k * 3)).block, (ad.add (k * 3)).off + 1, none⟩ = some (.int .i64 l[k].f1) ∧ w.cell? ⟨(ad.add (k * 3)).block, (ad.add (k * 3)).off + 2, none⟩ = some (.slice A2 l[k].f2.length c2) ∧ l[k].f2.length ≤ c2 ∧ (Kd.int .u8).C w A2 l[k].f2.length l[k].f2 := by
  have er : rd_T40 l (k : Int) = l[k] := by
    unfold rd_T40
    rw [Int.toNat_natCast, List.getD_eq_getElem?_getD, List.getElem?_eq_getElem hk]; rfl
  have := at_T40 hC (k : Int) (by omega) (by omega)
  rw [er, Int.toNat_natCast] at this
  exact this

set_option maxHeartbeats 4000000 in
set_option maxRecDepth 100000 in
theorem DiskScripts_calls (room : Int) (A : Option Addr) (c : Nat) (l : List StE) (w : World) (hC : Kd.C k40 w A l.length l) (hc : l.length ≤ c) (hl : l.length ≤ 9223372036854775807) (hs : ∀ x ∈ l, stOk x) :
    Calls Try.prog 4 #[.int .i64 room, .slice A l.length c] w fun e w' => e = .returned (.bool true) ∧ Below w.heap.size w w' := by
  have HC := Lib.hid hC
  have HS := Lib.hid hs
  clear hC hs
  go_enter Try.func4, Try.ntmps4
  go_wp2_with (go_at_call 8; refine (awake_calls _).mono ?_; rintro e w1 ⟨rfl, b1⟩; have B1 := Lib.hid b1; clear b1)
  obtain ⟨r, hr, hlong⟩ := long_any l hl A c w1 (Kd.C_below HC.out B1.out) hc
  refine hlong.mono ?_
  rintro e w2 ⟨rfl, hdr⟩
  have B2 := Lib.hid (B1.out.trans (hdr.below.mono B1.out.size))
  have HR := Lib.hid hr
  clear hr hlong hdr
  by_cases hroom : 1 ≤ room ∧ room ≤ 1048576
  · obtain ⟨h1, h2⟩ := hroom
    have B4 : Hid (∀ o o', Below w.heap.size w ((w2.alloc o).alloc o')) := fun o o' => below_alloc (below_alloc B2.out o) o'
    have BO : Hid (Both ((w2.alloc (.cells #[.int .i64 room, .slice none 0 0, .int .i64 0, .int .i64 (-1)] 48)).alloc (.cells #[.int .i64 room, .slice none 0 0, .int .i64 0, .int .i64 (-1)] 42)) w2.heap.size (w2.heap.size + 1) (DkS.new room)) := by
      refine ⟨(new_at _ _ room w2).alloc _, ?_⟩
      have := new_at 42 5 room (w2.alloc (.cells #[.int .i64 room, .slice none 0 0, .int .i64 0, .int .i64 (-1)] 48))
      rwa [World.size_alloc] at this
    have OK0 := Lib.hid (DkS.ok_new h1 h2)
    have hge : w.heap.size ≤ w2.heap.size := B2.out.size
    cases r with
    | true =>
      go_wp2_with (first
        | (go_at_call 9; refine (disk_New_ok room _ h1 h2).mono ?_; rintro e w3 ⟨rfl, rfl⟩)
        | (go_at_call 16; refine (ref_New_ok room _ h1 h2).mono ?_; rintro e w4 ⟨rfl, rfl⟩)
        | fail)
      go_ret
      exact ⟨rfl, B4.out _ _⟩
    | false =>
      have hsm := HR.out rfl
      obtain ⟨hsm1, hsm2⟩ := hsm
      have HSM := Lib.hid hsm1
      clear hsm1
      go_wp2_with (first
        | (go_at_call 9; refine (disk_New_ok room _ h1 h2).mono ?_; rintro e w3 ⟨rfl, rfl⟩)
        | (go_at_call 16; refine (ref_New_ok room _ h1 h2).mono ?_; rintro e w4 ⟨rfl, rfl⟩)
        | fail)
      obtain ⟨g, hg⟩ : ∃ g, w2.heap.size = g := ⟨_, rfl⟩
      obtain ⟨h, hh⟩ : ∃ h, g + 1 = h := ⟨_, rfl⟩
      obtain ⟨W4, hW4⟩ : ∃ W4, (w2.alloc (.cells #[.int .i64 room, .slice none 0 0, .int .i64 0, .int .i64 (-1)] 48)).alloc (.cells #[.int .i64 room, .slice none 0 0, .int .i64 0, .int .i64 (-1)] 42) = W4 := ⟨_, rfl⟩
      have B5 := Lib.hid (B4.out (.cells #[.int .i64 room, .slice none 0 0, .int .i64 0, .int .i64 (-1)] 48) (.cells #[.int .i64 room, .slice none 0 0, .int .i64 0, .int .i64 (-1)] 42))
      rw [hg, hh, hW4] at BO
      rw [hW4] at B5
      rw [hg, hh, hW4]
      have GE : Hid (w.heap.size ≤ g ∧ w.heap.size ≤ h) := by exact ⟨by omega, by omega⟩
      clear hg hh hW4 hge B4
      go_loopw [11, 12] (fun i _ wr => ∃ k : Nat, k ≤ l.length ∧ i = .int .i64 k ∧ Hid (Both wr g h (runs (DkS.new room) (l.take k))) ∧ Hid (Below w.heap.size w wr)) (fun i _ _ => l.length - (intOf i).toNat)
      case atStart => exact ⟨0, Nat.zero_le _, rfl, by simpa [runs] using BO, B5⟩
      case round =>
        obtain ⟨k, hk, rfl, HB, HW⟩ := hrel
        by_cases hlt : k < l.length
        · obtain ⟨ad, A2, c2, rfl, hx0, hx1, hx2, hxl, hxc⟩ := at_step HC.out hlt
          obtain ⟨x, hx⟩ : ∃ x, x = l[k] := ⟨_, rfl⟩
          rw [← hx] at hx0 hx1 hx2 hxl hxc
          have hxm : x.f2.length ≤ 200 := by rw [hx]; exact HSM.out _ (List.getElem_mem hlt)
          have OKD := Lib.hid (runs_ok OK0.out (l := l.take k) (fun y hy => HS.out y (List.mem_of_mem_take hy)))
          have OKD2 := Lib.hid (runs_ok OK0.out (l := l.take (k + 1)) (fun y hy => HS.out y (List.mem_of_mem_take hy)))
          have ER := Lib.hid (runs_succ (DkS.new room) l hlt)
          rw [← hx] at ER
          obtain ⟨d, hd⟩ : ∃ d, d = runs (DkS.new room) (l.take k) := ⟨_, rfl⟩
          obtain ⟨d', hd'⟩ : ∃ d', d' = runs (DkS.new room) (l.take (k + 1)) := ⟨_, rfl⟩
          rw [← hd] at HB OKD ER
          rw [← hd'] at OKD2 ER
          have HD' := Lib.hid hd'
          clear hd hd' hx
          replace hx0 := (HW.out.cell (World.block_lt_of_cell? w _ hx0)).trans hx0
          replace hx1 := (HW.out.cell (World.block_lt_of_cell? w _ hx1)).trans hx1
          replace hx2 := (HW.out.cell (World.block_lt_of_cell? w _ hx2)).trans hx2
          have HXC := Lib.hid (Kd.C_below hxc HW.out)
          have p1 : (0 ≤ (k : Int)) = True := eq_true (by omega)
          have p2 : ((k : Int) < (l.length : Int)) = True := eq_true (by omega)
          clear hxc
          go_wp2_with (first
            | (go_at_call 17; refine (step_calls g h d x.f0 x.f1 A2 c2 x.f2 _ HB.out OKD.out HXC.out hxl (by omega)).mono ?_; rintro e wa ⟨rfl, hb, hf⟩; rw [← ER.out] at hb; have HB2 := Lib.hid hb; have HW2 := Lib.hid (below_fr HW.out hf HW.out.size (fun j hj => by rcases hj with rfl | rfl; exact GE.out.1; exact GE.out.2)); clear hb hf)
            | fail)
          have hbr := HB2.out.rf
          obtain ⟨v, hv, hrr⟩ := hbr
          obtain ⟨Ar, cr, rfl, hcr, hCr⟩ := Kd.R_reads hrr
          have y1 : wa.cell? ⟨h, 1, none⟩ = some (.slice Ar d'.b.length cr) := (blk_cell hv 1).trans rfl
          have y2 : wa.cell? ⟨h, 2, none⟩ = some (.int .i64 d'.last) := (blk_cell hv 2).trans rfl
          have HCR := Lib.hid hCr
          obtain ⟨sr, hsr⟩ : ∃ sr, sr = strOfNums d'.b := ⟨_, rfl⟩
          have y3 : ∀ W, Below wa.heap.size wa W → (convert 29 9 (.slice Ar d'.b.length cr)).run Try.prog W = .ok (.string sr) W := fun W hW => by rw [hsr]; exact str_of (Kd.C_below hCr hW)
          have HSR := Lib.hid hsr
          have hdl : d'.b.length ≤ 140737488355328 := by have h1 := OKD2.out.2.1; have h2 := OKD2.out.2.2.1; omega
          have HDL := Lib.hid hdl
          have z3 := y3 wa.drew (below_drew (Below.refl _ _))
          have Y3 := Lib.hid y3
          clear hv hrr hcr hCr hx0 hx1 hx2 hsr hdl y3
          refine start_ (n := 22) (S := fun w' => w'.cell? ⟨h, 1, none⟩ = some (.slice Ar d'.b.length cr) ∧ w'.cell? ⟨h, 2, none⟩ = some (.int .i64 d'.last) ∧ (convert 29 9 (.slice Ar d'.b.length cr)).run Try.prog w' = .ok (.string sr) w') (ds := []) #[false, false, false, false, false, false, false, false, false, false, false, false, false, false, false, false, false, false, false, false, false, false] (by kernel_rfl) rfl rfl ⟨y1, y2, z3⟩ (fun hHeld => ?_)
          refine pure_ (i := 0) (N := some 64) (v := ?_) (a' := ?_) #[true, false, false, false, false, false, false, false, false, false, false, false, false, false, false, false, false, false, false, false, false, false] rfl rfl (by kernel_rfl) (fun _ _ _ h => h) (Or.inl ⟨by rfl, ?_⟩) ?_ ?_
          rotate_left
          · intro w'
            go_simp
            with_reducible rfl
          rotate_left
          · simp only [Act.put, List.setIfInBounds_toArray, List.set_cons_zero, List.set_cons_succ, i64_w, i32_w]
            rfl
          refine pure_ (i := 1) (N := some 65) (v := ?_) (a' := ?_) #[true, true, false, false, false, false, false, false, false, false, false, false, false, false, false, false, false, false, false, false, false, false] rfl rfl (by kernel_rfl) (fun _ _ _ h => h) (Or.inl ⟨by rfl, ?_⟩) ?_ ?_
          rotate_left
          · intro w'
            go_simp
            with_reducible rfl
          rotate_left
          · simp only [Act.put, List.setIfInBounds_toArray, List.set_cons_zero, List.set_cons_succ, i64_w, i32_w]
            rfl
          refine pure_ (i := 2) (N := some 66) (v := ?_) (a' := ?_) #[true, true, true, false, false, false, false, false, false, false, false, false, false, false, false, false, false, false, false, false, false, false] rfl rfl (by kernel_rfl) (fun _ _ _ h => h) (Or.inl ⟨by rfl, ?_⟩) ?_ ?_
          rotate_left
          · intro w'
            go_simp
            with_reducible rfl
          rotate_left
          · simp only [Act.put, List.setIfInBounds_toArray, List.set_cons_zero, List.set_cons_succ, i64_w, i32_w]
            rfl
          refine pure_ (i := 3) (N := some 67) (v := ?_) (a' := ?_) #[true, true, true, true, false, false, false, false, false, false, false, false, false, false, false, false, false, false, false, false, false, false] rfl rfl (by kernel_rfl) (fun _ _ _ h => h) (Or.inl ⟨by rfl, ?_⟩) ?_ ?_
          rotate_left
          · intro w'
            go_simp
            with_reducible rfl
          rotate_left
          · simp only [Act.put, List.setIfInBounds_toArray, List.set_cons_zero, List.set_cons_succ, i64_w, i32_w]
            rfl
          refine pure_ (i := 6) (N := some 70) (v := ?_) (a' := ?_) #[true, true, true, true, false, false, true, false, false, false, false, false, false, false, false, false, false, false, false, false, false, false] rfl rfl (by kernel_rfl) (fun _ _ _ h => h) (Or.inl ⟨by rfl, ?_⟩) ?_ ?_
          rotate_left
          · intro w'
            go_simp
            with_reducible rfl
          rotate_left
          · simp only [Act.put, List.setIfInBounds_toArray, List.set_cons_zero, List.set_cons_succ, i64_w, i32_w]
            rfl
          refine pure_ (i := 7) (N := some 71) (v := ?_) (a' := ?_) #[true, true, true, true, false, false, true, true, false, false, false, false, false, false, false, false, false, false, false, false, false, false] rfl rfl (by kernel_rfl) (fun _ _ _ h => h) (Or.inl ⟨by rfl, ?_⟩) ?_ ?_
          rotate_left
          · intro w'
            go_simp
            with_reducible rfl
          rotate_left
          · simp only [Act.put, List.setIfInBounds_toArray, List.set_cons_zero, List.set_cons_succ, i64_w, i32_w]
            rfl
          refine pure_ (i := 8) (N := some 72) (v := ?_) (a' := ?_) #[true, true, true, true, false, false, true, true, true, false, false, false, false, false, false, false, false, false, false, false, false, false] rfl rfl (by kernel_rfl) (fun _ _ _ h => h) (Or.inl ⟨by rfl, ?_⟩) ?_ ?_
          rotate_left
          · intro w'
            go_simp
            with_reducible rfl
          rotate_left
          · simp only [Act.put, List.setIfInBounds_toArray, List.set_cons_zero, List.set_cons_succ, i64_w, i32_w]
            rfl
          refine take_ (i := 9) (N := some 73) (v := ?_) (a' := ?_) #[true, true, true, true, false, false, true, true, true, true, false, false, false, false, false, false, false, false, false, false, false, false] rfl rfl (by kernel_rfl) (fun _ _ _ h => h) (Or.inl ⟨by rfl, ?_⟩) hHeld ?_ ?_
          rotate_left
          · rintro w' ⟨s0, s1, s2⟩
            go_simp
            with_reducible rfl
          rotate_left
          · simp only [Act.put, List.setIfInBounds_toArray, List.set_cons_zero, List.set_cons_succ, i64_w, i32_w]
            rfl
          refine take_ (i := 10) (N := some 74) (v := ?_) (a' := ?_) #[true, true, true, true, false, false, true, true, true, true, true, false, false, false, false, false, false, false, false, false, false, false] rfl rfl (by kernel_rfl) (fun _ _ _ h => h) (Or.inl ⟨by rfl, ?_⟩) hHeld ?_ ?_
          rotate_left
          · rintro w' ⟨s0, s1, s2⟩
            go_simp
            with_reducible rfl
          rotate_left
          · simp only [Act.put, List.setIfInBounds_toArray, List.set_cons_zero, List.set_cons_succ, i64_w, i32_w]
            rfl
          refine one_ (i := 4) (N := some 68) #[true, true, true, true, true, false, true, true, true, true, true, false, false, false, false, false, false, false, false, false, false, false] rfl rfl (by kernel_rfl) (by decide) (fun K hK => ?_)
          refine goes_ Try.func14 (by kernel_rfl) rfl #[.pointer (some ⟨g, 0, none⟩)] (by rfl) rfl rfl (by (try simp only [List.map_toArray, List.map_cons, List.map_nil]); rfl) ?_
          refine (disk_Read g d' _ HB2.out.dk.drew HDL.out).mono ?_
          rintro e wb ⟨v2, rfl, hv2, hb2⟩
          obtain ⟨A5, c5, rfl, hc5, hC5⟩ := Kd.R_reads hv2
          have hb3 : Below wa.heap.size wa wb := (below_drew (Below.refl _ _)).trans hb2
          have y1 := pw_cell_below hb3 y1
          have y2 := pw_cell_below hb3 y2
          have y3 := Y3.out wb hb3
          have hcv : (convert 29 9 (.slice A5 d'.b.length c5)).run Try.prog wb = .ok (.string sr) wb := by rw [HSR.out]; exact str_of hC5
          have HB3 := Lib.hid hb3
          clear hv2 hb2 hb3 hc5 hC5 z3
          refine ⟨_, rfl, ?_⟩
          clear hHeld
          refine hK.out _ _ ⟨y1, y2, y3⟩ (fun hHeld => ?_)
          clear hK K
          try (refine norm_ (a' := ?_) ?_ ?_; rotate_left; focus (simp only [Act.put, List.setIfInBounds_toArray, List.set_cons_zero, List.set_cons_succ, i64_w, i32_w]; rfl))
          refine one_ (i := 5) (N := some 69) #[true, true, true, true, true, true, true, true, true, true, true, false, false, false, false, false, false, false, false, false, false, false] rfl rfl (by kernel_rfl) (by decide) (fun K hK => ?_)
          go_simp
          refine hK.out _ _ ⟨y1, y2, y3⟩ (fun hHeld => ?_)
          clear hK K
          try (refine norm_ (a' := ?_) ?_ ?_; rotate_left; focus (simp only [Act.put, List.setIfInBounds_toArray, List.set_cons_zero, List.set_cons_succ, i64_w, i32_w]; rfl))
          refine pure_ (i := 11) (N := some 75) (v := .bool false) (a' := ?_) #[true, true, true, true, true, true, true, true, true, true, true, true, false, false, false, false, false, false, false, false, false, false] rfl rfl (by kernel_rfl) (fun _ _ _ h => h) (Or.inl ⟨by rfl, ?_⟩) ?_ ?_
          · intro w'
            go_simp
            try (with_reducible rfl)
          rotate_left
          · simp only [Act.put, List.setIfInBounds_toArray, List.set_cons_zero, List.set_cons_succ, i64_w, i32_w]
            rfl
          refine pure_ (i := 12) (N := some 76) (v := ?_) (a' := ?_) #[true, true, true, true, true, true, true, true, true, true, true, true, true, false, false, false, false, false, false, false, false, false] rfl rfl (by kernel_rfl) (fun _ _ _ h => h) (Or.inl ⟨by rfl, ?_⟩) ?_ ?_
          rotate_left
          · intro w'
            go_simp
            with_reducible rfl
          rotate_left
          · simp only [Act.put, List.setIfInBounds_toArray, List.set_cons_zero, List.set_cons_succ, i64_w, i32_w]
            rfl
          refine pure_ (i := 13) (N := some 77) (v := ?_) (a' := ?_) #[true, true, true, true, true, true, true, true, true, true, true, true, true, true, false, false, false, false, false, false, false, false] rfl rfl (by kernel_rfl) (fun _ _ _ h => h) (Or.inl ⟨by rfl, ?_⟩) ?_ ?_
          rotate_left
          · intro w'
            go_simp
            with_reducible rfl
          rotate_left
          · simp only [Act.put, List.setIfInBounds_toArray, List.set_cons_zero, List.set_cons_succ, i64_w, i32_w]
            rfl
          refine pure_ (i := 14) (N := some 78) (v := ?_) (a' := ?_) #[true, true, true, true, true, true, true, true, true, true, true, true, true, true, true, false, false, false, false, false, false, false] rfl rfl (by kernel_rfl) (fun _ _ _ h => h) (Or.inl ⟨by rfl, ?_⟩) ?_ ?_
          rotate_left
          · intro w'
            go_simp
            with_reducible rfl
          rotate_left
          · simp only [Act.put, List.setIfInBounds_toArray, List.set_cons_zero, List.set_cons_succ, i64_w, i32_w]
            rfl
          refine pure_ (i := 16) (N := some 80) (v := ?_) (a' := ?_) #[true, true, true, true, true, true, true, true, true, true, true, true, true, true, true, false, true, false, false, false, false, false] rfl rfl (by kernel_rfl) (fun _ _ _ h => h) (Or.inl ⟨by rfl, ?_⟩) ?_ ?_
          rotate_left
          · intro w'
            go_simp
            with_reducible rfl
          rotate_left
          · simp only [Act.put, List.setIfInBounds_toArray, List.set_cons_zero, List.set_cons_succ, i64_w, i32_w]
            rfl
          refine pure_ (i := 17) (N := some 81) (v := ?_) (a' := ?_) #[true, true, true, true, true, true, true, true, true, true, true, true, true, true, true, false, true, true, false, false, false, false] rfl rfl (by kernel_rfl) (fun _ _ _ h => h) (Or.inl ⟨by rfl, ?_⟩) ?_ ?_
          rotate_left
          · intro w'
            go_simp
            with_reducible rfl
          rotate_left
          · simp only [Act.put, List.setIfInBounds_toArray, List.set_cons_zero, List.set_cons_succ, i64_w, i32_w]
            rfl
          refine pure_ (i := 18) (N := some 82) (v := ?_) (a' := ?_) #[true, true, true, true, true, true, true, true, true, true, true, true, true, true, true, false, true, true, true, false, false, false] rfl rfl (by kernel_rfl) (fun _ _ _ h => h) (Or.inl ⟨by rfl, ?_⟩) ?_ ?_
          rotate_left
          · intro w'
            go_simp
            with_reducible rfl
          rotate_left
          · simp only [Act.put, List.setIfInBounds_toArray, List.set_cons_zero, List.set_cons_succ, i64_w, i32_w]
            rfl
          refine take_ (i := 19) (N := some 83) (v := ?_) (a' := ?_) #[true, true, true, true, true, true, true, true, true, true, true, true, true, true, true, false, true, true, true, true, false, false] rfl rfl (by kernel_rfl) (fun _ _ _ h => h) (Or.inl ⟨by rfl, ?_⟩) hHeld ?_ ?_
          rotate_left
          · rintro w' ⟨s0, s1, s2⟩
            go_simp
            with_reducible rfl
          rotate_left
          · simp only [Act.put, List.setIfInBounds_toArray, List.set_cons_zero, List.set_cons_succ, i64_w, i32_w]
            rfl
          refine one_ (i := 15) (N := some 79) #[true, true, true, true, true, true, true, true, true, true, true, true, true, true, true, true, true, true, true, true, false, false] rfl rfl (by kernel_rfl) (by decide) (fun K hK => ?_)
          refine goes_ Try.func18 (by kernel_rfl) rfl #[.pointer (some ⟨g, 0, none⟩)] (by rfl) rfl rfl (by (try simp only [List.map_toArray, List.map_cons, List.map_nil]); rfl) ?_
          refine (disk_Lasts g d' _ (HB2.out.dk.below HB3.out)).mono ?_
          rintro e wc ⟨rfl, rfl⟩
          refine ⟨_, rfl, ?_⟩
          clear hHeld
          refine hK.out _ _ ⟨y1, y2, y3⟩ (fun hHeld => ?_)
          clear hK K
          try (refine norm_ (a' := ?_) ?_ ?_; rotate_left; focus (simp only [Act.put, List.setIfInBounds_toArray, List.set_cons_zero, List.set_cons_succ, i64_w, i32_w]; rfl))
          refine pure_ (i := 20) (N := some 84) (v := .bool false) (a' := ?_) #[true, true, true, true, true, true, true, true, true, true, true, true, true, true, true, true, true, true, true, true, true, false] rfl rfl (by kernel_rfl) (fun _ _ _ h => h) (Or.inl ⟨by rfl, ?_⟩) ?_ ?_
          · intro w'
            go_simp
            try (with_reducible rfl)
          rotate_left
          · simp only [Act.put, List.setIfInBounds_toArray, List.set_cons_zero, List.set_cons_succ, i64_w, i32_w]
            rfl
          refine pure_ (i := 21) (N := some 85) (v := ?_) (a' := ?_) #[true, true, true, true, true, true, true, true, true, true, true, true, true, true, true, true, true, true, true, true, true, true] rfl rfl (by kernel_rfl) (fun _ _ _ h => h) (Or.inl ⟨by rfl, ?_⟩) ?_ ?_
          rotate_left
          · intro w'
            go_simp
            with_reducible rfl
          rotate_left
          · simp only [Act.put, List.setIfInBounds_toArray, List.set_cons_zero, List.set_cons_succ, i64_w, i32_w]
            rfl
          refine done_ (by kernel_rfl) ?_
          clear hHeld hcv y1 y2 y3
          go_wp2_with fail
          go_roundw
          case rel =>
            refine ⟨k + 1, by omega, by go_num, ?_, HW2.out.trans (HB3.out.mono HW2.out.size)⟩
            show Both _ _ _ _
            rw [← HD'.out]
            exact HB2.out.below HB3.out
          case measure => simp [intOf]; omega
        · obtain rfl : k = l.length := by omega
          go_wp2_with fail
          go_ret
          exact ⟨rfl, HW.out⟩
  · have h1 : room < 1 ∨ 1048576 < room := by omega
    have H1 := Lib.hid h1
    clear h1 hroom
    cases r with
    | true =>
      go_wp2_with (first
        | (go_at_call 9; refine (disk_New_no room _ H1.out).mono ?_; rintro e w3 ⟨rfl, rfl⟩)
        | (go_at_call 16; refine (ref_New_no room _ H1.out).mono ?_; rintro e w4 ⟨rfl, rfl⟩)
        | fail)
      go_ret
      exact ⟨rfl, B2.out⟩
    | false =>
      go_wp2_with (first
        | (go_at_call 9; refine (disk_New_no room _ H1.out).mono ?_; rintro e w3 ⟨rfl, rfl⟩)
        | (go_at_call 16; refine (ref_New_no room _ H1.out).mono ?_; rintro e w4 ⟨rfl, rfl⟩)
        | fail)
      go_loop [11, 12] (fun i _ => i = .int .i64 0) (fun _ _ => 0)
      case atStart => rfl
      case round =>
        subst hrel
        by_cases hlt : 0 < l.length
        · go_wp2_with fail
          go_ret
          exact ⟨rfl, B2.out⟩
        · go_wp2_with fail
          go_ret
          exact ⟨rfl, B2.out⟩

instance (x : StE) : Decidable (stOk x) := by unfold stOk; infer_instance
def lessorlaw08_DiskScripts.f (a0 : Int) (l1 : List StE) : Option Bool := if l1.length ≤ 9223372036854775807 ∧ ∀ x ∈ l1, stOk x then some true else none
theorem lessorlaw08_DiskScripts.calls (a0 : Int) (A1 : Option Addr) (c1 : Nat) (l1 : List StE) (r : Bool) (w : World) (hr1 : Kd.C k40 w A1 l1.length l1) (hc1 : l1.length ≤ c1) (h : lessorlaw08_DiskScripts.f a0 l1 = some r) :
    Calls Try.prog 4 #[.int .i64 a0, .slice A1 l1.length c1] w fun e w' => e = .returned (.bool r) ∧ Below w.heap.size w w' := by
  unfold lessorlaw08_DiskScripts.f at h
  split at h
  case isFalse => cases h
  rename_i hc
  obtain rfl : true = r := Option.some.inj h
  exact DiskScripts_calls a0 A1 c1 l1 w hr1 hc1 hc.1 hc.2
end Go.Proofs.Ytffjhejfggakaaa
