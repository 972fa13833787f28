/-
  The program's net: Copy, Take, Lose. Condition: a net that may be.
-/
import Derived.Test.YtokcplapbjhnoaaHNt4
namespace Go.Proofs.Ytokcplapbjhnoaa
open Go.RowKit Go.Proofs.YtokcplapbjhnoaaW.PrintWords Go.Proofs.YtokcplapbjhnoaaW.PrintLast Go.Proofs.YtokcplapbjhnoaaW.PrintMore
attribute [local go_sem] max2_int min2_int max_two min_two max_three min_three max_four min_four
set_option linter.unusedVariables false
set_option linter.unusedSimpArgs false

theorem box_typed {W : World} {B : Nat} {t : TypeId} {v : Value} (h : Boxed W B t v) {U : TypeId} (ht : t ≠ U) : ∀ k, k = B → k < W.heap.size → ∀ cs, W.heap[k]? ≠ some (.cells cs U (0, 0)) := by
  rintro k rfl _ cs hc
  have hh : W.heap[k]? = some (.cells #[v] t (0, 0)) := h
  rw [hh] at hc
  injection hc with hc
  injection hc with _ hc
  exact ht hc
theorem at_copy (g : Nat) (O : Nat → Prop) (n : NtS) (i j : Int) (bn ba bi : Nat) (w : World) (h : NN w g O n) (hok : n.ok)
    (xn : Boxed w bn 23 (.pointer (some ⟨g, 0, none⟩))) (xa : Boxed w ba 3 (.int .i64 j)) (xi : Boxed w bi 3 (.int .i64 i)) :
    Calls Try.prog 20 #[.pointer (some ⟨g, 0, none⟩), .int .i64 i, .int .i64 j, .func (.func 21) #[] #[.pointer (some ⟨bn, 0, none⟩), .pointer (some ⟨ba, 0, none⟩), .pointer (some ⟨bi, 0, none⟩)]] w fun e w' => ∃ O', e = .returned (.int .i64 (n.copy i j).1) ∧ NN w' g O' (n.copy i j).2 ∧ Ext w w' O O' := by
  by_cases h0 : n.place i j = 0
  · obtain ⟨hi, hj, hj2⟩ := place_in h0
    obtain ⟨v, hv, hr, _, _⟩ := h.ways hi
    obtain ⟨A, c, rfl⟩ := Kd.R_slice hr
    obtain ⟨k, rfl⟩ : ∃ k : Nat, j = k := ⟨j.toNat, by omega⟩
    refine (at_does g O n i k _ _ A c w h h0 hv enters_copy (fun r w' => ∃ O', r = (n.copy i k).1 ∧ NN w' g O' (n.copy i k).2 ∧ Ext w w' O O') (by simp) (copy1_calls g O n i k bn ba bi A c w h hok h0 hv xn xa xi)).mono ?_
    rintro e w' ⟨r, rfl, O', rfl, h1, h2⟩
    exact ⟨O', rfl, h1, h2⟩
  · have E : n.copy i j = (n.place i j, n) := by unfold NtS.copy; rw [if_neg h0]
    refine (at_no g O n i j _ _ w h h0).mono ?_
    rintro e w' ⟨rfl, rfl⟩
    rw [E]
    exact ⟨O, rfl, h, Ext.refl _ _⟩
set_option maxHeartbeats 2000000 in
set_option maxRecDepth 100000 in
theorem net_Copy (g : Nat) (O : Nat → Prop) (n : NtS) (i j : Int) (w : World) (h : NN w g O n) (hok : n.ok) :
    Calls Try.prog 11 #[.pointer (some ⟨g, 0, none⟩), .int .i64 i, .int .i64 j] w fun e w' => ∃ O', e = .returned (.int .i64 (n.copy i j).1) ∧ NN w' g O' (n.copy i j).2 ∧ Ext w w' O O' := by
  obtain ⟨W0, hW0⟩ : ∃ W0, ((w.alloc (.cells #[.pointer (some ⟨g, 0, none⟩)] 23)).alloc (.cells #[.int .i64 i] 3)).alloc (.cells #[.int .i64 j] 3) = W0 := ⟨_, rfl⟩
  have b1 : Boxed W0 w.heap.size 23 (.pointer (some ⟨g, 0, none⟩)) := by rw [← hW0]; exact ((Boxed.new _ _ _).alloc _).alloc _
  have b2 : Boxed W0 (w.heap.size + 1) 3 (.int .i64 i) := by rw [← hW0]; have := (Boxed.new (w.alloc (.cells #[.pointer (some ⟨g, 0, none⟩)] 23)) 3 (.int .i64 i)).alloc (.cells #[.int .i64 j] 3); rwa [World.size_alloc] at this
  have b3 : Boxed W0 (w.heap.size + 1 + 1) 3 (.int .i64 j) := by rw [← hW0]; have := Boxed.new ((w.alloc (.cells #[.pointer (some ⟨g, 0, none⟩)] 23)).alloc (.cells #[.int .i64 i] 3)) 3 (.int .i64 j); rwa [World.size_alloc, World.size_alloc] at this
  have hbel : Below w.heap.size w W0 := by rw [← hW0]; exact below_alloc (below_alloc (below_alloc (Below.refl _ _) _) _) _
  have X1 := b1.cell
  have X2 := b2.cell
  have X3 := b3.cell
  have HN := Lib.hid (h.below hbel)
  have HB1 := Lib.hid b1
  have HB2 := Lib.hid b2
  have HB3 := Lib.hid b3
  have HBEL := Lib.hid hbel
  have HOK := Lib.hid hok
  clear b1 b2 b3 hbel h hok
  go_enter Try.func11, Try.ntmps11
  go_upto_region 1 with fail
  try rw [hW0]
  clear hW0
  go_wp2_with (first | (go_at_call 20; refine (at_copy g O n i j _ _ _ _ HN.out HOK.out HB1.out HB3.out HB2.out).mono ?_; rintro e w' ⟨O', rfl, h1, h2⟩; have H1 := Lib.hid h1; have H2 := Lib.hid h2; clear h1 h2) | fail)
  go_ret
  exact ⟨O', rfl, H1.out, (Ext.of_below HBEL.out O).then_ H2.out⟩

set_option maxHeartbeats 4000000 in
set_option maxRecDepth 100000 in
theorem take1_calls (g : Nat) (O : Nat → Prop) (n : NtS) (i : Int) (j : Nat) (bn ba bi bo : Nat) (A : Option Addr) (c : Nat) (w : World) (h : NN w g O n) (hok : n.ok) (h0 : n.place i j = 0) (hv : w.cell? ⟨g, 2 + i.toNat, none⟩ = some (.slice A (n.way i).length c))
    (xn : Boxed w bn 23 (.pointer (some ⟨g, 0, none⟩))) (xa : Boxed w ba 3 (.int .i64 (j : Int))) (xi : Boxed w bi 3 (.int .i64 i)) (xo : Boxed w bo 28 (.slice none 0 0)) (hbo : ∀ k, O k → k ≠ bo) (n1 : bn ≠ bo) (n2 : ba ≠ bo) (n3 : bi ≠ bo) :
    Calls Try.prog 23 #[.slice A (n.way i).length c, .pointer (some ⟨ba, 0, none⟩), .pointer (some ⟨bo, 0, none⟩), .pointer (some ⟨bn, 0, none⟩), .pointer (some ⟨bi, 0, none⟩)] w fun e w' => ∃ r, e = .returned (.int .i64 r) ∧
      (r = 0 ∧ ∃ O' vo, NN w' g O' (n.take i j) ∧ w'.cell? ⟨bo, 0, none⟩ = some vo ∧ (Kd.int .u8).R 5 w' 0 (fun _ => True) vo (n.taken i j) ∧ Fr w w' (fun k => O k ∨ k = bo) ∧ ∀ k, O' k → O k ∨ w.heap.size ≤ k) := by
  obtain ⟨hi, _, hj⟩ := place_in h0
  have hj : j < (n.way i).length := by omega
  obtain ⟨v, hv2, hr, hown, _⟩ := h.ways hi
  obtain rfl := Option.some.inj (hv2.symm.trans hv)
  obtain ⟨hw1, hw2⟩ := NtS.ok_way hok i
  have hroom := hok.2.1
  obtain ⟨ad, Ab, nb, cb, rfl, y4, HNB, hrb⟩ := BR.elem hr j hj
  have E1 : Hid (n.take i (j : Int) = n.setWay i ((n.way i).eraseIdx j)) := by show _ = _; unfold NtS.take; rw [if_pos h0, Int.toNat_natCast]
  have E2 : Hid (n.taken i (j : Int) = (n.way i)[j]) := by show _ = _; unfold NtS.taken; rw [if_pos h0, Int.toNat_natCast, List.getD_eq_getElem?_getD, List.getElem?_eq_getElem hj]; rfl
  obtain ⟨x, hx⟩ : ∃ x, x = (n.way i)[j] := ⟨_, rfl⟩
  rw [← hx] at hrb HNB E2
  obtain ⟨m, hm⟩ : ∃ m, m = (n.way i).length := ⟨_, rfl⟩
  rw [← hm] at hv hr hj hw1 hown ⊢
  obtain ⟨w1, hws⟩ : ∃ w1, w.setCell ⟨bo, 0, none⟩ (.slice Ab nb cb) = w1 := ⟨_, rfl⟩
  have f1 : Fr w w1 (fun k => k = bo) := by rw [← hws]; exact (Fr.refl w (fun k => k = bo)).setCell (p := ⟨bo, 0, none⟩) (.inl rfl) _
  have ty := box_typed xo (U := 5) (by decide)
  have h1 : NN w1 g O n := h.fr f1 (fun k hk e => hbo k hk e) (fun k hk hlt => ty k hk hlt)
  have r1 := BR.fr hr f1 (fun k hk e => hbo k (hown k hk) e) (fun k hk hlt => ty k hk hlt)
  have o1 : w1.heap[bo]? = some (.cells #[.slice Ab nb cb] 28 (0, 0)) := by rw [← hws]; exact (blk_set (show w.heap[bo]? = some (.cells #[.slice none 0 0] 28 (0, 0)) from xo) 0 _).trans rfl
  have rb1 : (Kd.int .u8).R 5 w1 0 (fun _ => True) (.slice Ab nb cb) x := R_fr (Kd.R_mono hrb (fun _ _ => trivial)) f1 (fun k hk hlt q hq cs hc => by
    rcases List.mem_cons.1 hq with rfl | hq
    · exact ty k hk hlt cs hc
    · cases hq)
  have fo : w.frozen? ⟨bo, 0, none⟩ = false := blk_frozen (show w.heap[bo]? = some (.cells #[.slice none 0 0] 28 (0, 0)) from xo) 0
  have yo := xo.cell
  have y2 := xa.cell
  have z1 := (box_fr xn f1 n1).cell
  have z2 := (box_fr xa f1 n2).cell
  have z3 := (box_fr xi f1 n3).cell
  have cv : w1.cell? ⟨g, 2 + i.toNat, none⟩ = some (.slice (some ad) m c) := by
    rw [World.cell?_of_block (f1.block g (World.block_lt_of_cell? w _ hv) (fun e => by obtain ⟨_, _, _, _, _, _, hO⟩ := h; exact hbo g ((hO g).2 (.inl rfl)) e))]
    exact hv
  have H1 := Lib.hid h1
  have R1 := Lib.hid r1
  have O1 := Lib.hid o1
  have RB1 := Lib.hid rb1
  have F1 := Lib.hid f1
  have HBO := Lib.hid hbo
  have HM := Lib.hid hm
  have p1 : (0 ≤ (j : Int)) = True := eq_true (by omega)
  have p2 : ((j : Int) < (m : Int)) = True := eq_true (by omega)
  obtain ⟨k1, hk1⟩ : ∃ k1 : Nat, k1 = j + 1 := ⟨_, rfl⟩
  obtain ⟨p, hp⟩ : ∃ p : Nat, m = p + 1 := ⟨m - 1, by omega⟩
  have e1 : IntKind.i64.wrap ((j : Int) + 1) = (k1 : Int) := by rw [hk1]; exact IntWalk.i64_in _ (by omega)
  have HK1 := Lib.hid hk1
  have HP := Lib.hid hp
  have HJP : Hid (j ≤ p) := by show j ≤ p; omega
  have HML : Hid (m ≤ 1000) := by show m ≤ 1000; omega
  clear h hr hok hv2 hw2 hx hrb xn xa xi xo hm h0 h1 r1 o1 rb1 f1 hbo hown ty hk1 hp hv hj
  rcases hi with rfl | rfl
  · skip
    have c2 : w1.cell? ⟨g, 2, none⟩ = some (.slice (some ad) m c) := cv
    clear cv
    go_enter Try.func23, Try.ntmps23
    go_wp2_with fail
    try rw [hws]
    clear hws fo yo y2 y4
    refine start_ (n := 12) (S := fun w' => w'.cell? ⟨bn, 0, none⟩ = some (.pointer (some ⟨g, 0, none⟩)) ∧ w'.cell? ⟨ba, 0, none⟩ = some (.int .i64 (j : Int)) ∧ w'.cell? ⟨bi, 0, none⟩ = some (.int .i64 0)) (ds := [11]) #[false, false, false, false, false, false, false, false, false, false, false, false] (by kernel_rfl) rfl rfl ⟨z1, z2, z3⟩ (fun hHeld => ?_)
    obtain ⟨W2, hW2⟩ : ∃ W2, w1.drew = W2 := ⟨_, rfl⟩
    have hbw : Below w1.heap.size w1 W2 := by rw [← hW2]; exact below_drew (Below.refl _ _)
    rw [hW2] at hHeld ⊢
    clear hW2
    have HW := Lib.hid hbw
    clear hbw
    refine pure_ (i := 2) (N := some 13) (v := ?_) (a' := ?_) #[false, false, true, false, false, false, false, false, false, false, false, false] rfl rfl (by kernel_rfl) (fun _ _ _ h => h) (Or.inl ⟨by rfl, ?_⟩) ?_ ?_
    rotate_left
    · intro w'
      go_simp
      with_reducible rfl
    rotate_left
    · simp only [Act.put, List.setIfInBounds_toArray, List.set_cons_zero, List.set_cons_succ, i64_w, i32_w]
      rfl
    refine take_ (i := 0) (N := some 11) (v := ?_) (a' := ?_) #[true, false, true, false, false, false, false, false, false, false, false, false] rfl rfl (by kernel_rfl) (fun _ _ _ h => h) (Or.inl ⟨by rfl, ?_⟩) hHeld ?_ ?_
    rotate_left
    · rintro w' ⟨s0, s1, s2⟩
      go_simp
      with_reducible rfl
    rotate_left
    · simp only [Act.put, List.setIfInBounds_toArray, List.set_cons_zero, List.set_cons_succ, i64_w, i32_w]
      rfl
    refine pure_ (i := 8) (N := some 19) (v := ?_) (a' := ?_) #[true, false, true, false, false, false, false, false, true, false, false, false] rfl rfl (by kernel_rfl) (fun _ _ _ h => h) (Or.inl ⟨by rfl, ?_⟩) ?_ ?_
    rotate_left
    · intro w'
      go_simp
      with_reducible rfl
    rotate_left
    · simp only [Act.put, List.setIfInBounds_toArray, List.set_cons_zero, List.set_cons_succ, i64_w, i32_w]
      rfl
    refine pure_ (i := 9) (N := some 20) (v := ?_) (a' := ?_) #[true, false, true, false, false, false, false, false, true, true, false, false] rfl rfl (by kernel_rfl) (fun _ _ _ h => h) (Or.inl ⟨by rfl, ?_⟩) ?_ ?_
    rotate_left
    · intro w'
      go_simp
      with_reducible rfl
    rotate_left
    · simp only [Act.put, List.setIfInBounds_toArray, List.set_cons_zero, List.set_cons_succ, i64_w, i32_w]
      rfl
    refine take_ (i := 1) (N := some 12) (v := ?_) (a' := ?_) #[true, true, true, false, false, false, false, false, true, true, false, false] rfl rfl (by kernel_rfl) (fun _ _ _ h => h) (Or.inl ⟨by rfl, ?_⟩) hHeld ?_ ?_
    rotate_left
    · rintro w' ⟨s0, s1, s2⟩
      go_simp
      with_reducible rfl
    rotate_left
    · simp only [Act.put, List.setIfInBounds_toArray, List.set_cons_zero, List.set_cons_succ, i64_w, i32_w]
      rfl
    refine take_ (i := 4) (N := some 15) (v := ?_) (a' := ?_) #[true, true, true, false, true, false, false, false, true, true, false, false] rfl rfl (by kernel_rfl) (fun _ _ _ h => h) (Or.inl ⟨by rfl, ?_⟩) hHeld ?_ ?_
    rotate_left
    · rintro w' ⟨s0, s1, s2⟩
      go_simp
      with_reducible rfl
    rotate_left
    · simp only [Act.put, List.setIfInBounds_toArray, List.set_cons_zero, List.set_cons_succ, i64_w, i32_w]
      rfl
    refine take_ (i := 5) (N := some 16) (v := ?_) (a' := ?_) #[true, true, true, false, true, true, false, false, true, true, false, false] rfl rfl (by kernel_rfl) (fun _ _ _ h => h) (Or.inl ⟨by rfl, ?_⟩) hHeld ?_ ?_
    rotate_left
    · rintro w' ⟨s0, s1, s2⟩
      go_simp
      with_reducible rfl
    rotate_left
    · simp only [Act.put, List.setIfInBounds_toArray, List.set_cons_zero, List.set_cons_succ, i64_w, i32_w]
      rfl
    refine pure_ (i := 6) (N := some 17) (v := ?_) (a' := ?_) #[true, true, true, false, true, true, true, false, true, true, false, false] rfl rfl (by kernel_rfl) (fun _ _ _ h => h) (Or.inl ⟨by rfl, ?_⟩) ?_ ?_
    rotate_left
    · intro w'
      go_simp
      with_reducible rfl
    rotate_left
    · simp only [Act.put, List.setIfInBounds_toArray, List.set_cons_zero, List.set_cons_succ, i64_w, i32_w]
      rfl
    refine one_ (i := 3) (N := some 14) #[true, true, true, true, true, true, true, false, true, true, false, false] rfl rfl (by kernel_rfl) (by decide) (fun K hK => ?_)
    refine goes_ Try.func22 (by kernel_rfl) rfl #[.slice (some ad) m c] (by rfl) rfl rfl (by (try simp only [List.map_toArray, List.map_cons, List.map_nil]); rfl) ?_
    refine (sclone_calls (some ad) m c (n.way 0) W2 (Kd.R_below R1.out HW.out) (by have := HP.out; rw [← HM.out]; omega) (by have := HML.out; rw [← HM.out]; exact this)).mono ?_
    rintro e w3 ⟨v3, rfl, ho3, hn3, hb3⟩
    obtain ⟨q3, c3, rfl, _, _, _⟩ := Kd.R_form ho3 (by have := HP.out; rw [← HM.out]; omega)
    rw [← HM.out] at ho3 hn3 ⊢
    have t1 := Lib.hid (HW.out.trans (hb3.mono HW.out.size))
    have HN3 : Hid (w1.heap.size ≤ q3) := Nat.le_trans HW.out.size (hn3 q3 (by simp [Value.ownBlock]))
    have HO3 := Lib.hid ho3
    clear HW ho3 hn3 hb3
    have HW := t1
    clear t1
    refine ⟨_, rfl, ?_⟩
    clear hHeld
    refine hK.out _ _ ⟨pw_cell_below (HW.out) z1, pw_cell_below (HW.out) z2, pw_cell_below (HW.out) z3⟩ (fun hHeld => ?_)
    clear hK K
    try (refine norm_ (a' := ?_) ?_ ?_; rotate_left; focus (simp only [Act.put, List.setIfInBounds_toArray, List.set_cons_zero, List.set_cons_succ, i64_w, i32_w]; rfl))
    refine one_ (i := 7) (N := some 18) #[true, true, true, true, true, true, true, true, true, true, false, false] rfl rfl (by kernel_rfl) (by decide) (fun K hK => ?_)
    refine goes_ Try.func24 (by kernel_rfl) rfl #[.slice (some ⟨q3, 0, none⟩) m c3, .int .i64 (j : Int), .int .i64 (k1 : Int)] (by rfl) rfl rfl (by (try simp only [List.map_toArray, List.map_cons, List.map_nil]); rfl) ?_
    refine (sdelete_calls q3 p m c3 j k1 (n.way 0) w3 HO3.out HP.out HJP.out HK1.out (by have := HML.out; have := HP.out; omega)).mono ?_
    rintro e w8 ⟨rfl, ho8, hf8⟩
    have t1 := Lib.hid (below_fr HW.out hf8 HW.out.size (fun k hk => by subst hk; exact HN3.out))
    have HO8 := Lib.hid ho8
    clear HW HO3 ho8 hf8
    have HW := t1
    clear t1
    have c9 := pw_cell_below HW.out c2
    have fz := H1.out.frozen (by decide) (i := 0) (by decide) c2 (Fr.of_below HW.out _) 2
    refine ⟨_, rfl, ?_⟩
    clear hHeld
    refine hK.out _ _ ⟨pw_cell_below (HW.out) z1, pw_cell_below (HW.out) z2, pw_cell_below (HW.out) z3⟩ (fun hHeld => ?_)
    clear hK K
    try (refine norm_ (a' := ?_) ?_ ?_; rotate_left; focus (simp only [Act.put, List.setIfInBounds_toArray, List.set_cons_zero, List.set_cons_succ, i64_w, i32_w]; rfl))
    refine pure_ (i := 10) (N := some 21) (v := ?_) (a' := ?_) #[true, true, true, true, true, true, true, true, true, true, true, false] rfl rfl (by kernel_rfl) (fun _ _ _ h => h) (Or.inl ⟨by rfl, ?_⟩) ?_ ?_
    rotate_left
    · intro w'
      go_simp
      with_reducible rfl
    rotate_left
    · simp only [Act.put, List.setIfInBounds_toArray, List.set_cons_zero, List.set_cons_succ, i64_w, i32_w]
      rfl
    refine last_ (i := 11) (N := none) #[true, true, true, true, true, true, true, true, true, true, true, true] rfl rfl (by kernel_rfl) (by decide) (fun K hK => ?_)
    go_simp
    clear hHeld
    refine hK.out _ _ ?_
    clear hK K
    try (refine norm_ (a' := ?_) ?_ ?_; rotate_left; focus (simp only [Act.put, List.setIfInBounds_toArray, List.set_cons_zero, List.set_cons_succ, i64_w, i32_w]; rfl))
    refine done_ (by kernel_rfl) ?_
    go_wp2_with fail
    go_ret
    have hq3 : ∀ k, (Value.slice (some ⟨q3, 0, none⟩) p c3).ownBlock = some k → w1.heap.size ≤ k := fun k hk => by
      have e3 : q3 = k := by simpa [Value.ownBlock] using hk
      have := HN3.out
      omega
    obtain ⟨O', hN, hE⟩ := H1.out.stored (by decide) (by decide) (by decide) (i := 0) (by decide) c2 (Fr.of_below HW.out _) HO8.out (fun k hk => .inr (hq3 k hk))
    refine ⟨0, rfl, rfl, O', .slice Ab nb cb, by rw [E1.out]; exact hN, (blk_cell (hE.1.blk O1.out (fun hk => HBO.out _ hk rfl)) 0).trans rfl, ?_, (F1.out.mono (fun k hk => .inr hk)).then_ hE.1 (fun k hk => .inl (.inl hk)), fun k hk => ?_⟩
    · rw [E2.out]
      exact R_fr RB1.out hE.1 (fun k hk hlt q hq cs hc => by
        rcases List.mem_cons.1 hq with rfl | hq
        · exact H1.out.clean (by decide) (by decide) k hk cs hc
        · cases hq)
    · rcases hE.2 k hk with hk | hk
      · exact .inl hk
      · exact .inr (Nat.le_trans F1.out.size hk)
  · skip
    have c2 : w1.cell? ⟨g, 3, none⟩ = some (.slice (some ad) m c) := cv
    clear cv
    go_enter Try.func23, Try.ntmps23
    go_wp2_with fail
    try rw [hws]
    clear hws fo yo y2 y4
    refine start_ (n := 12) (S := fun w' => w'.cell? ⟨bn, 0, none⟩ = some (.pointer (some ⟨g, 0, none⟩)) ∧ w'.cell? ⟨ba, 0, none⟩ = some (.int .i64 (j : Int)) ∧ w'.cell? ⟨bi, 0, none⟩ = some (.int .i64 1)) (ds := [11]) #[false, false, false, false, false, false, false, false, false, false, false, false] (by kernel_rfl) rfl rfl ⟨z1, z2, z3⟩ (fun hHeld => ?_)
    obtain ⟨W2, hW2⟩ : ∃ W2, w1.drew = W2 := ⟨_, rfl⟩
    have hbw : Below w1.heap.size w1 W2 := by rw [← hW2]; exact below_drew (Below.refl _ _)
    rw [hW2] at hHeld ⊢
    clear hW2
    have HW := Lib.hid hbw
    clear hbw
    refine pure_ (i := 2) (N := some 13) (v := ?_) (a' := ?_) #[false, false, true, false, false, false, false, false, false, false, false, false] rfl rfl (by kernel_rfl) (fun _ _ _ h => h) (Or.inl ⟨by rfl, ?_⟩) ?_ ?_
    rotate_left
    · intro w'
      go_simp
      with_reducible rfl
    rotate_left
    · simp only [Act.put, List.setIfInBounds_toArray, List.set_cons_zero, List.set_cons_succ, i64_w, i32_w]
      rfl
    refine take_ (i := 0) (N := some 11) (v := ?_) (a' := ?_) #[true, false, true, false, false, false, false, false, false, false, false, false] rfl rfl (by kernel_rfl) (fun _ _ _ h => h) (Or.inl ⟨by rfl, ?_⟩) hHeld ?_ ?_
    rotate_left
    · rintro w' ⟨s0, s1, s2⟩
      go_simp
      with_reducible rfl
    rotate_left
    · simp only [Act.put, List.setIfInBounds_toArray, List.set_cons_zero, List.set_cons_succ, i64_w, i32_w]
      rfl
    refine pure_ (i := 8) (N := some 19) (v := ?_) (a' := ?_) #[true, false, true, false, false, false, false, false, true, false, false, false] rfl rfl (by kernel_rfl) (fun _ _ _ h => h) (Or.inl ⟨by rfl, ?_⟩) ?_ ?_
    rotate_left
    · intro w'
      go_simp
      with_reducible rfl
    rotate_left
    · simp only [Act.put, List.setIfInBounds_toArray, List.set_cons_zero, List.set_cons_succ, i64_w, i32_w]
      rfl
    refine pure_ (i := 9) (N := some 20) (v := ?_) (a' := ?_) #[true, false, true, false, false, false, false, false, true, true, false, false] rfl rfl (by kernel_rfl) (fun _ _ _ h => h) (Or.inl ⟨by rfl, ?_⟩) ?_ ?_
    rotate_left
    · intro w'
      go_simp
      with_reducible rfl
    rotate_left
    · simp only [Act.put, List.setIfInBounds_toArray, List.set_cons_zero, List.set_cons_succ, i64_w, i32_w]
      rfl
    refine take_ (i := 1) (N := some 12) (v := ?_) (a' := ?_) #[true, true, true, false, false, false, false, false, true, true, false, false] rfl rfl (by kernel_rfl) (fun _ _ _ h => h) (Or.inl ⟨by rfl, ?_⟩) hHeld ?_ ?_
    rotate_left
    · rintro w' ⟨s0, s1, s2⟩
      go_simp
      with_reducible rfl
    rotate_left
    · simp only [Act.put, List.setIfInBounds_toArray, List.set_cons_zero, List.set_cons_succ, i64_w, i32_w]
      rfl
    refine take_ (i := 4) (N := some 15) (v := ?_) (a' := ?_) #[true, true, true, false, true, false, false, false, true, true, false, false] rfl rfl (by kernel_rfl) (fun _ _ _ h => h) (Or.inl ⟨by rfl, ?_⟩) hHeld ?_ ?_
    rotate_left
    · rintro w' ⟨s0, s1, s2⟩
      go_simp
      with_reducible rfl
    rotate_left
    · simp only [Act.put, List.setIfInBounds_toArray, List.set_cons_zero, List.set_cons_succ, i64_w, i32_w]
      rfl
    refine take_ (i := 5) (N := some 16) (v := ?_) (a' := ?_) #[true, true, true, false, true, true, false, false, true, true, false, false] rfl rfl (by kernel_rfl) (fun _ _ _ h => h) (Or.inl ⟨by rfl, ?_⟩) hHeld ?_ ?_
    rotate_left
    · rintro w' ⟨s0, s1, s2⟩
      go_simp
      with_reducible rfl
    rotate_left
    · simp only [Act.put, List.setIfInBounds_toArray, List.set_cons_zero, List.set_cons_succ, i64_w, i32_w]
      rfl
    refine pure_ (i := 6) (N := some 17) (v := ?_) (a' := ?_) #[true, true, true, false, true, true, true, false, true, true, false, false] rfl rfl (by kernel_rfl) (fun _ _ _ h => h) (Or.inl ⟨by rfl, ?_⟩) ?_ ?_
    rotate_left
    · intro w'
      go_simp
      with_reducible rfl
    rotate_left
    · simp only [Act.put, List.setIfInBounds_toArray, List.set_cons_zero, List.set_cons_succ, i64_w, i32_w]
      rfl
    refine one_ (i := 3) (N := some 14) #[true, true, true, true, true, true, true, false, true, true, false, false] rfl rfl (by kernel_rfl) (by decide) (fun K hK => ?_)
    refine goes_ Try.func22 (by kernel_rfl) rfl #[.slice (some ad) m c] (by rfl) rfl rfl (by (try simp only [List.map_toArray, List.map_cons, List.map_nil]); rfl) ?_
    refine (sclone_calls (some ad) m c (n.way 1) W2 (Kd.R_below R1.out HW.out) (by have := HP.out; rw [← HM.out]; omega) (by have := HML.out; rw [← HM.out]; exact this)).mono ?_
    rintro e w3 ⟨v3, rfl, ho3, hn3, hb3⟩
    obtain ⟨q3, c3, rfl, _, _, _⟩ := Kd.R_form ho3 (by have := HP.out; rw [← HM.out]; omega)
    rw [← HM.out] at ho3 hn3 ⊢
    have t1 := Lib.hid (HW.out.trans (hb3.mono HW.out.size))
    have HN3 : Hid (w1.heap.size ≤ q3) := Nat.le_trans HW.out.size (hn3 q3 (by simp [Value.ownBlock]))
    have HO3 := Lib.hid ho3
    clear HW ho3 hn3 hb3
    have HW := t1
    clear t1
    refine ⟨_, rfl, ?_⟩
    clear hHeld
    refine hK.out _ _ ⟨pw_cell_below (HW.out) z1, pw_cell_below (HW.out) z2, pw_cell_below (HW.out) z3⟩ (fun hHeld => ?_)
    clear hK K
    try (refine norm_ (a' := ?_) ?_ ?_; rotate_left; focus (simp only [Act.put, List.setIfInBounds_toArray, List.set_cons_zero, List.set_cons_succ, i64_w, i32_w]; rfl))
    refine one_ (i := 7) (N := some 18) #[true, true, true, true, true, true, true, true, true, true, false, false] rfl rfl (by kernel_rfl) (by decide) (fun K hK => ?_)
    refine goes_ Try.func24 (by kernel_rfl) rfl #[.slice (some ⟨q3, 0, none⟩) m c3, .int .i64 (j : Int), .int .i64 (k1 : Int)] (by rfl) rfl rfl (by (try simp only [List.map_toArray, List.map_cons, List.map_nil]); rfl) ?_
    refine (sdelete_calls q3 p m c3 j k1 (n.way 1) w3 HO3.out HP.out HJP.out HK1.out (by have := HML.out; have := HP.out; omega)).mono ?_
    rintro e w8 ⟨rfl, ho8, hf8⟩
    have t1 := Lib.hid (below_fr HW.out hf8 HW.out.size (fun k hk => by subst hk; exact HN3.out))
    have HO8 := Lib.hid ho8
    clear HW HO3 ho8 hf8
    have HW := t1
    clear t1
    have c9 := pw_cell_below HW.out c2
    have fz := H1.out.frozen (by decide) (i := 1) (by decide) c2 (Fr.of_below HW.out _) 3
    refine ⟨_, rfl, ?_⟩
    clear hHeld
    refine hK.out _ _ ⟨pw_cell_below (HW.out) z1, pw_cell_below (HW.out) z2, pw_cell_below (HW.out) z3⟩ (fun hHeld => ?_)
    clear hK K
    try (refine norm_ (a' := ?_) ?_ ?_; rotate_left; focus (simp only [Act.put, List.setIfInBounds_toArray, List.set_cons_zero, List.set_cons_succ, i64_w, i32_w]; rfl))
    refine pure_ (i := 10) (N := some 21) (v := ?_) (a' := ?_) #[true, true, true, true, true, true, true, true, true, true, true, false] rfl rfl (by kernel_rfl) (fun _ _ _ h => h) (Or.inl ⟨by rfl, ?_⟩) ?_ ?_
    rotate_left
    · intro w'
      go_simp
      with_reducible rfl
    rotate_left
    · simp only [Act.put, List.setIfInBounds_toArray, List.set_cons_zero, List.set_cons_succ, i64_w, i32_w]
      rfl
    refine last_ (i := 11) (N := none) #[true, true, true, true, true, true, true, true, true, true, true, true] rfl rfl (by kernel_rfl) (by decide) (fun K hK => ?_)
    go_simp
    clear hHeld
    refine hK.out _ _ ?_
    clear hK K
    try (refine norm_ (a' := ?_) ?_ ?_; rotate_left; focus (simp only [Act.put, List.setIfInBounds_toArray, List.set_cons_zero, List.set_cons_succ, i64_w, i32_w]; rfl))
    refine done_ (by kernel_rfl) ?_
    go_wp2_with fail
    go_ret
    have hq3 : ∀ k, (Value.slice (some ⟨q3, 0, none⟩) p c3).ownBlock = some k → w1.heap.size ≤ k := fun k hk => by
      have e3 : q3 = k := by simpa [Value.ownBlock] using hk
      have := HN3.out
      omega
    obtain ⟨O', hN, hE⟩ := H1.out.stored (by decide) (by decide) (by decide) (i := 1) (by decide) c2 (Fr.of_below HW.out _) HO8.out (fun k hk => .inr (hq3 k hk))
    refine ⟨0, rfl, rfl, O', .slice Ab nb cb, by rw [E1.out]; exact hN, (blk_cell (hE.1.blk O1.out (fun hk => HBO.out _ hk rfl)) 0).trans rfl, ?_, (F1.out.mono (fun k hk => .inr hk)).then_ hE.1 (fun k hk => .inl (.inl hk)), fun k hk => ?_⟩
    · rw [E2.out]
      exact R_fr RB1.out hE.1 (fun k hk hlt q hq cs hc => by
        rcases List.mem_cons.1 hq with rfl | hq
        · exact H1.out.clean (by decide) (by decide) k hk cs hc
        · cases hq)
    · rcases hE.2 k hk with hk | hk
      · exact .inl hk
      · exact .inr (Nat.le_trans F1.out.size hk)
theorem at_take (g : Nat) (O : Nat → Prop) (n : NtS) (i j : Int) (bn ba bi bo : Nat) (w : World) (h : NN w g O n) (hok : n.ok)
    (xn : Boxed w bn 23 (.pointer (some ⟨g, 0, none⟩))) (xa : Boxed w ba 3 (.int .i64 j)) (xi : Boxed w bi 3 (.int .i64 i)) (xo : Boxed w bo 28 (.slice none 0 0)) (hbo : ∀ k, O k → k ≠ bo) (n1 : bn ≠ bo) (n2 : ba ≠ bo) (n3 : bi ≠ bo) :
    Calls Try.prog 20 #[.pointer (some ⟨g, 0, none⟩), .int .i64 i, .int .i64 j, .func (.func 23) #[] #[.pointer (some ⟨ba, 0, none⟩), .pointer (some ⟨bo, 0, none⟩), .pointer (some ⟨bn, 0, none⟩), .pointer (some ⟨bi, 0, none⟩)]] w fun e w' => e = .returned (.int .i64 (n.place i j)) ∧ ∃ O' vo, NN w' g O' (n.take i j) ∧ w'.cell? ⟨bo, 0, none⟩ = some vo ∧ (Kd.int .u8).R 5 w' 0 (fun _ => True) vo (n.taken i j) ∧ Fr w w' (fun k => O k ∨ k = bo) ∧ ∀ k, O' k → O k ∨ w.heap.size ≤ k := by
  by_cases h0 : n.place i j = 0
  · obtain ⟨hi, hj, hj2⟩ := place_in h0
    obtain ⟨v, hv, hr, _, _⟩ := h.ways hi
    obtain ⟨A, c, rfl⟩ := Kd.R_slice hr
    obtain ⟨k, rfl⟩ : ∃ k : Nat, j = k := ⟨j.toNat, by omega⟩
    refine (at_does g O n i k _ _ A c w h h0 hv enters_take (fun r w' => r = 0 ∧ ∃ O' vo, NN w' g O' (n.take i k) ∧ w'.cell? ⟨bo, 0, none⟩ = some vo ∧ (Kd.int .u8).R 5 w' 0 (fun _ => True) vo (n.taken i k) ∧ Fr w w' (fun k => O k ∨ k = bo) ∧ ∀ k, O' k → O k ∨ w.heap.size ≤ k) (by simp) (take1_calls g O n i k bn ba bi bo A c w h hok h0 hv xn xa xi xo hbo n1 n2 n3)).mono ?_
    rintro e w' ⟨r, rfl, rfl, h1⟩
    rw [h0]
    exact ⟨rfl, h1⟩
  · have E1 : n.take i j = n := by unfold NtS.take; rw [if_neg h0]
    have E2 : n.taken i j = [] := by unfold NtS.taken; rw [if_neg h0]
    refine (at_no g O n i j _ _ w h h0).mono ?_
    rintro e w' ⟨rfl, rfl⟩
    rw [E1, E2]
    exact ⟨rfl, O, _, h, xo.cell, Kd.R_nil _ _ _ _ _, Fr.refl _ _, fun k hk => .inl hk⟩
set_option maxHeartbeats 2000000 in
set_option maxRecDepth 100000 in
theorem net_Take (g : Nat) (O : Nat → Prop) (n : NtS) (i j : Int) (w : World) (h : NN w g O n) (hok : n.ok) :
    Calls Try.prog 12 #[.pointer (some ⟨g, 0, none⟩), .int .i64 i, .int .i64 j] w fun e w' => ∃ O' vo, e = .returned (.tuple #[vo, .int .i64 (n.place i j)]) ∧ (Kd.int .u8).R 5 w' 0 (fun _ => True) vo (n.taken i j) ∧ NN w' g O' (n.take i j) ∧ Ext w w' O O' := by
  obtain ⟨W0, hW0⟩ : ∃ W0, (((w.alloc (.cells #[.pointer (some ⟨g, 0, none⟩)] 23)).alloc (.cells #[.int .i64 i] 3)).alloc (.cells #[.int .i64 j] 3)).alloc (.cells #[.slice none 0 0] 28) = W0 := ⟨_, rfl⟩
  have b1 : Boxed W0 w.heap.size 23 (.pointer (some ⟨g, 0, none⟩)) := by rw [← hW0]; exact (((Boxed.new _ _ _).alloc _).alloc _).alloc _
  have b2 : Boxed W0 (w.heap.size + 1) 3 (.int .i64 i) := by rw [← hW0]; have := ((Boxed.new (w.alloc (.cells #[.pointer (some ⟨g, 0, none⟩)] 23)) 3 (.int .i64 i)).alloc (.cells #[.int .i64 j] 3)).alloc (.cells #[.slice none 0 0] 28); rwa [World.size_alloc] at this
  have b3 : Boxed W0 (w.heap.size + 1 + 1) 3 (.int .i64 j) := by rw [← hW0]; have := (Boxed.new ((w.alloc (.cells #[.pointer (some ⟨g, 0, none⟩)] 23)).alloc (.cells #[.int .i64 i] 3)) 3 (.int .i64 j)).alloc (.cells #[.slice none 0 0] 28); rwa [World.size_alloc, World.size_alloc] at this
  have b4 : Boxed W0 (w.heap.size + 1 + 1 + 1) 28 (.slice none 0 0) := by rw [← hW0]; have := Boxed.new (((w.alloc (.cells #[.pointer (some ⟨g, 0, none⟩)] 23)).alloc (.cells #[.int .i64 i] 3)).alloc (.cells #[.int .i64 j] 3)) 28 (.slice none 0 0); rwa [World.size_alloc, World.size_alloc, World.size_alloc] at this
  have hbel : Below w.heap.size w W0 := by rw [← hW0]; exact below_alloc (below_alloc (below_alloc (below_alloc (Below.refl _ _) _) _) _) _
  have X1 := b1.cell
  have X2 := b2.cell
  have X3 := b3.cell
  have X4 := b4.cell
  have hlt := h.lt
  have HN := Lib.hid (h.below hbel)
  have HB1 := Lib.hid b1
  have HB2 := Lib.hid b2
  have HB3 := Lib.hid b3
  have HB4 := Lib.hid b4
  have HBEL := Lib.hid hbel
  have HOK := Lib.hid hok
  have HLT := Lib.hid hlt
  clear b1 b2 b3 b4 hbel h hok hlt
  go_enter Try.func12, Try.ntmps12
  go_upto_region 2 with fail
  try rw [hW0]
  clear hW0
  go_wp2_with (first | (go_at_call 20; refine (at_take g O n i j _ _ _ _ _ HN.out HOK.out HB1.out HB3.out HB2.out HB4.out (fun k hk e => by have := HLT.out k hk; omega) (by omega) (by omega) (by omega)).mono ?_; rintro e w' ⟨rfl, O', vo, h1, hc, hr, hf, hO⟩; obtain ⟨Ao, co, mo, rfl, HMO⟩ := R_slice_n hr; have H1 := Lib.hid h1; have HR := Lib.hid hr; have HF := Lib.hid hf; have HO := Lib.hid hO; clear h1 hr hf hO) | fail)
  go_ret2
  exact ⟨O', .slice Ao mo co, rfl, HR.out, H1.out, (Fr.of_below HBEL.out O).then_ HF.out (fun k hk => by rcases hk with hk | hk <;> first | exact .inl hk | (right; omega)), fun k hk => by
    rcases HO.out k hk with hk | hk
    · exact .inl hk
    · have := HBEL.out.size; right; omega⟩
set_option maxHeartbeats 1000000 in
theorem net_Lose (g : Nat) (O : Nat → Prop) (n : NtS) (i j : Int) (w : World) (h : NN w g O n) (hok : n.ok) :
    Calls Try.prog 17 #[.pointer (some ⟨g, 0, none⟩), .int .i64 i, .int .i64 j] w fun e w' => ∃ O', e = .returned (.int .i64 (n.place i j)) ∧ NN w' g O' (n.take i j) ∧ Ext w w' O O' := by
  have H := Lib.hid h
  have HOK := Lib.hid hok
  clear h hok
  go_enter Try.func17, Try.ntmps17
  go_wp2_with (first | (go_at_call 12; refine (net_Take g O n i j _ H.out HOK.out).mono ?_; rintro e w' ⟨O', vo, rfl, _, h1, h2⟩; have H1 := Lib.hid h1; have H2 := Lib.hid h2; clear h1 h2) | fail)
  go_ret
  exact ⟨O', rfl, H1.out, H2.out⟩
end Go.Proofs.Ytokcplapbjhnoaa
