/-
  A net's 'at', and Copy, Take, Lose over it. Condition: a net that may be.
-/
import Derived.RangeFuncBox
import Derived.Test.YtokcplapbjhnoaaHNt3
namespace Go.Proofs.Ytokcplapbjhnoaa
open Go.RowKit Go.Proofs.YtokcplapbjhnoaaW.PrintWords Go.Proofs.YtokcplapbjhnoaaW.PrintLast Go.Proofs.YtokcplapbjhnoaaW.PrintMore
attribute [local go_sem] max2_int min2_int max_two min_two max_three min_three max_four min_four
set_option linter.unusedVariables false
set_option linter.unusedSimpArgs false

theorem box_fr {W W' : World} {B : Nat} {t : TypeId} {v : Value} {S : Nat → Prop} (h : Boxed W B t v) (hf : Fr W W' S) (hn : ¬ S B) : Boxed W' B t v := hf.blk h hn
theorem box_below {W W' : World} {B : Nat} {t : TypeId} {v : Value} (h : Boxed W B t v) (hb : Below W.heap.size W W') : Boxed W' B t v := (hb.block B h.lt).trans h
/-- A call of a function value that stands in a slot, one argument. -/
theorem goesv1 {P : Program} {ops : Array Oper} {Q : Exit → Act → World → Prop} {rest : List Oper} {oi : Oper} {a : Act} {w : World} (N : Option Tmp) (hd : oi.dst = N) (hg : oi.guard = none) {gf : Nat} {lb : Array Value} (c x : Operand) (ts : Array TypeId)
    (hop : oi.op = .call { callee := .value c, args := #[x], argTypes := ts }) (hc : a.eval c = .func (.func gf) #[] lb) {v : Value} (hx : a.eval x = v) (eg : ∀ args w, (callFunc gf args).run P w = .ok (.enter gf args) w)
    (h : Calls P gf (#[v] ++ lb) w fun e w' => ∃ u, e = .returned u ∧ wpList P ops Q rest (a.put N u) w') : wpList P ops Q (oi :: rest) a w := by
  refine wpList_plain hg fun K hK => ?_
  unfold Oper.wp
  have he := eg (#[v] ++ lb) w
  have hrun : (execOp a.eval oi).run P w = .ok (.enter gf (#[v] ++ lb)) w := by
    unfold execOp
    simp [hop, resolve, Deferred.ofValue, invoke, hc, hx, he]
  rw [hrun, Oper.upon_enter]
  refine h.mono fun e w'' hh => ?_
  obtain ⟨u, rfl, hk⟩ := hh
  subst hd
  exact hK _ _ hk
/-- An element of a row of rows. -/
theorem BR.elem {U V : TypeId} {w : World} {A : Option Addr} {m c : Nat} {xs : List (List Int)} (h : BR U V w (.slice A m c) xs) (j : Nat) (hj : j < xs.length) :
    ∃ ad Ai ni ci, A = some ad ∧ w.cell? (ad.add j) = some (.slice Ai ni ci) ∧ Hid (ni = xs[j].length) ∧ (Kd.int .u8).R U w 0 (fun k => k < w.heap.size) (.slice Ai ni ci) xs[j] := by
  obtain ⟨_, _, hr⟩ := BR.readsM h
  obtain ⟨ad, e, hh⟩ := hr.2.2 (by omega)
  obtain ⟨cs, _, ⟨v, rfl, hv⟩, hc⟩ := hh j xs[j] (List.getElem?_eq_getElem hj)
  obtain ⟨Ai, ci, ni, rfl, hn⟩ := R_slice_n hv
  exact ⟨ad, Ai, ni, ci, e, by have := hc 0 _ rfl; rwa [Nat.mul_one, Nat.add_zero] at this, hn, hv⟩

theorem at_no (g : Nat) (O : Nat → Prop) (n : NtS) (i j : Int) (gf : Nat) (lb : Array Value) (w : World) (h : NN w g O n) (h0 : n.place i j ≠ 0) :
    Calls Try.prog 20 #[.pointer (some ⟨g, 0, none⟩), .int .i64 i, .int .i64 j, .func (.func gf) #[] lb] w fun e w' => e = .returned (.int .i64 (n.place i j)) ∧ w' = w := by
  by_cases hi : NtS.one i
  · have q : decide (NtS.one i) = true := decide_eq_true hi
    obtain ⟨v, hv, hr, _⟩ := h.ways hi
    obtain ⟨A, c, rfl⟩ := Kd.R_slice hr
    have e : n.place i j = if j < 0 ∨ (n.way i).length ≤ j then 4 else 0 := if_neg (fun h => h hi)
    by_cases hc : j < 0 ∨ (n.way i).length ≤ j
    · rw [if_pos hc] at e
      have E := Lib.hid e
      clear e hr h h0
      by_cases hneg : j < 0
      · clear hc
        rcases hi with rfl | rfl
        all_goals
          first | have c1 : w.cell? ⟨g, 2, none⟩ = some (.slice A (n.way 0).length c) := hv | have c1 : w.cell? ⟨g, 3, none⟩ = some (.slice A (n.way 1).length c) := hv
          clear hv
          go_enter Try.func20, Try.ntmps20
          go_wp2_with (first | (go_at_call 18; refine (one_calls _ _).mono ?_; rintro e w' ⟨rfl, hw⟩; obtain rfl := hw.symm) | fail)
          go_ret
          rw [E.out]
          exact ⟨rfl, rfl⟩
      · have hge : (n.way i).length ≤ j := by omega
        clear hc
        rcases hi with rfl | rfl
        all_goals
          first | have c1 : w.cell? ⟨g, 2, none⟩ = some (.slice A (n.way 0).length c) := hv | have c1 : w.cell? ⟨g, 3, none⟩ = some (.slice A (n.way 1).length c) := hv
          clear hv
          go_enter Try.func20, Try.ntmps20
          go_wp2_with (first | (go_at_call 18; refine (one_calls _ _).mono ?_; rintro e w' ⟨rfl, hw⟩; obtain rfl := hw.symm) | fail)
          go_ret
          rw [E.out]
          exact ⟨rfl, rfl⟩
    · rw [if_neg hc] at e
      exact absurd e h0
  · have q : decide (NtS.one i) = false := decide_eq_false hi
    have E : Hid (n.place i j = 1) := if_pos hi
    clear h h0 hi
    go_enter Try.func20, Try.ntmps20
    go_wp2_with (first | (go_at_call 18; refine (one_calls _ _).mono ?_; rintro e w' ⟨rfl, hw⟩; obtain rfl := hw.symm) | fail)
    go_ret
    rw [E.out]
    exact ⟨rfl, rfl⟩
theorem place_in {n : NtS} {i j : Int} (h : n.place i j = 0) : NtS.one i ∧ 0 ≤ j ∧ j < (n.way i).length := by
  unfold NtS.place at h
  split at h
  · cases h
  · rename_i h1
    split at h
    · cases h
    · exact ⟨Decidable.not_not.1 h1, by omega, by omega⟩
set_option maxHeartbeats 4000000 in
set_option maxRecDepth 100000 in
theorem at_does (g : Nat) (O : Nat → Prop) (n : NtS) (i j : Int) (gf : Nat) (lb : Array Value) (A : Option Addr) (c : Nat) (w : World) (h : NN w g O n) (h0 : n.place i j = 0) (hv : w.cell? ⟨g, 2 + i.toNat, none⟩ = some (.slice A (n.way i).length c)) (eg : ∀ args w, (callFunc gf args).run Try.prog w = .ok (.enter gf args) w) (R : Int → World → Prop)
    {args : Array Value} (hargs : #[.slice A (n.way i).length c] ++ lb = args) (hcl : Calls Try.prog gf args w fun e W' => ∃ r, e = .returned (.int .i64 r) ∧ R r W') :
    Calls Try.prog 20 #[.pointer (some ⟨g, 0, none⟩), .int .i64 i, .int .i64 j, .func (.func gf) #[] lb] w fun e w' => ∃ r, e = .returned (.int .i64 r) ∧ R r w' := by
  subst hargs
  obtain ⟨hi, hj, hj2⟩ := place_in h0
  have q : decide (NtS.one i) = true := decide_eq_true hi
  have HE := Lib.hid eg
  have HCL := Lib.hid hcl
  clear h h0 eg hcl
  rcases hi with rfl | rfl
  all_goals
    first | have c1 : w.cell? ⟨g, 2, none⟩ = some (.slice A (n.way 0).length c) := hv | have c1 : w.cell? ⟨g, 3, none⟩ = some (.slice A (n.way 1).length c) := hv
    clear hv
    go_enter Try.func20, Try.ntmps20
    go_wp2_with (first
      | (go_at_call 18; refine (one_calls _ _).mono ?_; rintro e w' ⟨rfl, hw⟩; obtain rfl := hw.symm)
      | (with_reducible refine goesv1 (oi := ⟨some 34, _, _, _, _, _⟩) (some 34) rfl rfl (.tmp 27) (.tmp 33) #[46] rfl rfl rfl HE.out ?_)
      | fail)
    refine HCL.out.mono ?_
    rintro e W' ⟨r, rfl, hR⟩
    refine ⟨_, rfl, ?_⟩
    go_wp2
    go_ret
    exact ⟨r, rfl, hR⟩

theorem enters_copy : ∀ args w, (callFunc 21 args).run Try.prog w = .ok (.enter 21 args) w := fun args w => enters_ Try.func21 (by kernel_rfl) rfl args w
theorem enters_take : ∀ args w, (callFunc 23 args).run Try.prog w = .ok (.enter 23 args) w := fun args w => enters_ Try.func23 (by kernel_rfl) rfl args w

set_option maxHeartbeats 4000000 in
set_option maxRecDepth 100000 in
theorem copy1_calls (g : Nat) (O : Nat → Prop) (n : NtS) (i : Int) (j : Nat) (bn ba bi : Nat) (A : Option Addr) (c : Nat) (w : World) (h : NN w g O n) (hok : n.ok) (h0 : n.place i j = 0) (hv : w.cell? ⟨g, 2 + i.toNat, none⟩ = some (.slice A (n.way i).length c))
    (xn : Boxed w bn 23 (.pointer (some ⟨g, 0, none⟩))) (xa : Boxed w ba 3 (.int .i64 (j : Int))) (xi : Boxed w bi 3 (.int .i64 i)) :
    Calls Try.prog 21 #[.slice A (n.way i).length c, .pointer (some ⟨bn, 0, none⟩), .pointer (some ⟨ba, 0, none⟩), .pointer (some ⟨bi, 0, none⟩)] w fun e w' => ∃ r, e = .returned (.int .i64 r) ∧ ∃ O', r = (n.copy i j).1 ∧ NN w' g O' (n.copy i j).2 ∧ Ext w w' O O' := by
  obtain ⟨hi, _, hj⟩ := place_in h0
  have hj : j < (n.way i).length := by omega
  obtain ⟨v, hv2, hr, _, _⟩ := h.ways hi
  obtain rfl := Option.some.inj (hv2.symm.trans hv)
  have x0 : w.cell? ⟨g, 0, none⟩ = some (.int .i64 n.room) := h.cells.1
  have y1 := xn.cell
  have y2 := xa.cell
  have y3 := xi.cell
  obtain ⟨hw1, hw2⟩ := NtS.ok_way hok i
  have hroom := hok.2.1
  obtain ⟨ad, Ab, nb, cb, rfl, y4, HNB, hrb⟩ := BR.elem hr j hj
  obtain ⟨x, hx⟩ : ∃ x, x = (n.way i)[j] := ⟨_, rfl⟩
  rw [← hx] at hrb HNB
  have HX : Hid (x.length ≤ 1000) := by show x.length ≤ 1000; rw [hx]; exact hw2 _ (List.getElem_mem hj)
  have HXD : Hid ((n.way i).getD j [] = x) := by show _ = x; rw [hx, List.getD_eq_getElem?_getD, List.getElem?_eq_getElem hj]; rfl
  obtain ⟨m, hm⟩ : ∃ m, m = (n.way i).length := ⟨_, rfl⟩
  rw [← hm] at hv hr hj hw1 ⊢
  obtain ⟨hnb, hcb, hC⟩ := Kd.R_reads' hrb
  rw [← hnb] at hC
  have HC := Lib.hid hC
  have HCB := Lib.hid hcb
  have HR := Lib.hid hr
  have H := Lib.hid h
  have HM := Lib.hid hm
  have p1 : (0 ≤ (j : Int)) = True := eq_true (by omega)
  have p2 : ((j : Int) < (m : Int)) = True := eq_true (by omega)
  have HPOS : Hid (0 < m) := by show 0 < m; omega
  have HML : Hid (m ≤ 1000) := by show m ≤ 1000; omega
  have P0 := Lib.hid h0
  clear h hr hok hv2 hw2 hx hnb hcb hC hrb xn xa xi hm h0
  by_cases hf : n.room ≤ (m : Int)
  · have E : Hid (n.copy i (j : Int) = (3, n)) := by show _ = _; unfold NtS.copy; rw [if_pos P0.out, if_pos (by rw [← HM.out]; exact hf)]
    clear hv hj
    go_enter Try.func21, Try.ntmps21
    go_wp2_with fail
    go_ret
    exact ⟨3, rfl, O, by rw [E.out], by rw [E.out]; exact H.out, Ext.refl _ _⟩
  · have E : Hid (n.copy i (j : Int) = (0, n.setWay i (n.way i ++ [x]))) := by show _ = _; unfold NtS.copy; rw [if_pos P0.out, if_neg (by rw [← HM.out]; exact hf), Int.toNat_natCast, HXD.out]
    clear hj
    rcases hi with rfl | rfl
    · skip
      have c2 : w.cell? ⟨g, 2, none⟩ = some (.slice (some ad) m c) := hv
      clear hv
      go_enter Try.func21, Try.ntmps21
      go_wp2_with fail
      refine start_ (n := 15) (S := fun w' => w'.cell? ⟨bn, 0, none⟩ = some (.pointer (some ⟨g, 0, none⟩)) ∧ w'.cell? ⟨ba, 0, none⟩ = some (.int .i64 (j : Int)) ∧ w'.cell? ⟨bi, 0, none⟩ = some (.int .i64 0) ∧ w'.cell? (ad.add j) = some (.slice Ab nb cb)) (ds := [14]) #[false, false, false, false, false, false, false, false, false, false, false, false, false, false, false] (by kernel_rfl) rfl rfl ⟨y1, y2, y3, y4⟩ (fun hHeld => ?_)
      obtain ⟨W2, hW2⟩ : ∃ W2, w.drew = W2 := ⟨_, rfl⟩
      have hbw : Below w.heap.size w W2 := by rw [← hW2]; exact below_drew (Below.refl _ _)
      rw [hW2] at hHeld ⊢
      clear hW2
      have HW := Lib.hid hbw
      clear hbw
      refine pure_ (i := 2) (N := some 15) (v := ?_) (a' := ?_) #[false, false, true, false, false, false, false, false, false, false, false, false, false, false, false] rfl rfl (by kernel_rfl) (fun _ _ _ h => h) (Or.inl ⟨by rfl, ?_⟩) ?_ ?_
      rotate_left
      · intro w'
        go_simp
        with_reducible rfl
      rotate_left
      · simp only [Act.put, List.setIfInBounds_toArray, List.set_cons_zero, List.set_cons_succ, i64_w, i32_w]
        rfl
      refine pure_ (i := 4) (N := some 17) (v := ?_) (a' := ?_) #[false, false, true, false, true, false, false, false, false, false, false, false, false, false, false] rfl rfl (by kernel_rfl) (fun _ _ _ h => h) (Or.inl ⟨by rfl, ?_⟩) ?_ ?_
      rotate_left
      · intro w'
        go_simp
        with_reducible rfl
      rotate_left
      · simp only [Act.put, List.setIfInBounds_toArray, List.set_cons_zero, List.set_cons_succ, i64_w, i32_w]
        rfl
      refine take_ (i := 0) (N := some 13) (v := ?_) (a' := ?_) #[true, false, true, false, true, false, false, false, false, false, false, false, false, false, false] rfl rfl (by kernel_rfl) (fun _ _ _ h => h) (Or.inl ⟨by rfl, ?_⟩) hHeld ?_ ?_
      rotate_left
      · rintro w' ⟨s0, s1, s2, s3⟩
        go_simp
        with_reducible rfl
      rotate_left
      · simp only [Act.put, List.setIfInBounds_toArray, List.set_cons_zero, List.set_cons_succ, i64_w, i32_w]
        rfl
      refine pure_ (i := 11) (N := some 24) (v := ?_) (a' := ?_) #[true, false, true, false, true, false, false, false, false, false, false, true, false, false, false] rfl rfl (by kernel_rfl) (fun _ _ _ h => h) (Or.inl ⟨by rfl, ?_⟩) ?_ ?_
      rotate_left
      · intro w'
        go_simp
        with_reducible rfl
      rotate_left
      · simp only [Act.put, List.setIfInBounds_toArray, List.set_cons_zero, List.set_cons_succ, i64_w, i32_w]
        rfl
      refine pure_ (i := 12) (N := some 25) (v := ?_) (a' := ?_) #[true, false, true, false, true, false, false, false, false, false, false, true, true, false, false] rfl rfl (by kernel_rfl) (fun _ _ _ h => h) (Or.inl ⟨by rfl, ?_⟩) ?_ ?_
      rotate_left
      · intro w'
        go_simp
        with_reducible rfl
      rotate_left
      · simp only [Act.put, List.setIfInBounds_toArray, List.set_cons_zero, List.set_cons_succ, i64_w, i32_w]
        rfl
      refine take_ (i := 1) (N := some 14) (v := ?_) (a' := ?_) #[true, true, true, false, true, false, false, false, false, false, false, true, true, false, false] rfl rfl (by kernel_rfl) (fun _ _ _ h => h) (Or.inl ⟨by rfl, ?_⟩) hHeld ?_ ?_
      rotate_left
      · rintro w' ⟨s0, s1, s2, s3⟩
        go_simp
        with_reducible rfl
      rotate_left
      · simp only [Act.put, List.setIfInBounds_toArray, List.set_cons_zero, List.set_cons_succ, i64_w, i32_w]
        rfl
      refine take_ (i := 5) (N := some 18) (v := ?_) (a' := ?_) #[true, true, true, false, true, true, false, false, false, false, false, true, true, false, false] rfl rfl (by kernel_rfl) (fun _ _ _ h => h) (Or.inl ⟨by rfl, ?_⟩) hHeld ?_ ?_
      rotate_left
      · rintro w' ⟨s0, s1, s2, s3⟩
        go_simp
        with_reducible rfl
      rotate_left
      · simp only [Act.put, List.setIfInBounds_toArray, List.set_cons_zero, List.set_cons_succ, i64_w, i32_w]
        rfl
      refine pure_ (i := 6) (N := some 19) (v := ?_) (a' := ?_) #[true, true, true, false, true, true, true, false, false, false, false, true, true, false, false] rfl rfl (by kernel_rfl) (fun _ _ _ h => h) (Or.inl ⟨by rfl, ?_⟩) ?_ ?_
      rotate_left
      · intro w'
        go_simp
        with_reducible rfl
      rotate_left
      · simp only [Act.put, List.setIfInBounds_toArray, List.set_cons_zero, List.set_cons_succ, i64_w, i32_w]
        rfl
      refine take_ (i := 7) (N := some 20) (v := .slice Ab nb cb) (a' := ?_) #[true, true, true, false, true, true, true, true, false, false, false, true, true, false, false] rfl rfl (by kernel_rfl) (fun _ _ _ h => h) (Or.inl ⟨by rfl, ?_⟩) hHeld ?_ ?_
      · rintro w' ⟨s0, s1, s2, s3⟩
        go_simp
        try (with_reducible rfl)
      rotate_left
      · simp only [Act.put, List.setIfInBounds_toArray, List.set_cons_zero, List.set_cons_succ, i64_w, i32_w]
        rfl
      refine one_ (i := 3) (N := some 16) #[true, true, true, true, true, true, true, true, false, false, false, true, true, false, false] rfl rfl (by kernel_rfl) (by decide) (fun K hK => ?_)
      refine goes_ Try.func22 (by kernel_rfl) rfl #[.slice (some ad) m c] (by rfl) rfl rfl (by (try simp only [List.map_toArray, List.map_cons, List.map_nil]); rfl) ?_
      refine (sclone_calls (some ad) m c (n.way 0) W2 (Kd.R_below HR.out HW.out) (by have := HPOS.out; rw [← HM.out]; exact this) (by have := HML.out; rw [← HM.out]; exact this)).mono ?_
      rintro e w3 ⟨v3, rfl, ho3, hn3, hb3⟩
      obtain ⟨A3, c3, m3, rfl, HM3⟩ := R_slice_n ho3
      have t1 := Lib.hid (HW.out.trans (hb3.mono HW.out.size))
      have HN3 : Hid (∀ k, (Value.slice A3 m3 c3).ownBlock = some k → w.heap.size ≤ k) := fun k hk => Nat.le_trans HW.out.size (hn3 k hk)
      have HO3 := Lib.hid ho3
      clear HW ho3 hn3 hb3
      have HW := t1
      clear t1
      refine ⟨_, rfl, ?_⟩
      clear hHeld
      refine hK.out _ _ ⟨pw_cell_below (HW.out) y1, pw_cell_below (HW.out) y2, pw_cell_below (HW.out) y3, pw_cell_below (HW.out) y4⟩ (fun hHeld => ?_)
      clear hK K
      try (refine norm_ (a' := ?_) ?_ ?_; rotate_left; focus (simp only [Act.put, List.setIfInBounds_toArray, List.set_cons_zero, List.set_cons_succ, i64_w, i32_w]; rfl))
      refine one_ (i := 8) (N := some 21) #[true, true, true, true, true, true, true, true, true, false, false, true, true, false, false] rfl rfl (by kernel_rfl) (by decide) (fun K hK => ?_)
      refine goes_ Try.func19 (by kernel_rfl) rfl #[.slice Ab nb cb] (by rfl) rfl rfl (by (try simp only [List.map_toArray, List.map_cons, List.map_nil]); rfl) ?_
      have hcl := clone_calls Ab cb x w3 (by have := Kd.C_below HC.out HW.out; rwa [HNB.out] at this) (by rw [← HNB.out]; exact HCB.out) (by have := HX.out; omega)
      rw [← HNB.out] at hcl
      refine hcl.mono ?_
      rintro e w8 ⟨v8, rfl, ho8, hb8⟩
      obtain ⟨A8, c8, m8, rfl, HM8⟩ := R_slice_n ho8
      have t1 := Lib.hid (HW.out.trans (hb8.mono HW.out.size))
      have t2 := Lib.hid (Kd.R_below HO3.out hb8)
      have HO8 := Lib.hid (own_ne t2.out ho8 (by decide))
      clear HW HO3 ho8 hb8 hcl
      have HW := t1
      have HO3 := t2
      clear t1 t2
      refine ⟨_, rfl, ?_⟩
      clear hHeld
      refine hK.out _ _ ⟨pw_cell_below (HW.out) y1, pw_cell_below (HW.out) y2, pw_cell_below (HW.out) y3, pw_cell_below (HW.out) y4⟩ (fun hHeld => ?_)
      clear hK K
      try (refine norm_ (a' := ?_) ?_ ?_; rotate_left; focus (simp only [Act.put, List.setIfInBounds_toArray, List.set_cons_zero, List.set_cons_succ, i64_w, i32_w]; rfl))
      refine one_ (i := 9) (N := some 22) #[true, true, true, true, true, true, true, true, true, true, false, true, true, false, false] rfl rfl (by kernel_rfl) (by decide) (fun K hK => ?_)
      go_simp
      clear hHeld
      refine hK.out _ _ ⟨pw_cell_below (below_alloc HW.out _) y1, pw_cell_below (below_alloc HW.out _) y2, pw_cell_below (below_alloc HW.out _) y3, pw_cell_below (below_alloc HW.out _) y4⟩ (fun hHeld => ?_)
      clear hK K
      try (refine norm_ (a' := ?_) ?_ ?_; rotate_left; focus (simp only [Act.put, List.setIfInBounds_toArray, List.set_cons_zero, List.set_cons_succ, i64_w, i32_w]; rfl))
      refine one_ (i := 10) (N := some 23) #[true, true, true, true, true, true, true, true, true, true, true, true, true, false, false] rfl rfl (by kernel_rfl) (by decide) (fun K hK => ?_)
      refine Kd.R_append_step (Kd.slice 5 (Kd.int .u8)) (w0 := w8) (W := w8) 0 (by rfl) (.tmp 16) (.tmp 22) 46 28 (.slice none 0 0) 24 rfl Try.underlying46 info_sl rfl (by decide) (by omega) (.slice A3 m3 c3) (n.way 0) x [.slice A8 m8 c8] (fun _ => True) (fun k => some k ≠ (Value.slice A3 m3 c3).ownBlock) rfl rfl ⟨_, rfl, Kd.R_lower HO8.out (Nat.zero_le _)⟩ (fun k hk => ⟨trivial, hk⟩) (fun _ _ => trivial) HO3.out (Below.refl 0 _) (Nat.zero_le _) (by have := HML.out; rw [← HM.out]; omega) ?_
      intro v9 w9 ho9 hb9 hg9 hat9
      obtain ⟨A9, c9, m9, rfl, HM9⟩ := R_slice_n ho9
      have t1 := Lib.hid (below_grown HW.out hg9 (fun k e => HN3.out k e))
      have HAT : Hid (∀ k, (Value.slice A9 m9 c9).ownBlock = some k → w.heap.size ≤ k) := fun k hk => by
        rcases hat9 with e | ⟨b9, e, hl⟩
        · rw [e] at hk; exact HN3.out k hk
        · rw [e] at hk; cases hk; exact Nat.le_trans HW.out.size hl
      have HO9 := Lib.hid ho9
      clear HW HO3 HO8 ho9 hb9 hg9 hat9 hHeld
      have HW := t1
      clear t1
      have fz := H.out.frozen (by decide) (i := 0) (by decide) c2 (Fr.of_below HW.out _) 2
      have c9 := pw_cell_below HW.out c2
      refine hK.out _ _ ⟨pw_cell_below (HW.out) y1, pw_cell_below (HW.out) y2, pw_cell_below (HW.out) y3, pw_cell_below (HW.out) y4⟩ (fun hHeld => ?_)
      clear hK K
      try (refine norm_ (a' := ?_) ?_ ?_; rotate_left; focus (simp only [Act.put, List.setIfInBounds_toArray, List.set_cons_zero, List.set_cons_succ, i64_w, i32_w]; rfl))
      refine pure_ (i := 13) (N := some 26) (v := ?_) (a' := ?_) #[true, true, true, true, true, true, true, true, true, true, true, true, true, true, false] rfl rfl (by kernel_rfl) (fun _ _ _ h => h) (Or.inl ⟨by rfl, ?_⟩) ?_ ?_
      rotate_left
      · intro w'
        go_simp
        with_reducible rfl
      rotate_left
      · simp only [Act.put, List.setIfInBounds_toArray, List.set_cons_zero, List.set_cons_succ, i64_w, i32_w]
        rfl
      refine last_ (i := 14) (N := none) #[true, true, true, true, true, true, true, true, true, true, true, true, true, true, true] rfl rfl (by kernel_rfl) (by decide) (fun K hK => ?_)
      go_simp
      clear hHeld
      refine hK.out _ _ ?_
      clear hK K
      try (refine norm_ (a' := ?_) ?_ ?_; rotate_left; focus (simp only [Act.put, List.setIfInBounds_toArray, List.set_cons_zero, List.set_cons_succ, i64_w, i32_w]; rfl))
      refine done_ (by kernel_rfl) ?_
      go_wp2_with fail
      go_ret
      obtain ⟨O', hN, hE⟩ := H.out.stored (by decide) (by decide) (by decide) (i := 0) (by decide) c2 (Fr.of_below HW.out _) HO9.out (fun k hk => .inr (HAT.out k hk))
      exact ⟨0, rfl, O', by rw [E.out], by rw [E.out]; exact hN, hE⟩
    · skip
      have c2 : w.cell? ⟨g, 3, none⟩ = some (.slice (some ad) m c) := hv
      clear hv
      go_enter Try.func21, Try.ntmps21
      go_wp2_with fail
      refine start_ (n := 15) (S := fun w' => w'.cell? ⟨bn, 0, none⟩ = some (.pointer (some ⟨g, 0, none⟩)) ∧ w'.cell? ⟨ba, 0, none⟩ = some (.int .i64 (j : Int)) ∧ w'.cell? ⟨bi, 0, none⟩ = some (.int .i64 1) ∧ w'.cell? (ad.add j) = some (.slice Ab nb cb)) (ds := [14]) #[false, false, false, false, false, false, false, false, false, false, false, false, false, false, false] (by kernel_rfl) rfl rfl ⟨y1, y2, y3, y4⟩ (fun hHeld => ?_)
      obtain ⟨W2, hW2⟩ : ∃ W2, w.drew = W2 := ⟨_, rfl⟩
      have hbw : Below w.heap.size w W2 := by rw [← hW2]; exact below_drew (Below.refl _ _)
      rw [hW2] at hHeld ⊢
      clear hW2
      have HW := Lib.hid hbw
      clear hbw
      refine pure_ (i := 2) (N := some 15) (v := ?_) (a' := ?_) #[false, false, true, false, false, false, false, false, false, false, false, false, false, false, false] rfl rfl (by kernel_rfl) (fun _ _ _ h => h) (Or.inl ⟨by rfl, ?_⟩) ?_ ?_
      rotate_left
      · intro w'
        go_simp
        with_reducible rfl
      rotate_left
      · simp only [Act.put, List.setIfInBounds_toArray, List.set_cons_zero, List.set_cons_succ, i64_w, i32_w]
        rfl
      refine pure_ (i := 4) (N := some 17) (v := ?_) (a' := ?_) #[false, false, true, false, true, false, false, false, false, false, false, false, false, false, false] rfl rfl (by kernel_rfl) (fun _ _ _ h => h) (Or.inl ⟨by rfl, ?_⟩) ?_ ?_
      rotate_left
      · intro w'
        go_simp
        with_reducible rfl
      rotate_left
      · simp only [Act.put, List.setIfInBounds_toArray, List.set_cons_zero, List.set_cons_succ, i64_w, i32_w]
        rfl
      refine take_ (i := 0) (N := some 13) (v := ?_) (a' := ?_) #[true, false, true, false, true, false, false, false, false, false, false, false, false, false, false] rfl rfl (by kernel_rfl) (fun _ _ _ h => h) (Or.inl ⟨by rfl, ?_⟩) hHeld ?_ ?_
      rotate_left
      · rintro w' ⟨s0, s1, s2, s3⟩
        go_simp
        with_reducible rfl
      rotate_left
      · simp only [Act.put, List.setIfInBounds_toArray, List.set_cons_zero, List.set_cons_succ, i64_w, i32_w]
        rfl
      refine pure_ (i := 11) (N := some 24) (v := ?_) (a' := ?_) #[true, false, true, false, true, false, false, false, false, false, false, true, false, false, false] rfl rfl (by kernel_rfl) (fun _ _ _ h => h) (Or.inl ⟨by rfl, ?_⟩) ?_ ?_
      rotate_left
      · intro w'
        go_simp
        with_reducible rfl
      rotate_left
      · simp only [Act.put, List.setIfInBounds_toArray, List.set_cons_zero, List.set_cons_succ, i64_w, i32_w]
        rfl
      refine pure_ (i := 12) (N := some 25) (v := ?_) (a' := ?_) #[true, false, true, false, true, false, false, false, false, false, false, true, true, false, false] rfl rfl (by kernel_rfl) (fun _ _ _ h => h) (Or.inl ⟨by rfl, ?_⟩) ?_ ?_
      rotate_left
      · intro w'
        go_simp
        with_reducible rfl
      rotate_left
      · simp only [Act.put, List.setIfInBounds_toArray, List.set_cons_zero, List.set_cons_succ, i64_w, i32_w]
        rfl
      refine take_ (i := 1) (N := some 14) (v := ?_) (a' := ?_) #[true, true, true, false, true, false, false, false, false, false, false, true, true, false, false] rfl rfl (by kernel_rfl) (fun _ _ _ h => h) (Or.inl ⟨by rfl, ?_⟩) hHeld ?_ ?_
      rotate_left
      · rintro w' ⟨s0, s1, s2, s3⟩
        go_simp
        with_reducible rfl
      rotate_left
      · simp only [Act.put, List.setIfInBounds_toArray, List.set_cons_zero, List.set_cons_succ, i64_w, i32_w]
        rfl
      refine take_ (i := 5) (N := some 18) (v := ?_) (a' := ?_) #[true, true, true, false, true, true, false, false, false, false, false, true, true, false, false] rfl rfl (by kernel_rfl) (fun _ _ _ h => h) (Or.inl ⟨by rfl, ?_⟩) hHeld ?_ ?_
      rotate_left
      · rintro w' ⟨s0, s1, s2, s3⟩
        go_simp
        with_reducible rfl
      rotate_left
      · simp only [Act.put, List.setIfInBounds_toArray, List.set_cons_zero, List.set_cons_succ, i64_w, i32_w]
        rfl
      refine pure_ (i := 6) (N := some 19) (v := ?_) (a' := ?_) #[true, true, true, false, true, true, true, false, false, false, false, true, true, false, false] rfl rfl (by kernel_rfl) (fun _ _ _ h => h) (Or.inl ⟨by rfl, ?_⟩) ?_ ?_
      rotate_left
      · intro w'
        go_simp
        with_reducible rfl
      rotate_left
      · simp only [Act.put, List.setIfInBounds_toArray, List.set_cons_zero, List.set_cons_succ, i64_w, i32_w]
        rfl
      refine take_ (i := 7) (N := some 20) (v := .slice Ab nb cb) (a' := ?_) #[true, true, true, false, true, true, true, true, false, false, false, true, true, false, false] rfl rfl (by kernel_rfl) (fun _ _ _ h => h) (Or.inl ⟨by rfl, ?_⟩) hHeld ?_ ?_
      · rintro w' ⟨s0, s1, s2, s3⟩
        go_simp
        try (with_reducible rfl)
      rotate_left
      · simp only [Act.put, List.setIfInBounds_toArray, List.set_cons_zero, List.set_cons_succ, i64_w, i32_w]
        rfl
      refine one_ (i := 3) (N := some 16) #[true, true, true, true, true, true, true, true, false, false, false, true, true, false, false] rfl rfl (by kernel_rfl) (by decide) (fun K hK => ?_)
      refine goes_ Try.func22 (by kernel_rfl) rfl #[.slice (some ad) m c] (by rfl) rfl rfl (by (try simp only [List.map_toArray, List.map_cons, List.map_nil]); rfl) ?_
      refine (sclone_calls (some ad) m c (n.way 1) W2 (Kd.R_below HR.out HW.out) (by have := HPOS.out; rw [← HM.out]; exact this) (by have := HML.out; rw [← HM.out]; exact this)).mono ?_
      rintro e w3 ⟨v3, rfl, ho3, hn3, hb3⟩
      obtain ⟨A3, c3, m3, rfl, HM3⟩ := R_slice_n ho3
      have t1 := Lib.hid (HW.out.trans (hb3.mono HW.out.size))
      have HN3 : Hid (∀ k, (Value.slice A3 m3 c3).ownBlock = some k → w.heap.size ≤ k) := fun k hk => Nat.le_trans HW.out.size (hn3 k hk)
      have HO3 := Lib.hid ho3
      clear HW ho3 hn3 hb3
      have HW := t1
      clear t1
      refine ⟨_, rfl, ?_⟩
      clear hHeld
      refine hK.out _ _ ⟨pw_cell_below (HW.out) y1, pw_cell_below (HW.out) y2, pw_cell_below (HW.out) y3, pw_cell_below (HW.out) y4⟩ (fun hHeld => ?_)
      clear hK K
      try (refine norm_ (a' := ?_) ?_ ?_; rotate_left; focus (simp only [Act.put, List.setIfInBounds_toArray, List.set_cons_zero, List.set_cons_succ, i64_w, i32_w]; rfl))
      refine one_ (i := 8) (N := some 21) #[true, true, true, true, true, true, true, true, true, false, false, true, true, false, false] rfl rfl (by kernel_rfl) (by decide) (fun K hK => ?_)
      refine goes_ Try.func19 (by kernel_rfl) rfl #[.slice Ab nb cb] (by rfl) rfl rfl (by (try simp only [List.map_toArray, List.map_cons, List.map_nil]); rfl) ?_
      have hcl := clone_calls Ab cb x w3 (by have := Kd.C_below HC.out HW.out; rwa [HNB.out] at this) (by rw [← HNB.out]; exact HCB.out) (by have := HX.out; omega)
      rw [← HNB.out] at hcl
      refine hcl.mono ?_
      rintro e w8 ⟨v8, rfl, ho8, hb8⟩
      obtain ⟨A8, c8, m8, rfl, HM8⟩ := R_slice_n ho8
      have t1 := Lib.hid (HW.out.trans (hb8.mono HW.out.size))
      have t2 := Lib.hid (Kd.R_below HO3.out hb8)
      have HO8 := Lib.hid (own_ne t2.out ho8 (by decide))
      clear HW HO3 ho8 hb8 hcl
      have HW := t1
      have HO3 := t2
      clear t1 t2
      refine ⟨_, rfl, ?_⟩
      clear hHeld
      refine hK.out _ _ ⟨pw_cell_below (HW.out) y1, pw_cell_below (HW.out) y2, pw_cell_below (HW.out) y3, pw_cell_below (HW.out) y4⟩ (fun hHeld => ?_)
      clear hK K
      try (refine norm_ (a' := ?_) ?_ ?_; rotate_left; focus (simp only [Act.put, List.setIfInBounds_toArray, List.set_cons_zero, List.set_cons_succ, i64_w, i32_w]; rfl))
      refine one_ (i := 9) (N := some 22) #[true, true, true, true, true, true, true, true, true, true, false, true, true, false, false] rfl rfl (by kernel_rfl) (by decide) (fun K hK => ?_)
      go_simp
      clear hHeld
      refine hK.out _ _ ⟨pw_cell_below (below_alloc HW.out _) y1, pw_cell_below (below_alloc HW.out _) y2, pw_cell_below (below_alloc HW.out _) y3, pw_cell_below (below_alloc HW.out _) y4⟩ (fun hHeld => ?_)
      clear hK K
      try (refine norm_ (a' := ?_) ?_ ?_; rotate_left; focus (simp only [Act.put, List.setIfInBounds_toArray, List.set_cons_zero, List.set_cons_succ, i64_w, i32_w]; rfl))
      refine one_ (i := 10) (N := some 23) #[true, true, true, true, true, true, true, true, true, true, true, true, true, false, false] rfl rfl (by kernel_rfl) (by decide) (fun K hK => ?_)
      refine Kd.R_append_step (Kd.slice 5 (Kd.int .u8)) (w0 := w8) (W := w8) 0 (by rfl) (.tmp 16) (.tmp 22) 46 28 (.slice none 0 0) 24 rfl Try.underlying46 info_sl rfl (by decide) (by omega) (.slice A3 m3 c3) (n.way 1) x [.slice A8 m8 c8] (fun _ => True) (fun k => some k ≠ (Value.slice A3 m3 c3).ownBlock) rfl rfl ⟨_, rfl, Kd.R_lower HO8.out (Nat.zero_le _)⟩ (fun k hk => ⟨trivial, hk⟩) (fun _ _ => trivial) HO3.out (Below.refl 0 _) (Nat.zero_le _) (by have := HML.out; rw [← HM.out]; omega) ?_
      intro v9 w9 ho9 hb9 hg9 hat9
      obtain ⟨A9, c9, m9, rfl, HM9⟩ := R_slice_n ho9
      have t1 := Lib.hid (below_grown HW.out hg9 (fun k e => HN3.out k e))
      have HAT : Hid (∀ k, (Value.slice A9 m9 c9).ownBlock = some k → w.heap.size ≤ k) := fun k hk => by
        rcases hat9 with e | ⟨b9, e, hl⟩
        · rw [e] at hk; exact HN3.out k hk
        · rw [e] at hk; cases hk; exact Nat.le_trans HW.out.size hl
      have HO9 := Lib.hid ho9
      clear HW HO3 HO8 ho9 hb9 hg9 hat9 hHeld
      have HW := t1
      clear t1
      have fz := H.out.frozen (by decide) (i := 1) (by decide) c2 (Fr.of_below HW.out _) 3
      have c9 := pw_cell_below HW.out c2
      refine hK.out _ _ ⟨pw_cell_below (HW.out) y1, pw_cell_below (HW.out) y2, pw_cell_below (HW.out) y3, pw_cell_below (HW.out) y4⟩ (fun hHeld => ?_)
      clear hK K
      try (refine norm_ (a' := ?_) ?_ ?_; rotate_left; focus (simp only [Act.put, List.setIfInBounds_toArray, List.set_cons_zero, List.set_cons_succ, i64_w, i32_w]; rfl))
      refine pure_ (i := 13) (N := some 26) (v := ?_) (a' := ?_) #[true, true, true, true, true, true, true, true, true, true, true, true, true, true, false] rfl rfl (by kernel_rfl) (fun _ _ _ h => h) (Or.inl ⟨by rfl, ?_⟩) ?_ ?_
      rotate_left
      · intro w'
        go_simp
        with_reducible rfl
      rotate_left
      · simp only [Act.put, List.setIfInBounds_toArray, List.set_cons_zero, List.set_cons_succ, i64_w, i32_w]
        rfl
      refine last_ (i := 14) (N := none) #[true, true, true, true, true, true, true, true, true, true, true, true, true, true, true] rfl rfl (by kernel_rfl) (by decide) (fun K hK => ?_)
      go_simp
      clear hHeld
      refine hK.out _ _ ?_
      clear hK K
      try (refine norm_ (a' := ?_) ?_ ?_; rotate_left; focus (simp only [Act.put, List.setIfInBounds_toArray, List.set_cons_zero, List.set_cons_succ, i64_w, i32_w]; rfl))
      refine done_ (by kernel_rfl) ?_
      go_wp2_with fail
      go_ret
      obtain ⟨O', hN, hE⟩ := H.out.stored (by decide) (by decide) (by decide) (i := 1) (by decide) c2 (Fr.of_below HW.out _) HO9.out (fun k hk => .inr (HAT.out k hk))
      exact ⟨0, rfl, O', by rw [E.out], by rw [E.out]; exact hN, hE⟩
end Go.Proofs.Ytokcplapbjhnoaa
