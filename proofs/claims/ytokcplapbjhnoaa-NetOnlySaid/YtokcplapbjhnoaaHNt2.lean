/-
  A net's Put, both programs'. Condition: a net that may be; fewer than 2^40 bytes.
-/
import Derived.Test.YtokcplapbjhnoaaHNt1
namespace Go.Proofs.Ytokcplapbjhnoaa
open Go.RowKit Go.Proofs.YtokcplapbjhnoaaW.PrintWords Go.Proofs.YtokcplapbjhnoaaW.PrintLast Go.Proofs.YtokcplapbjhnoaaW.PrintMore
attribute [local go_sem] max2_int min2_int max_two min_two max_three min_three max_four min_four
set_option linter.unusedVariables false
set_option linter.unusedSimpArgs false

theorem info_u8 : (Try.prog.info? 5).map (fun i => (i.zero, i.size, i.bytes)) = some (some (.int .u8 0), 1, 1) := by kernel_rfl
theorem info_sl : (Try.prog.info? 28).map (fun i => (i.zero, i.size, i.bytes)) = some (some (.slice none 0 0), 1, 24) := by kernel_rfl
theorem NtAt.frozen {T U V : TypeId} {w W : World} {g : Nat} {O : Nat → Prop} {n : NtS} (h : NtAt T U V w g O n) (hTV : T ≠ V) {i : Int} (hi : NtS.one i) {v : Value} (hv : w.cell? ⟨g, 2 + i.toNat, none⟩ = some v) (hf : Fr w W (fun k => v.ownBlock = some k)) (j : Nat) : W.frozen? ⟨g, j, none⟩ = false := by
  have hn : v.ownBlock ≠ some g := by
    obtain ⟨v', hv', hr, _, hne⟩ := h.ways hi
    obtain rfl := Option.some.inj (hv'.symm.trans hv)
    intro e
    rcases hne g e with h2 | h2
    · exact h2 rfl
    · exact hTV h2
  obtain ⟨v0, v1, hb, _⟩ := h
  exact blk_frozen (hf.blk hb hn) j
theorem R_slice_n {α : Type} {d : Kd α} {e : Nat} {w : World} {base : Nat} {ok : Nat → Prop} {v : Value} {xs : List α} (h : d.R e w base ok v xs) : ∃ A c m, v = .slice A m c ∧ Hid (m = xs.length) := by
  obtain ⟨A, c, rfl⟩ := Kd.R_slice h
  exact ⟨A, c, _, rfl, rfl⟩
theorem below_none {W w1 : World} (hg : W.grownBy w1 none) : Below W.heap.size W w1 := ⟨hg.os, hg.tape, hg.output, hg.size, fun k hk => hg.block k hk (by simp)⟩
theorem below_grown {w W w1 : World} {row : Option Nat} (h : Below w.heap.size w W) (hg : W.grownBy w1 row) (hn : ∀ k, row = some k → w.heap.size ≤ k) : Below w.heap.size w w1 :=
  h.trans ⟨hg.os, hg.tape, hg.output, hg.size, fun k hk => hg.block k (Nat.lt_of_lt_of_le hk h.size) (fun e => by have := hn k e.symm; omega)⟩
theorem cur_size {w W : World} (h : Below w.heap.size w W) : ∃ N, N = W.heap.size := ⟨_, rfl⟩
theorem Kd.R_head_ok {U V : TypeId} {w : World} {base : Nat} {ok : Nat → Prop} {v : Value} (h : (Kd.slice U (Kd.int .u8)).R V w base ok v []) : (Kd.slice U (Kd.int .u8)).R V w base (fun k => some k = v.ownBlock) v [] := by
  obtain ⟨h0, inner, ho, hr⟩ := h
  exact ⟨fun k hk => hk.symm, inner, ho, hr.1, fun j p hj => by simp at hj⟩
theorem ne_of {U V : TypeId} {w W2 W : World} {ok ok' : Nat → Prop} {v3 v6 : Value} {b3 : Nat} (h3 : (Kd.slice U (Kd.int .u8)).R V W b3 ok v3 []) (h6 : (Kd.int .u8).R U W W2.heap.size ok' v6 []) (hVU : V ≠ U) {k : Nat} (hk : k < w.heap.size ∨ W.heap.size ≤ k ∨ some k = v3.ownBlock) (hs : w.heap.size ≤ W2.heap.size) : some k ≠ v6.ownBlock := by
  intro e
  rcases hk with hk | hk | hk
  · have := Kd.R_base h6 k e.symm; omega
  · have := Kd.R_lt h6 k e.symm; omega
  · obtain ⟨c3, e3⟩ := Kd.R_typed h3 k hk.symm
    obtain ⟨c6, e6⟩ := Kd.R_typed h6 k e.symm
    rw [e3] at e6
    injection e6 with e6
    injection e6 with _ e6
    exact hVU e6
theorem own_ne {U V : TypeId} {w : World} {base b5 : Nat} {ok ok' : Nat → Prop} {v v7 : Value} {xs : List (List Int)} {b : List Int} (h5 : (Kd.slice U (Kd.int .u8)).R V w b5 ok v xs) (h7 : (Kd.int .u8).R U w base ok' v7 b) (hVU : V ≠ U) : (Kd.int .u8).R U w base (fun k => some k ≠ v.ownBlock) v7 b :=
  Kd.R_mono (Kd.R_tight rfl h7) (fun k hk e => by
    obtain ⟨c3, e3⟩ := Kd.R_typed h5 k e.symm
    obtain ⟨c6, e6⟩ := Kd.R_typed h7 k hk.symm
    rw [e3] at e6
    injection e6 with e6
    injection e6 with _ e6
    exact hVU e6)
/-- The elements of a row of rows, as it holds them, each's blocks elder than N. -/
theorem BR.readsM {U V : TypeId} {w : World} {A : Option Addr} {m c : Nat} {xs : List (List Int)} (h : BR U V w (.slice A m c) xs) : m = xs.length ∧ xs.length ≤ c ∧ ReadsRow ((Kd.slice U (Kd.int .u8)).M w 0 (fun k => k < w.heap.size)) 1 w A xs.length xs := by
  obtain ⟨A', c', e, hl, hr⟩ := OwnRow.reads h.2
  cases e
  exact ⟨rfl, hl, hr.imp_ (Below.refl _ _) (fun _ _ hp => Kd.M_mono _ (fun k hk => hk.2.2.1) (Kd.M_bound _ hp))⟩

set_option maxHeartbeats 4000000 in
set_option maxRecDepth 100000 in
theorem net_Put (g : Nat) (O : Nat → Prop) (n : NtS) (i : Int) (B : Option Addr) (cb : Nat) (b : List Int) (w : World) (h : NN w g O n) (hok : n.ok) (hB : (Kd.int .u8).C w B b.length b) (hcb : b.length ≤ cb) (hbl : b.length < 1099511627776) :
    Calls Try.prog 9 #[.pointer (some ⟨g, 0, none⟩), .int .i64 i, .slice B b.length cb] w fun e w' => ∃ O', e = .returned (.int .i64 (n.put i b).1) ∧ NN w' g O' (n.put i b).2 ∧ Ext w w' O O' := by
  have HBB := Lib.hid hB
  have HCB := Lib.hid hcb
  have HBL := Lib.hid hbl
  have H := Lib.hid h
  have x0 : w.cell? ⟨g, 0, none⟩ = some (.int .i64 n.room) := h.cells.1
  have x1 : w.cell? ⟨g, 1, none⟩ = some (.bool n.cut) := h.cells.2
  have ol := NtS.ok_way hok i
  have hroom := hok.2.1
  clear hB hcb hbl hok
  by_cases hi : NtS.one i
  · have q : decide (NtS.one i) = true := decide_eq_true hi
    cases ec : n.cut with
    | true =>
      rw [ec] at x1
      have E : Hid (n.put i b = (7, n)) := by show _ = _; unfold NtS.put; rw [if_neg (fun h => h hi), if_pos ec]
      clear ec h ol
      rcases hi with rfl | rfl
      all_goals
        go_enter Try.func9, Try.ntmps9
        go_wp2_with (first | (go_at_call 18; refine (one_calls _ _).mono ?_; rintro e w' ⟨rfl, hw⟩; obtain rfl := hw.symm) | fail)
        go_ret
        rw [E.out]
        first | exact ⟨O, rfl, H.out, Ext.refl _ _⟩ | exact ⟨rfl, O, H.out, Ext.refl _ _⟩
    | false =>
      rw [ec] at x1
      obtain ⟨v, hv, hr, _, _⟩ := h.ways hi
      obtain ⟨A, c, rfl⟩ := Kd.R_slice hr
      obtain ⟨m, hm⟩ : ∃ m, m = (n.way i).length := ⟨_, rfl⟩
      rw [← hm] at hv hr ol
      have HR := Lib.hid hr
      have HM := Lib.hid hm
      have HV := Lib.hid hv
      have hlt := Kd.R_lt hr
      have HLT := Lib.hid hlt
      obtain ⟨ol1, ol2⟩ := ol
      clear hr h ol2 hlt hm
      by_cases hf : n.room ≤ (m : Int)
      · have E : Hid (n.put i b = (3, n)) := by show _ = _; unfold NtS.put; rw [if_neg (fun h => h hi), if_neg (by rw [ec]; decide), if_pos (by rw [← HM.out]; exact hf)]
        clear ec
        rcases hi with rfl | rfl
        · have c2 : w.cell? ⟨g, 2, none⟩ = some (.slice A m c) := hv
          clear hv
          go_enter Try.func9, Try.ntmps9
          go_wp2_with (first | (go_at_call 18; refine (one_calls _ _).mono ?_; rintro e w' ⟨rfl, hw⟩; obtain rfl := hw.symm) | fail)
          refine start_ (n := 13) (S := fun w' => w'.cell? ⟨g, 0, none⟩ = some (.int .i64 n.room) ∧ w'.cell? ⟨g, 2, none⟩ = some (.slice A m c)) (ds := []) #[false, false, false, false, false, false, false, false, false, false, false, false, false] (by kernel_rfl) rfl rfl ⟨x0, c2⟩ (fun hHeld => ?_)
          refine pure_ (i := 0) (N := some 17) (v := ?_) (a' := ?_) #[true, false, false, false, false, false, false, false, false, false, false, false, false] rfl rfl (by kernel_rfl) (fun _ _ _ h => h) (Or.inl ⟨by rfl, ?_⟩) ?_ ?_
          rotate_left
          · intro w'
            go_simp
            with_reducible rfl
          rotate_left
          · simp only [Act.put, List.setIfInBounds_toArray, List.set_cons_zero, List.set_cons_succ, i64_w, i32_w]
            rfl
          refine pure_ (i := 1) (N := some 18) (v := ?_) (a' := ?_) #[true, true, false, false, false, false, false, false, false, false, false, false, false] rfl rfl (by kernel_rfl) (fun _ _ _ h => h) (Or.inl ⟨by rfl, ?_⟩) ?_ ?_
          rotate_left
          · intro w'
            go_simp
            with_reducible rfl
          rotate_left
          · simp only [Act.put, List.setIfInBounds_toArray, List.set_cons_zero, List.set_cons_succ, i64_w, i32_w]
            rfl
          refine pure_ (i := 2) (N := some 19) (v := ?_) (a' := ?_) #[true, true, true, false, false, false, false, false, false, false, false, false, false] rfl rfl (by kernel_rfl) (fun _ _ _ h => h) (Or.inl ⟨by rfl, ?_⟩) ?_ ?_
          rotate_left
          · intro w'
            go_simp
            with_reducible rfl
          rotate_left
          · simp only [Act.put, List.setIfInBounds_toArray, List.set_cons_zero, List.set_cons_succ, i64_w, i32_w]
            rfl
          refine pure_ (i := 3) (N := some 20) (v := ?_) (a' := ?_) #[true, true, true, true, false, false, false, false, false, false, false, false, false] rfl rfl (by kernel_rfl) (fun _ _ _ h => h) (Or.inl ⟨by rfl, ?_⟩) ?_ ?_
          rotate_left
          · intro w'
            go_simp
            with_reducible rfl
          rotate_left
          · simp only [Act.put, List.setIfInBounds_toArray, List.set_cons_zero, List.set_cons_succ, i64_w, i32_w]
            rfl
          refine pure_ (i := 4) (N := some 21) (v := ?_) (a' := ?_) #[true, true, true, true, true, false, false, false, false, false, false, false, false] rfl rfl (by kernel_rfl) (fun _ _ _ h => h) (Or.inl ⟨by rfl, ?_⟩) ?_ ?_
          rotate_left
          · intro w'
            go_simp
            with_reducible rfl
          rotate_left
          · simp only [Act.put, List.setIfInBounds_toArray, List.set_cons_zero, List.set_cons_succ, i64_w, i32_w]
            rfl
          refine pure_ (i := 7) (N := some 24) (v := ?_) (a' := ?_) #[true, true, true, true, true, false, false, true, false, false, false, false, false] rfl rfl (by kernel_rfl) (fun _ _ _ h => h) (Or.inl ⟨by rfl, ?_⟩) ?_ ?_
          rotate_left
          · intro w'
            go_simp
            with_reducible rfl
          rotate_left
          · simp only [Act.put, List.setIfInBounds_toArray, List.set_cons_zero, List.set_cons_succ, i64_w, i32_w]
            rfl
          refine pure_ (i := 8) (N := some 25) (v := ?_) (a' := ?_) #[true, true, true, true, true, false, false, true, true, false, false, false, false] rfl rfl (by kernel_rfl) (fun _ _ _ h => h) (Or.inl ⟨by rfl, ?_⟩) ?_ ?_
          rotate_left
          · intro w'
            go_simp
            with_reducible rfl
          rotate_left
          · simp only [Act.put, List.setIfInBounds_toArray, List.set_cons_zero, List.set_cons_succ, i64_w, i32_w]
            rfl
          refine pure_ (i := 9) (N := some 26) (v := ?_) (a' := ?_) #[true, true, true, true, true, false, false, true, true, true, false, false, false] rfl rfl (by kernel_rfl) (fun _ _ _ h => h) (Or.inl ⟨by rfl, ?_⟩) ?_ ?_
          rotate_left
          · intro w'
            go_simp
            with_reducible rfl
          rotate_left
          · simp only [Act.put, List.setIfInBounds_toArray, List.set_cons_zero, List.set_cons_succ, i64_w, i32_w]
            rfl
          refine take_ (i := 5) (N := some 22) (v := ?_) (a' := ?_) #[true, true, true, true, true, true, false, true, true, true, false, false, false] rfl rfl (by kernel_rfl) (fun _ _ _ h => h) (Or.inl ⟨by rfl, ?_⟩) hHeld ?_ ?_
          rotate_left
          · rintro w' ⟨s0, s1⟩
            go_simp
            with_reducible rfl
          rotate_left
          · simp only [Act.put, List.setIfInBounds_toArray, List.set_cons_zero, List.set_cons_succ, i64_w, i32_w]
            rfl
          refine pure_ (i := 6) (N := some 23) (v := ?_) (a' := ?_) #[true, true, true, true, true, true, true, true, true, true, false, false, false] rfl rfl (by kernel_rfl) (fun _ _ _ h => h) (Or.inl ⟨by rfl, ?_⟩) ?_ ?_
          rotate_left
          · intro w'
            go_simp
            with_reducible rfl
          rotate_left
          · simp only [Act.put, List.setIfInBounds_toArray, List.set_cons_zero, List.set_cons_succ, i64_w, i32_w]
            rfl
          refine take_ (i := 10) (N := some 27) (v := ?_) (a' := ?_) #[true, true, true, true, true, true, true, true, true, true, true, false, false] rfl rfl (by kernel_rfl) (fun _ _ _ h => h) (Or.inl ⟨by rfl, ?_⟩) hHeld ?_ ?_
          rotate_left
          · rintro w' ⟨s0, s1⟩
            go_simp
            with_reducible rfl
          rotate_left
          · simp only [Act.put, List.setIfInBounds_toArray, List.set_cons_zero, List.set_cons_succ, i64_w, i32_w]
            rfl
          refine pure_ (i := 11) (N := some 28) (v := ?_) (a' := ?_) #[true, true, true, true, true, true, true, true, true, true, true, true, false] rfl rfl (by kernel_rfl) (fun _ _ _ h => h) (Or.inl ⟨by rfl, ?_⟩) ?_ ?_
          rotate_left
          · intro w'
            go_simp
            with_reducible rfl
          rotate_left
          · simp only [Act.put, List.setIfInBounds_toArray, List.set_cons_zero, List.set_cons_succ, i64_w, i32_w]
            rfl
          refine pure_ (i := 12) (N := some 16) (v := ?_) (a' := ?_) #[true, true, true, true, true, true, true, true, true, true, true, true, true] rfl rfl (by kernel_rfl) (fun _ _ _ h => h) (Or.inl ⟨by rfl, ?_⟩) ?_ ?_
          rotate_left
          · intro w'
            go_simp
            with_reducible rfl
          rotate_left
          · simp only [Act.put, List.setIfInBounds_toArray, List.set_cons_zero, List.set_cons_succ, i64_w, i32_w]
            rfl
          refine done_ (by kernel_rfl) ?_
          go_wp2_with fail
          go_ret
          rw [E.out]
          exact ⟨O, rfl, H.out.below (below_drew (Below.refl _ _)), Ext.of_below (below_drew (Below.refl _ _)) O⟩
        · have c2 : w.cell? ⟨g, 3, none⟩ = some (.slice A m c) := hv
          clear hv
          go_enter Try.func9, Try.ntmps9
          go_wp2_with (first | (go_at_call 18; refine (one_calls _ _).mono ?_; rintro e w' ⟨rfl, hw⟩; obtain rfl := hw.symm) | fail)
          refine start_ (n := 13) (S := fun w' => w'.cell? ⟨g, 0, none⟩ = some (.int .i64 n.room) ∧ w'.cell? ⟨g, 3, none⟩ = some (.slice A m c)) (ds := []) #[false, false, false, false, false, false, false, false, false, false, false, false, false] (by kernel_rfl) rfl rfl ⟨x0, c2⟩ (fun hHeld => ?_)
          refine pure_ (i := 0) (N := some 17) (v := ?_) (a' := ?_) #[true, false, false, false, false, false, false, false, false, false, false, false, false] rfl rfl (by kernel_rfl) (fun _ _ _ h => h) (Or.inl ⟨by rfl, ?_⟩) ?_ ?_
          rotate_left
          · intro w'
            go_simp
            with_reducible rfl
          rotate_left
          · simp only [Act.put, List.setIfInBounds_toArray, List.set_cons_zero, List.set_cons_succ, i64_w, i32_w]
            rfl
          refine pure_ (i := 1) (N := some 18) (v := ?_) (a' := ?_) #[true, true, false, false, false, false, false, false, false, false, false, false, false] rfl rfl (by kernel_rfl) (fun _ _ _ h => h) (Or.inl ⟨by rfl, ?_⟩) ?_ ?_
          rotate_left
          · intro w'
            go_simp
            with_reducible rfl
          rotate_left
          · simp only [Act.put, List.setIfInBounds_toArray, List.set_cons_zero, List.set_cons_succ, i64_w, i32_w]
            rfl
          refine pure_ (i := 2) (N := some 19) (v := ?_) (a' := ?_) #[true, true, true, false, false, false, false, false, false, false, false, false, false] rfl rfl (by kernel_rfl) (fun _ _ _ h => h) (Or.inl ⟨by rfl, ?_⟩) ?_ ?_
          rotate_left
          · intro w'
            go_simp
            with_reducible rfl
          rotate_left
          · simp only [Act.put, List.setIfInBounds_toArray, List.set_cons_zero, List.set_cons_succ, i64_w, i32_w]
            rfl
          refine pure_ (i := 3) (N := some 20) (v := ?_) (a' := ?_) #[true, true, true, true, false, false, false, false, false, false, false, false, false] rfl rfl (by kernel_rfl) (fun _ _ _ h => h) (Or.inl ⟨by rfl, ?_⟩) ?_ ?_
          rotate_left
          · intro w'
            go_simp
            with_reducible rfl
          rotate_left
          · simp only [Act.put, List.setIfInBounds_toArray, List.set_cons_zero, List.set_cons_succ, i64_w, i32_w]
            rfl
          refine pure_ (i := 4) (N := some 21) (v := ?_) (a' := ?_) #[true, true, true, true, true, false, false, false, false, false, false, false, false] rfl rfl (by kernel_rfl) (fun _ _ _ h => h) (Or.inl ⟨by rfl, ?_⟩) ?_ ?_
          rotate_left
          · intro w'
            go_simp
            with_reducible rfl
          rotate_left
          · simp only [Act.put, List.setIfInBounds_toArray, List.set_cons_zero, List.set_cons_succ, i64_w, i32_w]
            rfl
          refine pure_ (i := 7) (N := some 24) (v := ?_) (a' := ?_) #[true, true, true, true, true, false, false, true, false, false, false, false, false] rfl rfl (by kernel_rfl) (fun _ _ _ h => h) (Or.inl ⟨by rfl, ?_⟩) ?_ ?_
          rotate_left
          · intro w'
            go_simp
            with_reducible rfl
          rotate_left
          · simp only [Act.put, List.setIfInBounds_toArray, List.set_cons_zero, List.set_cons_succ, i64_w, i32_w]
            rfl
          refine pure_ (i := 8) (N := some 25) (v := ?_) (a' := ?_) #[true, true, true, true, true, false, false, true, true, false, false, false, false] rfl rfl (by kernel_rfl) (fun _ _ _ h => h) (Or.inl ⟨by rfl, ?_⟩) ?_ ?_
          rotate_left
          · intro w'
            go_simp
            with_reducible rfl
          rotate_left
          · simp only [Act.put, List.setIfInBounds_toArray, List.set_cons_zero, List.set_cons_succ, i64_w, i32_w]
            rfl
          refine pure_ (i := 9) (N := some 26) (v := ?_) (a' := ?_) #[true, true, true, true, true, false, false, true, true, true, false, false, false] rfl rfl (by kernel_rfl) (fun _ _ _ h => h) (Or.inl ⟨by rfl, ?_⟩) ?_ ?_
          rotate_left
          · intro w'
            go_simp
            with_reducible rfl
          rotate_left
          · simp only [Act.put, List.setIfInBounds_toArray, List.set_cons_zero, List.set_cons_succ, i64_w, i32_w]
            rfl
          refine take_ (i := 5) (N := some 22) (v := ?_) (a' := ?_) #[true, true, true, true, true, true, false, true, true, true, false, false, false] rfl rfl (by kernel_rfl) (fun _ _ _ h => h) (Or.inl ⟨by rfl, ?_⟩) hHeld ?_ ?_
          rotate_left
          · rintro w' ⟨s0, s1⟩
            go_simp
            with_reducible rfl
          rotate_left
          · simp only [Act.put, List.setIfInBounds_toArray, List.set_cons_zero, List.set_cons_succ, i64_w, i32_w]
            rfl
          refine pure_ (i := 6) (N := some 23) (v := ?_) (a' := ?_) #[true, true, true, true, true, true, true, true, true, true, false, false, false] rfl rfl (by kernel_rfl) (fun _ _ _ h => h) (Or.inl ⟨by rfl, ?_⟩) ?_ ?_
          rotate_left
          · intro w'
            go_simp
            with_reducible rfl
          rotate_left
          · simp only [Act.put, List.setIfInBounds_toArray, List.set_cons_zero, List.set_cons_succ, i64_w, i32_w]
            rfl
          refine take_ (i := 10) (N := some 27) (v := ?_) (a' := ?_) #[true, true, true, true, true, true, true, true, true, true, true, false, false] rfl rfl (by kernel_rfl) (fun _ _ _ h => h) (Or.inl ⟨by rfl, ?_⟩) hHeld ?_ ?_
          rotate_left
          · rintro w' ⟨s0, s1⟩
            go_simp
            with_reducible rfl
          rotate_left
          · simp only [Act.put, List.setIfInBounds_toArray, List.set_cons_zero, List.set_cons_succ, i64_w, i32_w]
            rfl
          refine pure_ (i := 11) (N := some 28) (v := ?_) (a' := ?_) #[true, true, true, true, true, true, true, true, true, true, true, true, false] rfl rfl (by kernel_rfl) (fun _ _ _ h => h) (Or.inl ⟨by rfl, ?_⟩) ?_ ?_
          rotate_left
          · intro w'
            go_simp
            with_reducible rfl
          rotate_left
          · simp only [Act.put, List.setIfInBounds_toArray, List.set_cons_zero, List.set_cons_succ, i64_w, i32_w]
            rfl
          refine pure_ (i := 12) (N := some 16) (v := ?_) (a' := ?_) #[true, true, true, true, true, true, true, true, true, true, true, true, true] rfl rfl (by kernel_rfl) (fun _ _ _ h => h) (Or.inl ⟨by rfl, ?_⟩) ?_ ?_
          rotate_left
          · intro w'
            go_simp
            with_reducible rfl
          rotate_left
          · simp only [Act.put, List.setIfInBounds_toArray, List.set_cons_zero, List.set_cons_succ, i64_w, i32_w]
            rfl
          refine done_ (by kernel_rfl) ?_
          go_wp2_with fail
          go_ret
          rw [E.out]
          exact ⟨O, rfl, H.out.below (below_drew (Below.refl _ _)), Ext.of_below (below_drew (Below.refl _ _)) O⟩
      · have E : Hid (n.put i b = (0, n.setWay i (n.way i ++ [b]))) := by show _ = _; unfold NtS.put; rw [if_neg (fun h => h hi), if_neg (by rw [ec]; decide), if_neg (by rw [← HM.out]; exact hf)]
        clear ec
        rcases hi with rfl | rfl
        · have c2 : w.cell? ⟨g, 2, none⟩ = some (.slice A m c) := hv
          clear hv
          have hmb : m < 1000 := by omega
          have c29 : ∀ {W : World}, Fr w W (fun k => (Value.slice A m c).ownBlock = some k) → W.cell? ⟨g, 2, none⟩ = some (.slice A m c) := fun hf => by
            obtain ⟨v', hv', _, _, hne⟩ := H.out.ways (i := 0) (by decide)
            obtain rfl := Option.some.inj (hv'.symm.trans c2)
            rw [World.cell?_of_block (hf.block g (World.block_lt_of_cell? w _ c2) (fun e => by rcases hne g e with h2 | h2 <;> first | exact h2 rfl | (revert h2; decide)))]
            exact c2
          go_enter Try.func9, Try.ntmps9
          go_wp2_with (first | (go_at_call 18; refine (one_calls _ _).mono ?_; rintro e w' ⟨rfl, hw⟩; obtain rfl := hw.symm) | fail)
          refine start_ (n := 13) (S := fun w' => w'.cell? ⟨g, 0, none⟩ = some (.int .i64 n.room) ∧ w'.cell? ⟨g, 2, none⟩ = some (.slice A m c)) (ds := []) #[false, false, false, false, false, false, false, false, false, false, false, false, false] (by kernel_rfl) rfl rfl ⟨x0, c2⟩ (fun hHeld => ?_)
          refine pure_ (i := 0) (N := some 17) (v := ?_) (a' := ?_) #[true, false, false, false, false, false, false, false, false, false, false, false, false] rfl rfl (by kernel_rfl) (fun _ _ _ h => h) (Or.inl ⟨by rfl, ?_⟩) ?_ ?_
          rotate_left
          · intro w'
            go_simp
            with_reducible rfl
          rotate_left
          · simp only [Act.put, List.setIfInBounds_toArray, List.set_cons_zero, List.set_cons_succ, i64_w, i32_w]
            rfl
          refine pure_ (i := 1) (N := some 18) (v := ?_) (a' := ?_) #[true, true, false, false, false, false, false, false, false, false, false, false, false] rfl rfl (by kernel_rfl) (fun _ _ _ h => h) (Or.inl ⟨by rfl, ?_⟩) ?_ ?_
          rotate_left
          · intro w'
            go_simp
            with_reducible rfl
          rotate_left
          · simp only [Act.put, List.setIfInBounds_toArray, List.set_cons_zero, List.set_cons_succ, i64_w, i32_w]
            rfl
          refine pure_ (i := 2) (N := some 19) (v := ?_) (a' := ?_) #[true, true, true, false, false, false, false, false, false, false, false, false, false] rfl rfl (by kernel_rfl) (fun _ _ _ h => h) (Or.inl ⟨by rfl, ?_⟩) ?_ ?_
          rotate_left
          · intro w'
            go_simp
            with_reducible rfl
          rotate_left
          · simp only [Act.put, List.setIfInBounds_toArray, List.set_cons_zero, List.set_cons_succ, i64_w, i32_w]
            rfl
          refine pure_ (i := 3) (N := some 20) (v := ?_) (a' := ?_) #[true, true, true, true, false, false, false, false, false, false, false, false, false] rfl rfl (by kernel_rfl) (fun _ _ _ h => h) (Or.inl ⟨by rfl, ?_⟩) ?_ ?_
          rotate_left
          · intro w'
            go_simp
            with_reducible rfl
          rotate_left
          · simp only [Act.put, List.setIfInBounds_toArray, List.set_cons_zero, List.set_cons_succ, i64_w, i32_w]
            rfl
          refine pure_ (i := 4) (N := some 21) (v := ?_) (a' := ?_) #[true, true, true, true, true, false, false, false, false, false, false, false, false] rfl rfl (by kernel_rfl) (fun _ _ _ h => h) (Or.inl ⟨by rfl, ?_⟩) ?_ ?_
          rotate_left
          · intro w'
            go_simp
            with_reducible rfl
          rotate_left
          · simp only [Act.put, List.setIfInBounds_toArray, List.set_cons_zero, List.set_cons_succ, i64_w, i32_w]
            rfl
          refine pure_ (i := 7) (N := some 24) (v := ?_) (a' := ?_) #[true, true, true, true, true, false, false, true, false, false, false, false, false] rfl rfl (by kernel_rfl) (fun _ _ _ h => h) (Or.inl ⟨by rfl, ?_⟩) ?_ ?_
          rotate_left
          · intro w'
            go_simp
            with_reducible rfl
          rotate_left
          · simp only [Act.put, List.setIfInBounds_toArray, List.set_cons_zero, List.set_cons_succ, i64_w, i32_w]
            rfl
          refine pure_ (i := 8) (N := some 25) (v := ?_) (a' := ?_) #[true, true, true, true, true, false, false, true, true, false, false, false, false] rfl rfl (by kernel_rfl) (fun _ _ _ h => h) (Or.inl ⟨by rfl, ?_⟩) ?_ ?_
          rotate_left
          · intro w'
            go_simp
            with_reducible rfl
          rotate_left
          · simp only [Act.put, List.setIfInBounds_toArray, List.set_cons_zero, List.set_cons_succ, i64_w, i32_w]
            rfl
          refine pure_ (i := 9) (N := some 26) (v := ?_) (a' := ?_) #[true, true, true, true, true, false, false, true, true, true, false, false, false] rfl rfl (by kernel_rfl) (fun _ _ _ h => h) (Or.inl ⟨by rfl, ?_⟩) ?_ ?_
          rotate_left
          · intro w'
            go_simp
            with_reducible rfl
          rotate_left
          · simp only [Act.put, List.setIfInBounds_toArray, List.set_cons_zero, List.set_cons_succ, i64_w, i32_w]
            rfl
          refine take_ (i := 5) (N := some 22) (v := ?_) (a' := ?_) #[true, true, true, true, true, true, false, true, true, true, false, false, false] rfl rfl (by kernel_rfl) (fun _ _ _ h => h) (Or.inl ⟨by rfl, ?_⟩) hHeld ?_ ?_
          rotate_left
          · rintro w' ⟨s0, s1⟩
            go_simp
            with_reducible rfl
          rotate_left
          · simp only [Act.put, List.setIfInBounds_toArray, List.set_cons_zero, List.set_cons_succ, i64_w, i32_w]
            rfl
          refine pure_ (i := 6) (N := some 23) (v := ?_) (a' := ?_) #[true, true, true, true, true, true, true, true, true, true, false, false, false] rfl rfl (by kernel_rfl) (fun _ _ _ h => h) (Or.inl ⟨by rfl, ?_⟩) ?_ ?_
          rotate_left
          · intro w'
            go_simp
            with_reducible rfl
          rotate_left
          · simp only [Act.put, List.setIfInBounds_toArray, List.set_cons_zero, List.set_cons_succ, i64_w, i32_w]
            rfl
          refine take_ (i := 10) (N := some 27) (v := ?_) (a' := ?_) #[true, true, true, true, true, true, true, true, true, true, true, false, false] rfl rfl (by kernel_rfl) (fun _ _ _ h => h) (Or.inl ⟨by rfl, ?_⟩) hHeld ?_ ?_
          rotate_left
          · rintro w' ⟨s0, s1⟩
            go_simp
            with_reducible rfl
          rotate_left
          · simp only [Act.put, List.setIfInBounds_toArray, List.set_cons_zero, List.set_cons_succ, i64_w, i32_w]
            rfl
          refine pure_ (i := 11) (N := some 28) (v := ?_) (a' := ?_) #[true, true, true, true, true, true, true, true, true, true, true, true, false] rfl rfl (by kernel_rfl) (fun _ _ _ h => h) (Or.inl ⟨by rfl, ?_⟩) ?_ ?_
          rotate_left
          · intro w'
            go_simp
            with_reducible rfl
          rotate_left
          · simp only [Act.put, List.setIfInBounds_toArray, List.set_cons_zero, List.set_cons_succ, i64_w, i32_w]
            rfl
          refine pure_ (i := 12) (N := some 16) (v := ?_) (a' := ?_) #[true, true, true, true, true, true, true, true, true, true, true, true, true] rfl rfl (by kernel_rfl) (fun _ _ _ h => h) (Or.inl ⟨by rfl, ?_⟩) ?_ ?_
          rotate_left
          · intro w'
            go_simp
            with_reducible rfl
          rotate_left
          · simp only [Act.put, List.setIfInBounds_toArray, List.set_cons_zero, List.set_cons_succ, i64_w, i32_w]
            rfl
          refine done_ (by kernel_rfl) ?_
          go_wp2_with fail
          refine start_ (n := 16) (S := fun w' => w'.cell? ⟨g, 2, none⟩ = some (.slice A m c)) (ds := [15]) #[false, false, false, false, false, false, false, false, false, false, false, false, false, false, false, false] (by kernel_rfl) rfl rfl c2 (fun hHeld => ?_)
          obtain ⟨W2, hW2⟩ : ∃ W2, w.drew.drew = W2 := ⟨_, rfl⟩
          have hbw : Below w.heap.size w W2 := by rw [← hW2]; exact below_drew (below_drew (Below.refl _ _))
          rw [hW2] at hHeld ⊢
          clear hW2
          refine pure_ (i := 0) (N := some 29) (v := ?_) (a' := ?_) #[true, false, false, false, false, false, false, false, false, false, false, false, false, false, false, false] rfl rfl (by kernel_rfl) (fun _ _ _ h => h) (Or.inl ⟨by rfl, ?_⟩) ?_ ?_
          rotate_left
          · intro w'
            go_simp
            with_reducible rfl
          rotate_left
          · simp only [Act.put, List.setIfInBounds_toArray, List.set_cons_zero, List.set_cons_succ, i64_w, i32_w]
            rfl
          refine pure_ (i := 1) (N := some 30) (v := ?_) (a' := ?_) #[true, true, false, false, false, false, false, false, false, false, false, false, false, false, false, false] rfl rfl (by kernel_rfl) (fun _ _ _ h => h) (Or.inl ⟨by rfl, ?_⟩) ?_ ?_
          rotate_left
          · intro w'
            go_simp
            with_reducible rfl
          rotate_left
          · simp only [Act.put, List.setIfInBounds_toArray, List.set_cons_zero, List.set_cons_succ, i64_w, i32_w]
            rfl
          refine pure_ (i := 2) (N := some 31) (v := ?_) (a' := ?_) #[true, true, true, false, false, false, false, false, false, false, false, false, false, false, false, false] rfl rfl (by kernel_rfl) (fun _ _ _ h => h) (Or.inl ⟨by rfl, ?_⟩) ?_ ?_
          rotate_left
          · intro w'
            go_simp
            with_reducible rfl
          rotate_left
          · simp only [Act.put, List.setIfInBounds_toArray, List.set_cons_zero, List.set_cons_succ, i64_w, i32_w]
            rfl
          refine pure_ (i := 3) (N := some 32) (v := ?_) (a' := ?_) #[true, true, true, true, false, false, false, false, false, false, false, false, false, false, false, false] rfl rfl (by kernel_rfl) (fun _ _ _ h => h) (Or.inl ⟨by rfl, ?_⟩) ?_ ?_
          rotate_left
          · intro w'
            go_simp
            with_reducible rfl
          rotate_left
          · simp only [Act.put, List.setIfInBounds_toArray, List.set_cons_zero, List.set_cons_succ, i64_w, i32_w]
            rfl
          refine pure_ (i := 4) (N := some 33) (v := ?_) (a' := ?_) #[true, true, true, true, true, false, false, false, false, false, false, false, false, false, false, false] rfl rfl (by kernel_rfl) (fun _ _ _ h => h) (Or.inl ⟨by rfl, ?_⟩) ?_ ?_
          rotate_left
          · intro w'
            go_simp
            with_reducible rfl
          rotate_left
          · simp only [Act.put, List.setIfInBounds_toArray, List.set_cons_zero, List.set_cons_succ, i64_w, i32_w]
            rfl
          refine pure_ (i := 5) (N := some 34) (v := ?_) (a' := ?_) #[true, true, true, true, true, true, false, false, false, false, false, false, false, false, false, false] rfl rfl (by kernel_rfl) (fun _ _ _ h => h) (Or.inl ⟨by rfl, ?_⟩) ?_ ?_
          rotate_left
          · intro w'
            go_simp
            with_reducible rfl
          rotate_left
          · simp only [Act.put, List.setIfInBounds_toArray, List.set_cons_zero, List.set_cons_succ, i64_w, i32_w]
            rfl
          refine pure_ (i := 6) (N := some 35) (v := ?_) (a' := ?_) #[true, true, true, true, true, true, true, false, false, false, false, false, false, false, false, false] rfl rfl (by kernel_rfl) (fun _ _ _ h => h) (Or.inl ⟨by rfl, ?_⟩) ?_ ?_
          rotate_left
          · intro w'
            go_simp
            with_reducible rfl
          rotate_left
          · simp only [Act.put, List.setIfInBounds_toArray, List.set_cons_zero, List.set_cons_succ, i64_w, i32_w]
            rfl
          refine pure_ (i := 8) (N := some 37) (v := ?_) (a' := ?_) #[true, true, true, true, true, true, true, false, true, false, false, false, false, false, false, false] rfl rfl (by kernel_rfl) (fun _ _ _ h => h) (Or.inl ⟨by rfl, ?_⟩) ?_ ?_
          rotate_left
          · intro w'
            go_simp
            with_reducible rfl
          rotate_left
          · simp only [Act.put, List.setIfInBounds_toArray, List.set_cons_zero, List.set_cons_succ, i64_w, i32_w]
            rfl
          refine pure_ (i := 12) (N := some 41) (v := ?_) (a' := ?_) #[true, true, true, true, true, true, true, false, true, false, false, false, true, false, false, false] rfl rfl (by kernel_rfl) (fun _ _ _ h => h) (Or.inl ⟨by rfl, ?_⟩) ?_ ?_
          rotate_left
          · intro w'
            go_simp
            with_reducible rfl
          rotate_left
          · simp only [Act.put, List.setIfInBounds_toArray, List.set_cons_zero, List.set_cons_succ, i64_w, i32_w]
            rfl
          refine pure_ (i := 13) (N := some 42) (v := ?_) (a' := ?_) #[true, true, true, true, true, true, true, false, true, false, false, false, true, true, false, false] rfl rfl (by kernel_rfl) (fun _ _ _ h => h) (Or.inl ⟨by rfl, ?_⟩) ?_ ?_
          rotate_left
          · intro w'
            go_simp
            with_reducible rfl
          rotate_left
          · simp only [Act.put, List.setIfInBounds_toArray, List.set_cons_zero, List.set_cons_succ, i64_w, i32_w]
            rfl
          refine take_ (i := 7) (N := some 36) (v := ?_) (a' := ?_) #[true, true, true, true, true, true, true, true, true, false, false, false, true, true, false, false] rfl rfl (by kernel_rfl) (fun _ _ _ h => h) (Or.inl ⟨by rfl, ?_⟩) hHeld ?_ ?_
          rotate_left
          · rintro w' s0
            go_simp
            with_reducible rfl
          rotate_left
          · simp only [Act.put, List.setIfInBounds_toArray, List.set_cons_zero, List.set_cons_succ, i64_w, i32_w]
            rfl
          refine one_ (i := 9) (N := some 38) #[true, true, true, true, true, true, true, true, true, true, false, false, true, true, false, false] rfl rfl (by kernel_rfl) (by decide) (fun K hK => ?_)
          refine goes_ Try.func19 (by kernel_rfl) rfl #[.slice B b.length cb] (by rfl) rfl rfl (by (try simp only [List.map_toArray, List.map_cons, List.map_nil]); rfl) ?_
          refine (clone_calls B cb b W2 (Kd.C_below HBB.out hbw) HCB.out (by have := HBL.out; omega)).mono ?_
          rintro e w3 ⟨v3, rfl, ho3, hb3⟩
          obtain ⟨A3, c3, m3, rfl, HM3⟩ := R_slice_n ho3
          have HW := Lib.hid (hbw.trans (hb3.mono hbw.size))
          have HO3 := Lib.hid ho3
          have HBW := Lib.hid hbw
          clear ho3 hb3 hbw
          refine ⟨_, rfl, ?_⟩
          clear hHeld
          refine hK.out _ _ (pw_cell_below HW.out c2) (fun hHeld => ?_)
          clear hK K
          try (refine norm_ (a' := ?_) ?_ ?_; rotate_left; focus (simp only [Act.put, List.setIfInBounds_toArray, List.set_cons_zero, List.set_cons_succ, i64_w, i32_w]; rfl))
          refine one_ (i := 10) (N := some 39) #[true, true, true, true, true, true, true, true, true, true, true, false, true, true, false, false] rfl rfl (by kernel_rfl) (by decide) (fun K hK => ?_)
          go_simp
          clear hHeld
          refine hK.out _ _ (pw_cell_below (below_alloc HW.out _) c2) (fun hHeld => ?_)
          clear hK K
          try (refine norm_ (a' := ?_) ?_ ?_; rotate_left; focus (simp only [Act.put, List.setIfInBounds_toArray, List.set_cons_zero, List.set_cons_succ, i64_w, i32_w]; rfl))
          refine one_ (i := 11) (N := some 40) #[true, true, true, true, true, true, true, true, true, true, true, true, true, true, false, false] rfl rfl (by kernel_rfl) (by decide) (fun K hK => ?_)
          refine Kd.R_append_step (Kd.slice 5 (Kd.int .u8)) (w0 := w3) (W := w3) 0 (by rfl) (.tmp 36) (.tmp 39) 46 28 (.slice none 0 0) 24 rfl Try.underlying46 info_sl rfl (by decide) (by omega) (.slice A m c) (n.way 0) b [.slice A3 m3 c3] (fun _ => True) (fun k => some k ≠ (Value.slice A m c).ownBlock) rfl rfl ⟨_, rfl, Kd.R_lower (Kd.R_mono (Kd.R_bound HO3.out) (fun k hk e => by have := HLT.out k e.symm; have := hk.2.1; have := HBW.out.size; omega)) (Nat.zero_le _)⟩ (fun k hk => ⟨trivial, hk⟩) (fun _ _ => trivial) (Kd.R_below HR.out HW.out) (Below.refl 0 _) (Nat.zero_le _) (by rw [← HM.out]; omega) ?_
          intro v9 w9 ho9 hb9 hg9 hat9
          obtain ⟨A9, c9, m9, rfl, HM9⟩ := R_slice_n ho9
          have F9 := Lib.hid ((Fr.of_below HW.out (fun k => (Value.slice A m c).ownBlock = some k)).then_ (fr_grown hg9) (fun i hi => .inl hi.symm))
          have HAT := Lib.hid hat9
          have HO9 := Lib.hid ho9
          have fz := H.out.frozen (by decide) (i := 0) (by decide) c2 F9.out 2
          clear ho9 hb9 hg9 hat9 hHeld
          refine hK.out _ _ (c29 F9.out) (fun hHeld => ?_)
          clear hK K
          try (refine norm_ (a' := ?_) ?_ ?_; rotate_left; focus (simp only [Act.put, List.setIfInBounds_toArray, List.set_cons_zero, List.set_cons_succ, i64_w, i32_w]; rfl))
          refine pure_ (i := 14) (N := some 43) (v := ?_) (a' := ?_) #[true, true, true, true, true, true, true, true, true, true, true, true, true, true, true, false] rfl rfl (by kernel_rfl) (fun _ _ _ h => h) (Or.inl ⟨by rfl, ?_⟩) ?_ ?_
          rotate_left
          · intro w'
            go_simp
            with_reducible rfl
          rotate_left
          · simp only [Act.put, List.setIfInBounds_toArray, List.set_cons_zero, List.set_cons_succ, i64_w, i32_w]
            rfl
          refine last_ (i := 15) (N := none) #[true, true, true, true, true, true, true, true, true, true, true, true, true, true, true, true] rfl rfl (by kernel_rfl) (by decide) (fun K hK => ?_)
          go_simp
          clear hHeld
          refine hK.out _ _ ?_
          clear hK K
          try (refine norm_ (a' := ?_) ?_ ?_; rotate_left; focus (simp only [Act.put, List.setIfInBounds_toArray, List.set_cons_zero, List.set_cons_succ, i64_w, i32_w]; rfl))
          refine done_ (by kernel_rfl) ?_
          have HATF : ∀ k, (Value.slice A9 m9 c9).ownBlock = some k → (Value.slice A m c).ownBlock = some k ∨ w.heap.size ≤ k := fun k hk => by
            rcases HAT.out with e | ⟨b9, e, hl⟩
            · rw [e] at hk; exact .inl hk
            · rw [e] at hk; cases hk; exact .inr (Nat.le_trans HW.out.size hl)
          go_wp2_with fail
          go_ret
          rw [E.out]
          obtain ⟨O', hN, hE⟩ := H.out.stored (by decide) (by decide) (by decide) (i := 0) (by decide) c2 F9.out HO9.out (fun k hk => HATF k hk)
          exact ⟨O', rfl, hN, hE⟩
        · have c2 : w.cell? ⟨g, 3, none⟩ = some (.slice A m c) := hv
          clear hv
          have hmb : m < 1000 := by omega
          have c29 : ∀ {W : World}, Fr w W (fun k => (Value.slice A m c).ownBlock = some k) → W.cell? ⟨g, 3, none⟩ = some (.slice A m c) := fun hf => by
            obtain ⟨v', hv', _, _, hne⟩ := H.out.ways (i := 1) (by decide)
            obtain rfl := Option.some.inj (hv'.symm.trans c2)
            rw [World.cell?_of_block (hf.block g (World.block_lt_of_cell? w _ c2) (fun e => by rcases hne g e with h2 | h2 <;> first | exact h2 rfl | (revert h2; decide)))]
            exact c2
          go_enter Try.func9, Try.ntmps9
          go_wp2_with (first | (go_at_call 18; refine (one_calls _ _).mono ?_; rintro e w' ⟨rfl, hw⟩; obtain rfl := hw.symm) | fail)
          refine start_ (n := 13) (S := fun w' => w'.cell? ⟨g, 0, none⟩ = some (.int .i64 n.room) ∧ w'.cell? ⟨g, 3, none⟩ = some (.slice A m c)) (ds := []) #[false, false, false, false, false, false, false, false, false, false, false, false, false] (by kernel_rfl) rfl rfl ⟨x0, c2⟩ (fun hHeld => ?_)
          refine pure_ (i := 0) (N := some 17) (v := ?_) (a' := ?_) #[true, false, false, false, false, false, false, false, false, false, false, false, false] rfl rfl (by kernel_rfl) (fun _ _ _ h => h) (Or.inl ⟨by rfl, ?_⟩) ?_ ?_
          rotate_left
          · intro w'
            go_simp
            with_reducible rfl
          rotate_left
          · simp only [Act.put, List.setIfInBounds_toArray, List.set_cons_zero, List.set_cons_succ, i64_w, i32_w]
            rfl
          refine pure_ (i := 1) (N := some 18) (v := ?_) (a' := ?_) #[true, true, false, false, false, false, false, false, false, false, false, false, false] rfl rfl (by kernel_rfl) (fun _ _ _ h => h) (Or.inl ⟨by rfl, ?_⟩) ?_ ?_
          rotate_left
          · intro w'
            go_simp
            with_reducible rfl
          rotate_left
          · simp only [Act.put, List.setIfInBounds_toArray, List.set_cons_zero, List.set_cons_succ, i64_w, i32_w]
            rfl
          refine pure_ (i := 2) (N := some 19) (v := ?_) (a' := ?_) #[true, true, true, false, false, false, false, false, false, false, false, false, false] rfl rfl (by kernel_rfl) (fun _ _ _ h => h) (Or.inl ⟨by rfl, ?_⟩) ?_ ?_
          rotate_left
          · intro w'
            go_simp
            with_reducible rfl
          rotate_left
          · simp only [Act.put, List.setIfInBounds_toArray, List.set_cons_zero, List.set_cons_succ, i64_w, i32_w]
            rfl
          refine pure_ (i := 3) (N := some 20) (v := ?_) (a' := ?_) #[true, true, true, true, false, false, false, false, false, false, false, false, false] rfl rfl (by kernel_rfl) (fun _ _ _ h => h) (Or.inl ⟨by rfl, ?_⟩) ?_ ?_
          rotate_left
          · intro w'
            go_simp
            with_reducible rfl
          rotate_left
          · simp only [Act.put, List.setIfInBounds_toArray, List.set_cons_zero, List.set_cons_succ, i64_w, i32_w]
            rfl
          refine pure_ (i := 4) (N := some 21) (v := ?_) (a' := ?_) #[true, true, true, true, true, false, false, false, false, false, false, false, false] rfl rfl (by kernel_rfl) (fun _ _ _ h => h) (Or.inl ⟨by rfl, ?_⟩) ?_ ?_
          rotate_left
          · intro w'
            go_simp
            with_reducible rfl
          rotate_left
          · simp only [Act.put, List.setIfInBounds_toArray, List.set_cons_zero, List.set_cons_succ, i64_w, i32_w]
            rfl
          refine pure_ (i := 7) (N := some 24) (v := ?_) (a' := ?_) #[true, true, true, true, true, false, false, true, false, false, false, false, false] rfl rfl (by kernel_rfl) (fun _ _ _ h => h) (Or.inl ⟨by rfl, ?_⟩) ?_ ?_
          rotate_left
          · intro w'
            go_simp
            with_reducible rfl
          rotate_left
          · simp only [Act.put, List.setIfInBounds_toArray, List.set_cons_zero, List.set_cons_succ, i64_w, i32_w]
            rfl
          refine pure_ (i := 8) (N := some 25) (v := ?_) (a' := ?_) #[true, true, true, true, true, false, false, true, true, false, false, false, false] rfl rfl (by kernel_rfl) (fun _ _ _ h => h) (Or.inl ⟨by rfl, ?_⟩) ?_ ?_
          rotate_left
          · intro w'
            go_simp
            with_reducible rfl
          rotate_left
          · simp only [Act.put, List.setIfInBounds_toArray, List.set_cons_zero, List.set_cons_succ, i64_w, i32_w]
            rfl
          refine pure_ (i := 9) (N := some 26) (v := ?_) (a' := ?_) #[true, true, true, true, true, false, false, true, true, true, false, false, false] rfl rfl (by kernel_rfl) (fun _ _ _ h => h) (Or.inl ⟨by rfl, ?_⟩) ?_ ?_
          rotate_left
          · intro w'
            go_simp
            with_reducible rfl
          rotate_left
          · simp only [Act.put, List.setIfInBounds_toArray, List.set_cons_zero, List.set_cons_succ, i64_w, i32_w]
            rfl
          refine take_ (i := 5) (N := some 22) (v := ?_) (a' := ?_) #[true, true, true, true, true, true, false, true, true, true, false, false, false] rfl rfl (by kernel_rfl) (fun _ _ _ h => h) (Or.inl ⟨by rfl, ?_⟩) hHeld ?_ ?_
          rotate_left
          · rintro w' ⟨s0, s1⟩
            go_simp
            with_reducible rfl
          rotate_left
          · simp only [Act.put, List.setIfInBounds_toArray, List.set_cons_zero, List.set_cons_succ, i64_w, i32_w]
            rfl
          refine pure_ (i := 6) (N := some 23) (v := ?_) (a' := ?_) #[true, true, true, true, true, true, true, true, true, true, false, false, false] rfl rfl (by kernel_rfl) (fun _ _ _ h => h) (Or.inl ⟨by rfl, ?_⟩) ?_ ?_
          rotate_left
          · intro w'
            go_simp
            with_reducible rfl
          rotate_left
          · simp only [Act.put, List.setIfInBounds_toArray, List.set_cons_zero, List.set_cons_succ, i64_w, i32_w]
            rfl
          refine take_ (i := 10) (N := some 27) (v := ?_) (a' := ?_) #[true, true, true, true, true, true, true, true, true, true, true, false, false] rfl rfl (by kernel_rfl) (fun _ _ _ h => h) (Or.inl ⟨by rfl, ?_⟩) hHeld ?_ ?_
          rotate_left
          · rintro w' ⟨s0, s1⟩
            go_simp
            with_reducible rfl
          rotate_left
          · simp only [Act.put, List.setIfInBounds_toArray, List.set_cons_zero, List.set_cons_succ, i64_w, i32_w]
            rfl
          refine pure_ (i := 11) (N := some 28) (v := ?_) (a' := ?_) #[true, true, true, true, true, true, true, true, true, true, true, true, false] rfl rfl (by kernel_rfl) (fun _ _ _ h => h) (Or.inl ⟨by rfl, ?_⟩) ?_ ?_
          rotate_left
          · intro w'
            go_simp
            with_reducible rfl
          rotate_left
          · simp only [Act.put, List.setIfInBounds_toArray, List.set_cons_zero, List.set_cons_succ, i64_w, i32_w]
            rfl
          refine pure_ (i := 12) (N := some 16) (v := ?_) (a' := ?_) #[true, true, true, true, true, true, true, true, true, true, true, true, true] rfl rfl (by kernel_rfl) (fun _ _ _ h => h) (Or.inl ⟨by rfl, ?_⟩) ?_ ?_
          rotate_left
          · intro w'
            go_simp
            with_reducible rfl
          rotate_left
          · simp only [Act.put, List.setIfInBounds_toArray, List.set_cons_zero, List.set_cons_succ, i64_w, i32_w]
            rfl
          refine done_ (by kernel_rfl) ?_
          go_wp2_with fail
          refine start_ (n := 16) (S := fun w' => w'.cell? ⟨g, 3, none⟩ = some (.slice A m c)) (ds := [15]) #[false, false, false, false, false, false, false, false, false, false, false, false, false, false, false, false] (by kernel_rfl) rfl rfl c2 (fun hHeld => ?_)
          obtain ⟨W2, hW2⟩ : ∃ W2, w.drew.drew = W2 := ⟨_, rfl⟩
          have hbw : Below w.heap.size w W2 := by rw [← hW2]; exact below_drew (below_drew (Below.refl _ _))
          rw [hW2] at hHeld ⊢
          clear hW2
          refine pure_ (i := 0) (N := some 29) (v := ?_) (a' := ?_) #[true, false, false, false, false, false, false, false, false, false, false, false, false, false, false, false] rfl rfl (by kernel_rfl) (fun _ _ _ h => h) (Or.inl ⟨by rfl, ?_⟩) ?_ ?_
          rotate_left
          · intro w'
            go_simp
            with_reducible rfl
          rotate_left
          · simp only [Act.put, List.setIfInBounds_toArray, List.set_cons_zero, List.set_cons_succ, i64_w, i32_w]
            rfl
          refine pure_ (i := 1) (N := some 30) (v := ?_) (a' := ?_) #[true, true, false, false, false, false, false, false, false, false, false, false, false, false, false, false] rfl rfl (by kernel_rfl) (fun _ _ _ h => h) (Or.inl ⟨by rfl, ?_⟩) ?_ ?_
          rotate_left
          · intro w'
            go_simp
            with_reducible rfl
          rotate_left
          · simp only [Act.put, List.setIfInBounds_toArray, List.set_cons_zero, List.set_cons_succ, i64_w, i32_w]
            rfl
          refine pure_ (i := 2) (N := some 31) (v := ?_) (a' := ?_) #[true, true, true, false, false, false, false, false, false, false, false, false, false, false, false, false] rfl rfl (by kernel_rfl) (fun _ _ _ h => h) (Or.inl ⟨by rfl, ?_⟩) ?_ ?_
          rotate_left
          · intro w'
            go_simp
            with_reducible rfl
          rotate_left
          · simp only [Act.put, List.setIfInBounds_toArray, List.set_cons_zero, List.set_cons_succ, i64_w, i32_w]
            rfl
          refine pure_ (i := 3) (N := some 32) (v := ?_) (a' := ?_) #[true, true, true, true, false, false, false, false, false, false, false, false, false, false, false, false] rfl rfl (by kernel_rfl) (fun _ _ _ h => h) (Or.inl ⟨by rfl, ?_⟩) ?_ ?_
          rotate_left
          · intro w'
            go_simp
            with_reducible rfl
          rotate_left
          · simp only [Act.put, List.setIfInBounds_toArray, List.set_cons_zero, List.set_cons_succ, i64_w, i32_w]
            rfl
          refine pure_ (i := 4) (N := some 33) (v := ?_) (a' := ?_) #[true, true, true, true, true, false, false, false, false, false, false, false, false, false, false, false] rfl rfl (by kernel_rfl) (fun _ _ _ h => h) (Or.inl ⟨by rfl, ?_⟩) ?_ ?_
          rotate_left
          · intro w'
            go_simp
            with_reducible rfl
          rotate_left
          · simp only [Act.put, List.setIfInBounds_toArray, List.set_cons_zero, List.set_cons_succ, i64_w, i32_w]
            rfl
          refine pure_ (i := 5) (N := some 34) (v := ?_) (a' := ?_) #[true, true, true, true, true, true, false, false, false, false, false, false, false, false, false, false] rfl rfl (by kernel_rfl) (fun _ _ _ h => h) (Or.inl ⟨by rfl, ?_⟩) ?_ ?_
          rotate_left
          · intro w'
            go_simp
            with_reducible rfl
          rotate_left
          · simp only [Act.put, List.setIfInBounds_toArray, List.set_cons_zero, List.set_cons_succ, i64_w, i32_w]
            rfl
          refine pure_ (i := 6) (N := some 35) (v := ?_) (a' := ?_) #[true, true, true, true, true, true, true, false, false, false, false, false, false, false, false, false] rfl rfl (by kernel_rfl) (fun _ _ _ h => h) (Or.inl ⟨by rfl, ?_⟩) ?_ ?_
          rotate_left
          · intro w'
            go_simp
            with_reducible rfl
          rotate_left
          · simp only [Act.put, List.setIfInBounds_toArray, List.set_cons_zero, List.set_cons_succ, i64_w, i32_w]
            rfl
          refine pure_ (i := 8) (N := some 37) (v := ?_) (a' := ?_) #[true, true, true, true, true, true, true, false, true, false, false, false, false, false, false, false] rfl rfl (by kernel_rfl) (fun _ _ _ h => h) (Or.inl ⟨by rfl, ?_⟩) ?_ ?_
          rotate_left
          · intro w'
            go_simp
            with_reducible rfl
          rotate_left
          · simp only [Act.put, List.setIfInBounds_toArray, List.set_cons_zero, List.set_cons_succ, i64_w, i32_w]
            rfl
          refine pure_ (i := 12) (N := some 41) (v := ?_) (a' := ?_) #[true, true, true, true, true, true, true, false, true, false, false, false, true, false, false, false] rfl rfl (by kernel_rfl) (fun _ _ _ h => h) (Or.inl ⟨by rfl, ?_⟩) ?_ ?_
          rotate_left
          · intro w'
            go_simp
            with_reducible rfl
          rotate_left
          · simp only [Act.put, List.setIfInBounds_toArray, List.set_cons_zero, List.set_cons_succ, i64_w, i32_w]
            rfl
          refine pure_ (i := 13) (N := some 42) (v := ?_) (a' := ?_) #[true, true, true, true, true, true, true, false, true, false, false, false, true, true, false, false] rfl rfl (by kernel_rfl) (fun _ _ _ h => h) (Or.inl ⟨by rfl, ?_⟩) ?_ ?_
          rotate_left
          · intro w'
            go_simp
            with_reducible rfl
          rotate_left
          · simp only [Act.put, List.setIfInBounds_toArray, List.set_cons_zero, List.set_cons_succ, i64_w, i32_w]
            rfl
          refine take_ (i := 7) (N := some 36) (v := ?_) (a' := ?_) #[true, true, true, true, true, true, true, true, true, false, false, false, true, true, false, false] rfl rfl (by kernel_rfl) (fun _ _ _ h => h) (Or.inl ⟨by rfl, ?_⟩) hHeld ?_ ?_
          rotate_left
          · rintro w' s0
            go_simp
            with_reducible rfl
          rotate_left
          · simp only [Act.put, List.setIfInBounds_toArray, List.set_cons_zero, List.set_cons_succ, i64_w, i32_w]
            rfl
          refine one_ (i := 9) (N := some 38) #[true, true, true, true, true, true, true, true, true, true, false, false, true, true, false, false] rfl rfl (by kernel_rfl) (by decide) (fun K hK => ?_)
          refine goes_ Try.func19 (by kernel_rfl) rfl #[.slice B b.length cb] (by rfl) rfl rfl (by (try simp only [List.map_toArray, List.map_cons, List.map_nil]); rfl) ?_
          refine (clone_calls B cb b W2 (Kd.C_below HBB.out hbw) HCB.out (by have := HBL.out; omega)).mono ?_
          rintro e w3 ⟨v3, rfl, ho3, hb3⟩
          obtain ⟨A3, c3, m3, rfl, HM3⟩ := R_slice_n ho3
          have HW := Lib.hid (hbw.trans (hb3.mono hbw.size))
          have HO3 := Lib.hid ho3
          have HBW := Lib.hid hbw
          clear ho3 hb3 hbw
          refine ⟨_, rfl, ?_⟩
          clear hHeld
          refine hK.out _ _ (pw_cell_below HW.out c2) (fun hHeld => ?_)
          clear hK K
          try (refine norm_ (a' := ?_) ?_ ?_; rotate_left; focus (simp only [Act.put, List.setIfInBounds_toArray, List.set_cons_zero, List.set_cons_succ, i64_w, i32_w]; rfl))
          refine one_ (i := 10) (N := some 39) #[true, true, true, true, true, true, true, true, true, true, true, false, true, true, false, false] rfl rfl (by kernel_rfl) (by decide) (fun K hK => ?_)
          go_simp
          clear hHeld
          refine hK.out _ _ (pw_cell_below (below_alloc HW.out _) c2) (fun hHeld => ?_)
          clear hK K
          try (refine norm_ (a' := ?_) ?_ ?_; rotate_left; focus (simp only [Act.put, List.setIfInBounds_toArray, List.set_cons_zero, List.set_cons_succ, i64_w, i32_w]; rfl))
          refine one_ (i := 11) (N := some 40) #[true, true, true, true, true, true, true, true, true, true, true, true, true, true, false, false] rfl rfl (by kernel_rfl) (by decide) (fun K hK => ?_)
          refine Kd.R_append_step (Kd.slice 5 (Kd.int .u8)) (w0 := w3) (W := w3) 0 (by rfl) (.tmp 36) (.tmp 39) 46 28 (.slice none 0 0) 24 rfl Try.underlying46 info_sl rfl (by decide) (by omega) (.slice A m c) (n.way 1) b [.slice A3 m3 c3] (fun _ => True) (fun k => some k ≠ (Value.slice A m c).ownBlock) rfl rfl ⟨_, rfl, Kd.R_lower (Kd.R_mono (Kd.R_bound HO3.out) (fun k hk e => by have := HLT.out k e.symm; have := hk.2.1; have := HBW.out.size; omega)) (Nat.zero_le _)⟩ (fun k hk => ⟨trivial, hk⟩) (fun _ _ => trivial) (Kd.R_below HR.out HW.out) (Below.refl 0 _) (Nat.zero_le _) (by rw [← HM.out]; omega) ?_
          intro v9 w9 ho9 hb9 hg9 hat9
          obtain ⟨A9, c9, m9, rfl, HM9⟩ := R_slice_n ho9
          have F9 := Lib.hid ((Fr.of_below HW.out (fun k => (Value.slice A m c).ownBlock = some k)).then_ (fr_grown hg9) (fun i hi => .inl hi.symm))
          have HAT := Lib.hid hat9
          have HO9 := Lib.hid ho9
          have fz := H.out.frozen (by decide) (i := 1) (by decide) c2 F9.out 3
          clear ho9 hb9 hg9 hat9 hHeld
          refine hK.out _ _ (c29 F9.out) (fun hHeld => ?_)
          clear hK K
          try (refine norm_ (a' := ?_) ?_ ?_; rotate_left; focus (simp only [Act.put, List.setIfInBounds_toArray, List.set_cons_zero, List.set_cons_succ, i64_w, i32_w]; rfl))
          refine pure_ (i := 14) (N := some 43) (v := ?_) (a' := ?_) #[true, true, true, true, true, true, true, true, true, true, true, true, true, true, true, false] rfl rfl (by kernel_rfl) (fun _ _ _ h => h) (Or.inl ⟨by rfl, ?_⟩) ?_ ?_
          rotate_left
          · intro w'
            go_simp
            with_reducible rfl
          rotate_left
          · simp only [Act.put, List.setIfInBounds_toArray, List.set_cons_zero, List.set_cons_succ, i64_w, i32_w]
            rfl
          refine last_ (i := 15) (N := none) #[true, true, true, true, true, true, true, true, true, true, true, true, true, true, true, true] rfl rfl (by kernel_rfl) (by decide) (fun K hK => ?_)
          go_simp
          clear hHeld
          refine hK.out _ _ ?_
          clear hK K
          try (refine norm_ (a' := ?_) ?_ ?_; rotate_left; focus (simp only [Act.put, List.setIfInBounds_toArray, List.set_cons_zero, List.set_cons_succ, i64_w, i32_w]; rfl))
          refine done_ (by kernel_rfl) ?_
          have HATF : ∀ k, (Value.slice A9 m9 c9).ownBlock = some k → (Value.slice A m c).ownBlock = some k ∨ w.heap.size ≤ k := fun k hk => by
            rcases HAT.out with e | ⟨b9, e, hl⟩
            · rw [e] at hk; exact .inl hk
            · rw [e] at hk; cases hk; exact .inr (Nat.le_trans HW.out.size hl)
          go_wp2_with fail
          go_ret
          rw [E.out]
          obtain ⟨O', hN, hE⟩ := H.out.stored (by decide) (by decide) (by decide) (i := 1) (by decide) c2 F9.out HO9.out (fun k hk => HATF k hk)
          exact ⟨O', rfl, hN, hE⟩
  · have q : decide (NtS.one i) = false := decide_eq_false hi
    have E : Hid (n.put i b = (1, n)) := by show _ = _; unfold NtS.put; rw [if_pos hi]
    clear hi ol
    go_enter Try.func9, Try.ntmps9
    go_wp2_with (first | (go_at_call 18; refine (one_calls _ _).mono ?_; rintro e w' ⟨rfl, hw⟩; obtain rfl := hw.symm) | fail)
    go_ret
    rw [E.out]
    first | exact ⟨O, rfl, H.out, Ext.refl _ _⟩ | exact ⟨rfl, O, H.out, Ext.refl _ _⟩

set_option maxHeartbeats 4000000 in
set_option maxRecDepth 100000 in
theorem ref_Put (g : Nat) (O : Nat → Prop) (n : NtS) (i : Int) (B : Option Addr) (cb : Nat) (b : List Int) (w : World) (h : RN w g O n) (hok : n.ok) (hB : (Kd.int .u8).C w B b.length b) (hcb : b.length ≤ cb) (hbl : b.length < 1099511627776) :
    Calls Try.prog 25 #[.pointer (some ⟨g, 0, none⟩), .int .i64 i, .slice B b.length cb] w fun e w' => ∃ O', e = .returned (.int .i64 (n.put i b).1) ∧ RN w' g O' (n.put i b).2 ∧ Ext w w' O O' := by
  have HBB := Lib.hid hB
  have HCB := Lib.hid hcb
  have HBL := Lib.hid hbl
  have H := Lib.hid h
  have x0 : w.cell? ⟨g, 0, none⟩ = some (.int .i64 n.room) := h.cells.1
  have x1 : w.cell? ⟨g, 1, none⟩ = some (.bool n.cut) := h.cells.2
  have ol := NtS.ok_way hok i
  have hroom := hok.2.1
  clear hB hcb hbl hok
  by_cases hi : NtS.one i
  · have q : decide (NtS.one i) = true := decide_eq_true hi
    cases ec : n.cut with
    | true =>
      rw [ec] at x1
      have E : Hid (n.put i b = (7, n)) := by show _ = _; unfold NtS.put; rw [if_neg (fun h => h hi), if_pos ec]
      clear ec h ol
      rcases hi with rfl | rfl
      all_goals
        go_enter Try.func25, Try.ntmps25
        go_wp2_with fail
        go_ret
        rw [E.out]
        first | exact ⟨O, rfl, H.out, Ext.refl _ _⟩ | exact ⟨rfl, O, H.out, Ext.refl _ _⟩
    | false =>
      rw [ec] at x1
      obtain ⟨v, hv, hr, _, _⟩ := h.ways hi
      obtain ⟨A, c, rfl⟩ := Kd.R_slice hr
      obtain ⟨m, hm⟩ : ∃ m, m = (n.way i).length := ⟨_, rfl⟩
      rw [← hm] at hv hr ol
      have HR := Lib.hid hr
      have HM := Lib.hid hm
      have HV := Lib.hid hv
      have hlt := Kd.R_lt hr
      have HLT := Lib.hid hlt
      obtain ⟨ol1, ol2⟩ := ol
      clear hr h ol2 hlt hm
      by_cases hf : n.room ≤ (m : Int)
      · have E : Hid (n.put i b = (3, n)) := by show _ = _; unfold NtS.put; rw [if_neg (fun h => h hi), if_neg (by rw [ec]; decide), if_pos (by rw [← HM.out]; exact hf)]
        clear ec
        rcases hi with rfl | rfl
        · have c2 : w.cell? ⟨g, 2, none⟩ = some (.slice A m c) := hv
          clear hv
          go_enter Try.func25, Try.ntmps25
          go_wp2_with fail
          refine start_ (n := 12) (S := fun w' => w'.cell? ⟨g, 0, none⟩ = some (.int .i64 n.room) ∧ w'.cell? ⟨g, 2, none⟩ = some (.slice A m c)) (ds := []) #[false, false, false, false, false, false, false, false, false, false, false, false] (by kernel_rfl) rfl rfl ⟨x0, c2⟩ (fun hHeld => ?_)
          refine pure_ (i := 0) (N := some 17) (v := ?_) (a' := ?_) #[true, false, false, false, false, false, false, false, false, false, false, false] rfl rfl (by kernel_rfl) (fun _ _ _ h => h) (Or.inl ⟨by rfl, ?_⟩) ?_ ?_
          rotate_left
          · intro w'
            go_simp
            with_reducible rfl
          rotate_left
          · simp only [Act.put, List.setIfInBounds_toArray, List.set_cons_zero, List.set_cons_succ, i64_w, i32_w]
            rfl
          refine pure_ (i := 1) (N := some 18) (v := ?_) (a' := ?_) #[true, true, false, false, false, false, false, false, false, false, false, false] rfl rfl (by kernel_rfl) (fun _ _ _ h => h) (Or.inl ⟨by rfl, ?_⟩) ?_ ?_
          rotate_left
          · intro w'
            go_simp
            with_reducible rfl
          rotate_left
          · simp only [Act.put, List.setIfInBounds_toArray, List.set_cons_zero, List.set_cons_succ, i64_w, i32_w]
            rfl
          refine pure_ (i := 2) (N := some 19) (v := ?_) (a' := ?_) #[true, true, true, false, false, false, false, false, false, false, false, false] rfl rfl (by kernel_rfl) (fun _ _ _ h => h) (Or.inl ⟨by rfl, ?_⟩) ?_ ?_
          rotate_left
          · intro w'
            go_simp
            with_reducible rfl
          rotate_left
          · simp only [Act.put, List.setIfInBounds_toArray, List.set_cons_zero, List.set_cons_succ, i64_w, i32_w]
            rfl
          refine pure_ (i := 3) (N := some 20) (v := ?_) (a' := ?_) #[true, true, true, true, false, false, false, false, false, false, false, false] rfl rfl (by kernel_rfl) (fun _ _ _ h => h) (Or.inl ⟨by rfl, ?_⟩) ?_ ?_
          rotate_left
          · intro w'
            go_simp
            with_reducible rfl
          rotate_left
          · simp only [Act.put, List.setIfInBounds_toArray, List.set_cons_zero, List.set_cons_succ, i64_w, i32_w]
            rfl
          refine pure_ (i := 4) (N := some 21) (v := ?_) (a' := ?_) #[true, true, true, true, true, false, false, false, false, false, false, false] rfl rfl (by kernel_rfl) (fun _ _ _ h => h) (Or.inl ⟨by rfl, ?_⟩) ?_ ?_
          rotate_left
          · intro w'
            go_simp
            with_reducible rfl
          rotate_left
          · simp only [Act.put, List.setIfInBounds_toArray, List.set_cons_zero, List.set_cons_succ, i64_w, i32_w]
            rfl
          refine pure_ (i := 7) (N := some 24) (v := ?_) (a' := ?_) #[true, true, true, true, true, false, false, true, false, false, false, false] rfl rfl (by kernel_rfl) (fun _ _ _ h => h) (Or.inl ⟨by rfl, ?_⟩) ?_ ?_
          rotate_left
          · intro w'
            go_simp
            with_reducible rfl
          rotate_left
          · simp only [Act.put, List.setIfInBounds_toArray, List.set_cons_zero, List.set_cons_succ, i64_w, i32_w]
            rfl
          refine pure_ (i := 8) (N := some 25) (v := ?_) (a' := ?_) #[true, true, true, true, true, false, false, true, true, false, false, false] rfl rfl (by kernel_rfl) (fun _ _ _ h => h) (Or.inl ⟨by rfl, ?_⟩) ?_ ?_
          rotate_left
          · intro w'
            go_simp
            with_reducible rfl
          rotate_left
          · simp only [Act.put, List.setIfInBounds_toArray, List.set_cons_zero, List.set_cons_succ, i64_w, i32_w]
            rfl
          refine pure_ (i := 9) (N := some 26) (v := ?_) (a' := ?_) #[true, true, true, true, true, false, false, true, true, true, false, false] rfl rfl (by kernel_rfl) (fun _ _ _ h => h) (Or.inl ⟨by rfl, ?_⟩) ?_ ?_
          rotate_left
          · intro w'
            go_simp
            with_reducible rfl
          rotate_left
          · simp only [Act.put, List.setIfInBounds_toArray, List.set_cons_zero, List.set_cons_succ, i64_w, i32_w]
            rfl
          refine take_ (i := 5) (N := some 22) (v := ?_) (a' := ?_) #[true, true, true, true, true, true, false, true, true, true, false, false] rfl rfl (by kernel_rfl) (fun _ _ _ h => h) (Or.inl ⟨by rfl, ?_⟩) hHeld ?_ ?_
          rotate_left
          · rintro w' ⟨s0, s1⟩
            go_simp
            with_reducible rfl
          rotate_left
          · simp only [Act.put, List.setIfInBounds_toArray, List.set_cons_zero, List.set_cons_succ, i64_w, i32_w]
            rfl
          refine pure_ (i := 6) (N := some 23) (v := ?_) (a' := ?_) #[true, true, true, true, true, true, true, true, true, true, false, false] rfl rfl (by kernel_rfl) (fun _ _ _ h => h) (Or.inl ⟨by rfl, ?_⟩) ?_ ?_
          rotate_left
          · intro w'
            go_simp
            with_reducible rfl
          rotate_left
          · simp only [Act.put, List.setIfInBounds_toArray, List.set_cons_zero, List.set_cons_succ, i64_w, i32_w]
            rfl
          refine take_ (i := 10) (N := some 27) (v := ?_) (a' := ?_) #[true, true, true, true, true, true, true, true, true, true, true, false] rfl rfl (by kernel_rfl) (fun _ _ _ h => h) (Or.inl ⟨by rfl, ?_⟩) hHeld ?_ ?_
          rotate_left
          · rintro w' ⟨s0, s1⟩
            go_simp
            with_reducible rfl
          rotate_left
          · simp only [Act.put, List.setIfInBounds_toArray, List.set_cons_zero, List.set_cons_succ, i64_w, i32_w]
            rfl
          refine pure_ (i := 11) (N := some 28) (v := ?_) (a' := ?_) #[true, true, true, true, true, true, true, true, true, true, true, true] rfl rfl (by kernel_rfl) (fun _ _ _ h => h) (Or.inl ⟨by rfl, ?_⟩) ?_ ?_
          rotate_left
          · intro w'
            go_simp
            with_reducible rfl
          rotate_left
          · simp only [Act.put, List.setIfInBounds_toArray, List.set_cons_zero, List.set_cons_succ, i64_w, i32_w]
            rfl
          refine done_ (by kernel_rfl) ?_
          go_wp2_with fail
          go_ret
          rw [E.out]
          exact ⟨O, rfl, H.out.below (below_drew (Below.refl _ _)), Ext.of_below (below_drew (Below.refl _ _)) O⟩
        · have c2 : w.cell? ⟨g, 3, none⟩ = some (.slice A m c) := hv
          clear hv
          go_enter Try.func25, Try.ntmps25
          go_wp2_with fail
          refine start_ (n := 12) (S := fun w' => w'.cell? ⟨g, 0, none⟩ = some (.int .i64 n.room) ∧ w'.cell? ⟨g, 3, none⟩ = some (.slice A m c)) (ds := []) #[false, false, false, false, false, false, false, false, false, false, false, false] (by kernel_rfl) rfl rfl ⟨x0, c2⟩ (fun hHeld => ?_)
          refine pure_ (i := 0) (N := some 17) (v := ?_) (a' := ?_) #[true, false, false, false, false, false, false, false, false, false, false, false] rfl rfl (by kernel_rfl) (fun _ _ _ h => h) (Or.inl ⟨by rfl, ?_⟩) ?_ ?_
          rotate_left
          · intro w'
            go_simp
            with_reducible rfl
          rotate_left
          · simp only [Act.put, List.setIfInBounds_toArray, List.set_cons_zero, List.set_cons_succ, i64_w, i32_w]
            rfl
          refine pure_ (i := 1) (N := some 18) (v := ?_) (a' := ?_) #[true, true, false, false, false, false, false, false, false, false, false, false] rfl rfl (by kernel_rfl) (fun _ _ _ h => h) (Or.inl ⟨by rfl, ?_⟩) ?_ ?_
          rotate_left
          · intro w'
            go_simp
            with_reducible rfl
          rotate_left
          · simp only [Act.put, List.setIfInBounds_toArray, List.set_cons_zero, List.set_cons_succ, i64_w, i32_w]
            rfl
          refine pure_ (i := 2) (N := some 19) (v := ?_) (a' := ?_) #[true, true, true, false, false, false, false, false, false, false, false, false] rfl rfl (by kernel_rfl) (fun _ _ _ h => h) (Or.inl ⟨by rfl, ?_⟩) ?_ ?_
          rotate_left
          · intro w'
            go_simp
            with_reducible rfl
          rotate_left
          · simp only [Act.put, List.setIfInBounds_toArray, List.set_cons_zero, List.set_cons_succ, i64_w, i32_w]
            rfl
          refine pure_ (i := 3) (N := some 20) (v := ?_) (a' := ?_) #[true, true, true, true, false, false, false, false, false, false, false, false] rfl rfl (by kernel_rfl) (fun _ _ _ h => h) (Or.inl ⟨by rfl, ?_⟩) ?_ ?_
          rotate_left
          · intro w'
            go_simp
            with_reducible rfl
          rotate_left
          · simp only [Act.put, List.setIfInBounds_toArray, List.set_cons_zero, List.set_cons_succ, i64_w, i32_w]
            rfl
          refine pure_ (i := 4) (N := some 21) (v := ?_) (a' := ?_) #[true, true, true, true, true, false, false, false, false, false, false, false] rfl rfl (by kernel_rfl) (fun _ _ _ h => h) (Or.inl ⟨by rfl, ?_⟩) ?_ ?_
          rotate_left
          · intro w'
            go_simp
            with_reducible rfl
          rotate_left
          · simp only [Act.put, List.setIfInBounds_toArray, List.set_cons_zero, List.set_cons_succ, i64_w, i32_w]
            rfl
          refine pure_ (i := 7) (N := some 24) (v := ?_) (a' := ?_) #[true, true, true, true, true, false, false, true, false, false, false, false] rfl rfl (by kernel_rfl) (fun _ _ _ h => h) (Or.inl ⟨by rfl, ?_⟩) ?_ ?_
          rotate_left
          · intro w'
            go_simp
            with_reducible rfl
          rotate_left
          · simp only [Act.put, List.setIfInBounds_toArray, List.set_cons_zero, List.set_cons_succ, i64_w, i32_w]
            rfl
          refine pure_ (i := 8) (N := some 25) (v := ?_) (a' := ?_) #[true, true, true, true, true, false, false, true, true, false, false, false] rfl rfl (by kernel_rfl) (fun _ _ _ h => h) (Or.inl ⟨by rfl, ?_⟩) ?_ ?_
          rotate_left
          · intro w'
            go_simp
            with_reducible rfl
          rotate_left
          · simp only [Act.put, List.setIfInBounds_toArray, List.set_cons_zero, List.set_cons_succ, i64_w, i32_w]
            rfl
          refine pure_ (i := 9) (N := some 26) (v := ?_) (a' := ?_) #[true, true, true, true, true, false, false, true, true, true, false, false] rfl rfl (by kernel_rfl) (fun _ _ _ h => h) (Or.inl ⟨by rfl, ?_⟩) ?_ ?_
          rotate_left
          · intro w'
            go_simp
            with_reducible rfl
          rotate_left
          · simp only [Act.put, List.setIfInBounds_toArray, List.set_cons_zero, List.set_cons_succ, i64_w, i32_w]
            rfl
          refine take_ (i := 5) (N := some 22) (v := ?_) (a' := ?_) #[true, true, true, true, true, true, false, true, true, true, false, false] rfl rfl (by kernel_rfl) (fun _ _ _ h => h) (Or.inl ⟨by rfl, ?_⟩) hHeld ?_ ?_
          rotate_left
          · rintro w' ⟨s0, s1⟩
            go_simp
            with_reducible rfl
          rotate_left
          · simp only [Act.put, List.setIfInBounds_toArray, List.set_cons_zero, List.set_cons_succ, i64_w, i32_w]
            rfl
          refine pure_ (i := 6) (N := some 23) (v := ?_) (a' := ?_) #[true, true, true, true, true, true, true, true, true, true, false, false] rfl rfl (by kernel_rfl) (fun _ _ _ h => h) (Or.inl ⟨by rfl, ?_⟩) ?_ ?_
          rotate_left
          · intro w'
            go_simp
            with_reducible rfl
          rotate_left
          · simp only [Act.put, List.setIfInBounds_toArray, List.set_cons_zero, List.set_cons_succ, i64_w, i32_w]
            rfl
          refine take_ (i := 10) (N := some 27) (v := ?_) (a' := ?_) #[true, true, true, true, true, true, true, true, true, true, true, false] rfl rfl (by kernel_rfl) (fun _ _ _ h => h) (Or.inl ⟨by rfl, ?_⟩) hHeld ?_ ?_
          rotate_left
          · rintro w' ⟨s0, s1⟩
            go_simp
            with_reducible rfl
          rotate_left
          · simp only [Act.put, List.setIfInBounds_toArray, List.set_cons_zero, List.set_cons_succ, i64_w, i32_w]
            rfl
          refine pure_ (i := 11) (N := some 28) (v := ?_) (a' := ?_) #[true, true, true, true, true, true, true, true, true, true, true, true] rfl rfl (by kernel_rfl) (fun _ _ _ h => h) (Or.inl ⟨by rfl, ?_⟩) ?_ ?_
          rotate_left
          · intro w'
            go_simp
            with_reducible rfl
          rotate_left
          · simp only [Act.put, List.setIfInBounds_toArray, List.set_cons_zero, List.set_cons_succ, i64_w, i32_w]
            rfl
          refine done_ (by kernel_rfl) ?_
          go_wp2_with fail
          go_ret
          rw [E.out]
          exact ⟨O, rfl, H.out.below (below_drew (Below.refl _ _)), Ext.of_below (below_drew (Below.refl _ _)) O⟩
      · have E : Hid (n.put i b = (0, n.setWay i (n.way i ++ [b]))) := by show _ = _; unfold NtS.put; rw [if_neg (fun h => h hi), if_neg (by rw [ec]; decide), if_neg (by rw [← HM.out]; exact hf)]
        clear ec
        rcases hi with rfl | rfl
        · have c2 : w.cell? ⟨g, 2, none⟩ = some (.slice A m c) := hv
          clear hv
          have hmb : m < 1000 := by omega
          have c29 : ∀ {W : World}, Fr w W (fun k => (Value.slice A m c).ownBlock = some k) → W.cell? ⟨g, 2, none⟩ = some (.slice A m c) := fun hf => by
            obtain ⟨v', hv', _, _, hne⟩ := H.out.ways (i := 0) (by decide)
            obtain rfl := Option.some.inj (hv'.symm.trans c2)
            rw [World.cell?_of_block (hf.block g (World.block_lt_of_cell? w _ c2) (fun e => by rcases hne g e with h2 | h2 <;> first | exact h2 rfl | (revert h2; decide)))]
            exact c2
          go_enter Try.func25, Try.ntmps25
          go_wp2_with fail
          refine start_ (n := 12) (S := fun w' => w'.cell? ⟨g, 0, none⟩ = some (.int .i64 n.room) ∧ w'.cell? ⟨g, 2, none⟩ = some (.slice A m c)) (ds := []) #[false, false, false, false, false, false, false, false, false, false, false, false] (by kernel_rfl) rfl rfl ⟨x0, c2⟩ (fun hHeld => ?_)
          refine pure_ (i := 0) (N := some 17) (v := ?_) (a' := ?_) #[true, false, false, false, false, false, false, false, false, false, false, false] rfl rfl (by kernel_rfl) (fun _ _ _ h => h) (Or.inl ⟨by rfl, ?_⟩) ?_ ?_
          rotate_left
          · intro w'
            go_simp
            with_reducible rfl
          rotate_left
          · simp only [Act.put, List.setIfInBounds_toArray, List.set_cons_zero, List.set_cons_succ, i64_w, i32_w]
            rfl
          refine pure_ (i := 1) (N := some 18) (v := ?_) (a' := ?_) #[true, true, false, false, false, false, false, false, false, false, false, false] rfl rfl (by kernel_rfl) (fun _ _ _ h => h) (Or.inl ⟨by rfl, ?_⟩) ?_ ?_
          rotate_left
          · intro w'
            go_simp
            with_reducible rfl
          rotate_left
          · simp only [Act.put, List.setIfInBounds_toArray, List.set_cons_zero, List.set_cons_succ, i64_w, i32_w]
            rfl
          refine pure_ (i := 2) (N := some 19) (v := ?_) (a' := ?_) #[true, true, true, false, false, false, false, false, false, false, false, false] rfl rfl (by kernel_rfl) (fun _ _ _ h => h) (Or.inl ⟨by rfl, ?_⟩) ?_ ?_
          rotate_left
          · intro w'
            go_simp
            with_reducible rfl
          rotate_left
          · simp only [Act.put, List.setIfInBounds_toArray, List.set_cons_zero, List.set_cons_succ, i64_w, i32_w]
            rfl
          refine pure_ (i := 3) (N := some 20) (v := ?_) (a' := ?_) #[true, true, true, true, false, false, false, false, false, false, false, false] rfl rfl (by kernel_rfl) (fun _ _ _ h => h) (Or.inl ⟨by rfl, ?_⟩) ?_ ?_
          rotate_left
          · intro w'
            go_simp
            with_reducible rfl
          rotate_left
          · simp only [Act.put, List.setIfInBounds_toArray, List.set_cons_zero, List.set_cons_succ, i64_w, i32_w]
            rfl
          refine pure_ (i := 4) (N := some 21) (v := ?_) (a' := ?_) #[true, true, true, true, true, false, false, false, false, false, false, false] rfl rfl (by kernel_rfl) (fun _ _ _ h => h) (Or.inl ⟨by rfl, ?_⟩) ?_ ?_
          rotate_left
          · intro w'
            go_simp
            with_reducible rfl
          rotate_left
          · simp only [Act.put, List.setIfInBounds_toArray, List.set_cons_zero, List.set_cons_succ, i64_w, i32_w]
            rfl
          refine pure_ (i := 7) (N := some 24) (v := ?_) (a' := ?_) #[true, true, true, true, true, false, false, true, false, false, false, false] rfl rfl (by kernel_rfl) (fun _ _ _ h => h) (Or.inl ⟨by rfl, ?_⟩) ?_ ?_
          rotate_left
          · intro w'
            go_simp
            with_reducible rfl
          rotate_left
          · simp only [Act.put, List.setIfInBounds_toArray, List.set_cons_zero, List.set_cons_succ, i64_w, i32_w]
            rfl
          refine pure_ (i := 8) (N := some 25) (v := ?_) (a' := ?_) #[true, true, true, true, true, false, false, true, true, false, false, false] rfl rfl (by kernel_rfl) (fun _ _ _ h => h) (Or.inl ⟨by rfl, ?_⟩) ?_ ?_
          rotate_left
          · intro w'
            go_simp
            with_reducible rfl
          rotate_left
          · simp only [Act.put, List.setIfInBounds_toArray, List.set_cons_zero, List.set_cons_succ, i64_w, i32_w]
            rfl
          refine pure_ (i := 9) (N := some 26) (v := ?_) (a' := ?_) #[true, true, true, true, true, false, false, true, true, true, false, false] rfl rfl (by kernel_rfl) (fun _ _ _ h => h) (Or.inl ⟨by rfl, ?_⟩) ?_ ?_
          rotate_left
          · intro w'
            go_simp
            with_reducible rfl
          rotate_left
          · simp only [Act.put, List.setIfInBounds_toArray, List.set_cons_zero, List.set_cons_succ, i64_w, i32_w]
            rfl
          refine take_ (i := 5) (N := some 22) (v := ?_) (a' := ?_) #[true, true, true, true, true, true, false, true, true, true, false, false] rfl rfl (by kernel_rfl) (fun _ _ _ h => h) (Or.inl ⟨by rfl, ?_⟩) hHeld ?_ ?_
          rotate_left
          · rintro w' ⟨s0, s1⟩
            go_simp
            with_reducible rfl
          rotate_left
          · simp only [Act.put, List.setIfInBounds_toArray, List.set_cons_zero, List.set_cons_succ, i64_w, i32_w]
            rfl
          refine pure_ (i := 6) (N := some 23) (v := ?_) (a' := ?_) #[true, true, true, true, true, true, true, true, true, true, false, false] rfl rfl (by kernel_rfl) (fun _ _ _ h => h) (Or.inl ⟨by rfl, ?_⟩) ?_ ?_
          rotate_left
          · intro w'
            go_simp
            with_reducible rfl
          rotate_left
          · simp only [Act.put, List.setIfInBounds_toArray, List.set_cons_zero, List.set_cons_succ, i64_w, i32_w]
            rfl
          refine take_ (i := 10) (N := some 27) (v := ?_) (a' := ?_) #[true, true, true, true, true, true, true, true, true, true, true, false] rfl rfl (by kernel_rfl) (fun _ _ _ h => h) (Or.inl ⟨by rfl, ?_⟩) hHeld ?_ ?_
          rotate_left
          · rintro w' ⟨s0, s1⟩
            go_simp
            with_reducible rfl
          rotate_left
          · simp only [Act.put, List.setIfInBounds_toArray, List.set_cons_zero, List.set_cons_succ, i64_w, i32_w]
            rfl
          refine pure_ (i := 11) (N := some 28) (v := ?_) (a' := ?_) #[true, true, true, true, true, true, true, true, true, true, true, true] rfl rfl (by kernel_rfl) (fun _ _ _ h => h) (Or.inl ⟨by rfl, ?_⟩) ?_ ?_
          rotate_left
          · intro w'
            go_simp
            with_reducible rfl
          rotate_left
          · simp only [Act.put, List.setIfInBounds_toArray, List.set_cons_zero, List.set_cons_succ, i64_w, i32_w]
            rfl
          refine done_ (by kernel_rfl) ?_
          go_wp2_with fail
          refine start_ (n := 19) (S := fun w' => w'.cell? ⟨g, 2, none⟩ = some (.slice A m c)) (ds := [18]) #[false, false, false, false, false, false, false, false, false, false, false, false, false, false, false, false, false, false, false] (by kernel_rfl) rfl rfl c2 (fun hHeld => ?_)
          obtain ⟨W2, hW2⟩ : ∃ W2, w.drew.drew = W2 := ⟨_, rfl⟩
          have hbw : Below w.heap.size w W2 := by rw [← hW2]; exact below_drew (below_drew (Below.refl _ _))
          rw [hW2] at hHeld ⊢
          clear hW2
          have HW := Lib.hid hbw
          have HBW := Lib.hid hbw
          have HW2 := Lib.hid (Below.refl W2.heap.size W2)
          clear hbw
          refine pure_ (i := 0) (N := some 29) (v := ?_) (a' := ?_) #[true, false, false, false, false, false, false, false, false, false, false, false, false, false, false, false, false, false, false] rfl rfl (by kernel_rfl) (fun _ _ _ h => h) (Or.inl ⟨by rfl, ?_⟩) ?_ ?_
          rotate_left
          · intro w'
            go_simp
            with_reducible rfl
          rotate_left
          · simp only [Act.put, List.setIfInBounds_toArray, List.set_cons_zero, List.set_cons_succ, i64_w, i32_w]
            rfl
          refine pure_ (i := 1) (N := some 30) (v := ?_) (a' := ?_) #[true, true, false, false, false, false, false, false, false, false, false, false, false, false, false, false, false, false, false] rfl rfl (by kernel_rfl) (fun _ _ _ h => h) (Or.inl ⟨by rfl, ?_⟩) ?_ ?_
          rotate_left
          · intro w'
            go_simp
            with_reducible rfl
          rotate_left
          · simp only [Act.put, List.setIfInBounds_toArray, List.set_cons_zero, List.set_cons_succ, i64_w, i32_w]
            rfl
          refine pure_ (i := 3) (N := some 32) (v := ?_) (a' := ?_) #[true, true, false, true, false, false, false, false, false, false, false, false, false, false, false, false, false, false, false] rfl rfl (by kernel_rfl) (fun _ _ _ h => h) (Or.inl ⟨by rfl, ?_⟩) ?_ ?_
          rotate_left
          · intro w'
            go_simp
            with_reducible rfl
          rotate_left
          · simp only [Act.put, List.setIfInBounds_toArray, List.set_cons_zero, List.set_cons_succ, i64_w, i32_w]
            rfl
          refine pure_ (i := 4) (N := some 33) (v := ?_) (a' := ?_) #[true, true, false, true, true, false, false, false, false, false, false, false, false, false, false, false, false, false, false] rfl rfl (by kernel_rfl) (fun _ _ _ h => h) (Or.inl ⟨by rfl, ?_⟩) ?_ ?_
          rotate_left
          · intro w'
            go_simp
            with_reducible rfl
          rotate_left
          · simp only [Act.put, List.setIfInBounds_toArray, List.set_cons_zero, List.set_cons_succ, i64_w, i32_w]
            rfl
          refine pure_ (i := 5) (N := some 34) (v := ?_) (a' := ?_) #[true, true, false, true, true, true, false, false, false, false, false, false, false, false, false, false, false, false, false] rfl rfl (by kernel_rfl) (fun _ _ _ h => h) (Or.inl ⟨by rfl, ?_⟩) ?_ ?_
          rotate_left
          · intro w'
            go_simp
            with_reducible rfl
          rotate_left
          · simp only [Act.put, List.setIfInBounds_toArray, List.set_cons_zero, List.set_cons_succ, i64_w, i32_w]
            rfl
          refine pure_ (i := 6) (N := some 35) (v := ?_) (a' := ?_) #[true, true, false, true, true, true, true, false, false, false, false, false, false, false, false, false, false, false, false] rfl rfl (by kernel_rfl) (fun _ _ _ h => h) (Or.inl ⟨by rfl, ?_⟩) ?_ ?_
          rotate_left
          · intro w'
            go_simp
            with_reducible rfl
          rotate_left
          · simp only [Act.put, List.setIfInBounds_toArray, List.set_cons_zero, List.set_cons_succ, i64_w, i32_w]
            rfl
          refine pure_ (i := 7) (N := some 36) (v := ?_) (a' := ?_) #[true, true, false, true, true, true, true, true, false, false, false, false, false, false, false, false, false, false, false] rfl rfl (by kernel_rfl) (fun _ _ _ h => h) (Or.inl ⟨by rfl, ?_⟩) ?_ ?_
          rotate_left
          · intro w'
            go_simp
            with_reducible rfl
          rotate_left
          · simp only [Act.put, List.setIfInBounds_toArray, List.set_cons_zero, List.set_cons_succ, i64_w, i32_w]
            rfl
          refine pure_ (i := 11) (N := some 40) (v := ?_) (a' := ?_) #[true, true, false, true, true, true, true, true, false, false, false, true, false, false, false, false, false, false, false] rfl rfl (by kernel_rfl) (fun _ _ _ h => h) (Or.inl ⟨by rfl, ?_⟩) ?_ ?_
          rotate_left
          · intro w'
            go_simp
            with_reducible rfl
          rotate_left
          · simp only [Act.put, List.setIfInBounds_toArray, List.set_cons_zero, List.set_cons_succ, i64_w, i32_w]
            rfl
          refine pure_ (i := 15) (N := some 44) (v := ?_) (a' := ?_) #[true, true, false, true, true, true, true, true, false, false, false, true, false, false, false, true, false, false, false] rfl rfl (by kernel_rfl) (fun _ _ _ h => h) (Or.inl ⟨by rfl, ?_⟩) ?_ ?_
          rotate_left
          · intro w'
            go_simp
            with_reducible rfl
          rotate_left
          · simp only [Act.put, List.setIfInBounds_toArray, List.set_cons_zero, List.set_cons_succ, i64_w, i32_w]
            rfl
          refine pure_ (i := 16) (N := some 45) (v := ?_) (a' := ?_) #[true, true, false, true, true, true, true, true, false, false, false, true, false, false, false, true, true, false, false] rfl rfl (by kernel_rfl) (fun _ _ _ h => h) (Or.inl ⟨by rfl, ?_⟩) ?_ ?_
          rotate_left
          · intro w'
            go_simp
            with_reducible rfl
          rotate_left
          · simp only [Act.put, List.setIfInBounds_toArray, List.set_cons_zero, List.set_cons_succ, i64_w, i32_w]
            rfl
          refine take_ (i := 8) (N := some 37) (v := ?_) (a' := ?_) #[true, true, false, true, true, true, true, true, true, false, false, true, false, false, false, true, true, false, false] rfl rfl (by kernel_rfl) (fun _ _ _ h => h) (Or.inl ⟨by rfl, ?_⟩) hHeld ?_ ?_
          rotate_left
          · rintro w' s0
            go_simp
            with_reducible rfl
          rotate_left
          · simp only [Act.put, List.setIfInBounds_toArray, List.set_cons_zero, List.set_cons_succ, i64_w, i32_w]
            rfl
          refine join_ (σ := Value × Value × Value) 5 #[true, true, true, true, true, true, true, true, true, true, true, true, false, false, false, true, true, false, false] (fun s => [(31, s.1), (38, s.2.1), (39, s.2.2)]) (fun s w' => w'.cell? ⟨g, 2, none⟩ = some (.slice A m c) ∧ Below w.heap.size w w' ∧ Below W2.heap.size W2 w' ∧ (Kd.slice 5 (Kd.int .u8)).R 28 w' 0 (fun k => some k ≠ s.2.2.ownBlock) s.2.1 (n.way 0) ∧ (∀ k, s.2.1.ownBlock = some k → w.heap.size ≤ k) ∧ (Kd.int .u8).R 5 w' W2.heap.size (fun _ => True) s.2.2 []) ?_ ?_
          rotate_left
          · intro hCont
            refine two_ (i := 2) (j := 10) (Ni := some 31) (Nj := some 39) #[true, true, true, true, true, true, true, true, true, false, false, true, false, false, false, true, true, false, false] #[true, true, false, true, true, true, true, true, true, false, true, true, false, false, false, true, true, false, false] rfl rfl rfl rfl (by kernel_rfl) (by decide) (by decide) (fun K hK => ?_) (fun K hK => ?_)
            · skip
              refine Kd.R_lit_step (Kd.slice 5 (Kd.int .u8)) (w0 := W2) W2.heap.size 28 ?hg (N := 31) ?hd (xs := ([] : List (List Int))) (inner := []) (ok := fun _ => True) (okp := fun _ => True) ?hr ?hp (fun _ hk => hk) trivial HW2.out HW2.out.size (by simp) ?_
              (case hd => rfl)
              (case hg => rfl)
              (case hr => first | (go_simp; done) | (go_simp; rfl))
              (case hp => exact Reps.none _ _)
              intro v3 w3 ho3 hb3 hg3 _
              obtain ⟨A3, c3, m3, rfl, HM3⟩ := R_slice_n ho3
              have HO3 := Lib.hid ho3
              have BN := Lib.hid (below_none hg3)
              have t1 := Lib.hid (HW.out.trans (BN.out.mono HW.out.size))
              have t2 := Lib.hid hb3
              try (have t3 := Lib.hid (Kd.R_below HO6.out BN.out); clear HO6; have HO6 := t3; clear t3)
              clear HW HW2 hHeld
              have HW := t1
              have HW2 := t2
              clear ho3 hb3 hg3 BN t1 t2
              refine hK.out _ _ (pw_cell_below HW.out c2) (fun hHeld => ?_)
              clear hK K
              refine norm_ (a' := ?_) ?_ ?_
              rotate_left
              · show Act.put _ (some 31) _ = _
                simp only [Act.put, List.setIfInBounds_toArray, List.set_cons_zero, List.set_cons_succ, i64_w, i32_w]
                rfl
              refine two_ (i := 9) (j := 10) (Ni := some 38) (Nj := some 39) #[true, true, true, true, true, true, true, true, true, true, false, true, false, false, false, true, true, false, false] #[true, true, true, true, true, true, true, true, true, false, true, true, false, false, false, true, true, false, false] rfl rfl rfl rfl (by kernel_rfl) (by decide) (by decide) (fun K hK => ?_) (fun K hK => ?_)
              · skip
                obtain ⟨N, hN⟩ := cur_size HW.out
                refine Kd.R_append_rows_step (Kd.slice 5 (Kd.int .u8)) (w0 := W2) 0 (by rfl) (.tmp 31) (.tmp 37) 46 28 (.slice none 0 0) 24 rfl Try.underlying46 info_sl rfl (by decide) (by omega) (.slice A3 m3 c3) [] (n.way 0) A m c (fun k => k < w.heap.size ∨ N ≤ k ∨ some k = (Value.slice A3 m3 c3).ownBlock) (fun k => k < w.heap.size) rfl rfl (Kd.R_lower (Kd.R_mono (Kd.R_head_ok HO3.out) (fun k hk => .inr (.inr hk))) (Nat.zero_le _)) (by have := (BR.readsM HR.out).2.2; rw [← HM.out] at this; exact ReadsRow.imp_ this (HW.out) (fun _ _ hp => Kd.M_below hp HW.out)) (fun _ _ h => h) (fun k hk => ⟨.inl hk, fun e => by have := Kd.R_base HO3.out k e.symm; have := HBW.out.size; omega⟩) (fun k hk => .inr (.inl (by omega))) (HW2.out.mono (Nat.zero_le _)) (Nat.zero_le _) (by simp; omega) ?_
                intro v5 w5 ho5 _ hg5 hat5
                rw [List.nil_append] at ho5
                obtain ⟨A5, c5, m5, rfl, HM5⟩ := R_slice_n ho5
                have t1 := Lib.hid (below_grown HW.out hg5 (fun k e => by have := Kd.R_base HO3.out k e; have := HBW.out.size; omega))
                have t2 := Lib.hid (below_grown HW2.out hg5 (fun k e => Kd.R_base HO3.out k e))
                have HN5 : Hid (∀ k, (Value.slice A5 m5 c5).ownBlock = some k → w.heap.size ≤ k) := fun k hk => by
                  rcases hat5 with e | ⟨b9, e, hl⟩
                  · rw [e] at hk; have := Kd.R_base HO3.out k hk; have := HBW.out.size; omega
                  · rw [e] at hk; cases hk; have := HW.out.size; omega
                have HO5 := Lib.hid ho5
                try (have HJ := Lib.hid (Kd.R_mono (ok' := fun k => some k ≠ (Value.slice A6 m6 c6).ownBlock) ho5 (fun k hk => ne_of (W2 := W2) HO3.out HO6.out (by decide) (by rw [← hN]; exact hk) HBW.out.size)))
                try (have t3 := Lib.hid (Kd.R_over' HO6.out (Kd.R_typed HO3.out) (by decide) hg5); clear HO6; have HO6 := t3; clear t3)
                clear HW HW2 hHeld
                have HW := t1
                have HW2 := t2
                clear ho5 hg5 hat5 t1 t2 hN
                refine hK.out _ _ (pw_cell_below HW.out c2) (fun hHeld => ?_)
                clear hK K
                refine norm_ (a' := ?_) ?_ ?_
                rotate_left
                · show Act.put _ (some 38) _ = _
                  simp only [Act.put, List.setIfInBounds_toArray, List.set_cons_zero, List.set_cons_succ, i64_w, i32_w]
                  rfl
                refine one_ (i := 10) (N := some 39) #[true, true, true, true, true, true, true, true, true, true, true, true, false, false, false, true, true, false, false] rfl rfl (by kernel_rfl) (by decide) (fun K hK => ?_)
                refine Kd.R_lit_step (Kd.int .u8) (w0 := W2) W2.heap.size 5 ?hg (N := 39) ?hd (xs := ([] : List Int)) (inner := []) (ok := fun _ => True) (okp := fun _ => True) ?hr ?hp (fun _ hk => hk) trivial HW2.out HW2.out.size (by simp) ?_
                (case hd => rfl)
                (case hg => rfl)
                (case hr => first | (go_simp; done) | (go_simp; rfl))
                (case hp => exact Reps.none _ _)
                intro v6 w6 ho6 hb6 hg6 hat6
                obtain ⟨A6, c6, m6, rfl, HM6⟩ := R_slice_n ho6
                have HO6 := Lib.hid ho6
                have BN := Lib.hid (below_none hg6)
                have t1 := Lib.hid (HW.out.trans (BN.out.mono HW.out.size))
                have t2 := Lib.hid hb6
                try (have t3 := Lib.hid (Kd.R_below HO3.out BN.out); clear HO3; have HO3 := t3; clear t3)
                try (have HJ := Lib.hid (Kd.R_below (Kd.R_mono (ok' := fun k => some k ≠ (Value.slice A6 m6 c6).ownBlock) (Kd.R_bound HO5.out) (fun k hk e => by obtain ⟨b6, e6, l6⟩ := hat6; rw [e6] at e; cases e; have := hk.2.2.1; omega)) BN.out))
                clear HW HW2 hHeld
                have HW := t1
                have HW2 := t2
                clear ho6 hb6 hg6 hat6 BN t1 t2
                refine hK.out _ _ (pw_cell_below HW.out c2) (fun hHeld => ?_)
                clear hK K
                refine norm_ (a' := ?_) ?_ ?_
                rotate_left
                · show Act.put _ (some 39) _ = _
                  simp only [Act.put, List.setIfInBounds_toArray, List.set_cons_zero, List.set_cons_succ, i64_w, i32_w]
                  rfl
                exact norm_ (by simp only [putAll, Act.put, List.setIfInBounds_toArray, List.set_cons_zero, List.set_cons_succ]) (hCont (.slice A3 m3 c3, .slice A5 m5 c5, .slice A6 m6 c6) _ ⟨hHeld, HW.out, HW2.out, HJ.out, HN5.out, HO6.out⟩)
              · skip
                refine Kd.R_lit_step (Kd.int .u8) (w0 := W2) W2.heap.size 5 ?hg (N := 39) ?hd (xs := ([] : List Int)) (inner := []) (ok := fun _ => True) (okp := fun _ => True) ?hr ?hp (fun _ hk => hk) trivial HW2.out HW2.out.size (by simp) ?_
                (case hd => rfl)
                (case hg => rfl)
                (case hr => first | (go_simp; done) | (go_simp; rfl))
                (case hp => exact Reps.none _ _)
                intro v6 w6 ho6 hb6 hg6 hat6
                obtain ⟨A6, c6, m6, rfl, HM6⟩ := R_slice_n ho6
                have HO6 := Lib.hid ho6
                have BN := Lib.hid (below_none hg6)
                have t1 := Lib.hid (HW.out.trans (BN.out.mono HW.out.size))
                have t2 := Lib.hid hb6
                try (have t3 := Lib.hid (Kd.R_below HO3.out BN.out); clear HO3; have HO3 := t3; clear t3)
                try (have HJ := Lib.hid (Kd.R_below (Kd.R_mono (ok' := fun k => some k ≠ (Value.slice A6 m6 c6).ownBlock) (Kd.R_bound HO5.out) (fun k hk e => by obtain ⟨b6, e6, l6⟩ := hat6; rw [e6] at e; cases e; have := hk.2.2.1; omega)) BN.out))
                clear HW HW2 hHeld
                have HW := t1
                have HW2 := t2
                clear ho6 hb6 hg6 hat6 BN t1 t2
                refine hK.out _ _ (pw_cell_below HW.out c2) (fun hHeld => ?_)
                clear hK K
                refine norm_ (a' := ?_) ?_ ?_
                rotate_left
                · show Act.put _ (some 39) _ = _
                  simp only [Act.put, List.setIfInBounds_toArray, List.set_cons_zero, List.set_cons_succ, i64_w, i32_w]
                  rfl
                refine one_ (i := 9) (N := some 38) #[true, true, true, true, true, true, true, true, true, true, true, true, false, false, false, true, true, false, false] rfl rfl (by kernel_rfl) (by decide) (fun K hK => ?_)
                obtain ⟨N, hN⟩ := cur_size HW.out
                refine Kd.R_append_rows_step (Kd.slice 5 (Kd.int .u8)) (w0 := W2) 0 (by rfl) (.tmp 31) (.tmp 37) 46 28 (.slice none 0 0) 24 rfl Try.underlying46 info_sl rfl (by decide) (by omega) (.slice A3 m3 c3) [] (n.way 0) A m c (fun k => k < w.heap.size ∨ N ≤ k ∨ some k = (Value.slice A3 m3 c3).ownBlock) (fun k => k < w.heap.size) rfl rfl (Kd.R_lower (Kd.R_mono (Kd.R_head_ok HO3.out) (fun k hk => .inr (.inr hk))) (Nat.zero_le _)) (by have := (BR.readsM HR.out).2.2; rw [← HM.out] at this; exact ReadsRow.imp_ this (HW.out) (fun _ _ hp => Kd.M_below hp HW.out)) (fun _ _ h => h) (fun k hk => ⟨.inl hk, fun e => by have := Kd.R_base HO3.out k e.symm; have := HBW.out.size; omega⟩) (fun k hk => .inr (.inl (by omega))) (HW2.out.mono (Nat.zero_le _)) (Nat.zero_le _) (by simp; omega) ?_
                intro v5 w5 ho5 _ hg5 hat5
                rw [List.nil_append] at ho5
                obtain ⟨A5, c5, m5, rfl, HM5⟩ := R_slice_n ho5
                have t1 := Lib.hid (below_grown HW.out hg5 (fun k e => by have := Kd.R_base HO3.out k e; have := HBW.out.size; omega))
                have t2 := Lib.hid (below_grown HW2.out hg5 (fun k e => Kd.R_base HO3.out k e))
                have HN5 : Hid (∀ k, (Value.slice A5 m5 c5).ownBlock = some k → w.heap.size ≤ k) := fun k hk => by
                  rcases hat5 with e | ⟨b9, e, hl⟩
                  · rw [e] at hk; have := Kd.R_base HO3.out k hk; have := HBW.out.size; omega
                  · rw [e] at hk; cases hk; have := HW.out.size; omega
                have HO5 := Lib.hid ho5
                try (have HJ := Lib.hid (Kd.R_mono (ok' := fun k => some k ≠ (Value.slice A6 m6 c6).ownBlock) ho5 (fun k hk => ne_of (W2 := W2) HO3.out HO6.out (by decide) (by rw [← hN]; exact hk) HBW.out.size)))
                try (have t3 := Lib.hid (Kd.R_over' HO6.out (Kd.R_typed HO3.out) (by decide) hg5); clear HO6; have HO6 := t3; clear t3)
                clear HW HW2 hHeld
                have HW := t1
                have HW2 := t2
                clear ho5 hg5 hat5 t1 t2 hN
                refine hK.out _ _ (pw_cell_below HW.out c2) (fun hHeld => ?_)
                clear hK K
                refine norm_ (a' := ?_) ?_ ?_
                rotate_left
                · show Act.put _ (some 38) _ = _
                  simp only [Act.put, List.setIfInBounds_toArray, List.set_cons_zero, List.set_cons_succ, i64_w, i32_w]
                  rfl
                exact norm_ (by simp only [putAll, Act.put, List.setIfInBounds_toArray, List.set_cons_zero, List.set_cons_succ]) (hCont (.slice A3 m3 c3, .slice A5 m5 c5, .slice A6 m6 c6) _ ⟨hHeld, HW.out, HW2.out, HJ.out, HN5.out, HO6.out⟩)
            · skip
              refine Kd.R_lit_step (Kd.int .u8) (w0 := W2) W2.heap.size 5 ?hg (N := 39) ?hd (xs := ([] : List Int)) (inner := []) (ok := fun _ => True) (okp := fun _ => True) ?hr ?hp (fun _ hk => hk) trivial HW2.out HW2.out.size (by simp) ?_
              (case hd => rfl)
              (case hg => rfl)
              (case hr => first | (go_simp; done) | (go_simp; rfl))
              (case hp => exact Reps.none _ _)
              intro v6 w6 ho6 hb6 hg6 hat6
              obtain ⟨A6, c6, m6, rfl, HM6⟩ := R_slice_n ho6
              have HO6 := Lib.hid ho6
              have BN := Lib.hid (below_none hg6)
              have t1 := Lib.hid (HW.out.trans (BN.out.mono HW.out.size))
              have t2 := Lib.hid hb6
              try (have t3 := Lib.hid (Kd.R_below HO3.out BN.out); clear HO3; have HO3 := t3; clear t3)
              try (have HJ := Lib.hid (Kd.R_below (Kd.R_mono (ok' := fun k => some k ≠ (Value.slice A6 m6 c6).ownBlock) (Kd.R_bound HO5.out) (fun k hk e => by obtain ⟨b6, e6, l6⟩ := hat6; rw [e6] at e; cases e; have := hk.2.2.1; omega)) BN.out))
              clear HW HW2 hHeld
              have HW := t1
              have HW2 := t2
              clear ho6 hb6 hg6 hat6 BN t1 t2
              refine hK.out _ _ (pw_cell_below HW.out c2) (fun hHeld => ?_)
              clear hK K
              refine norm_ (a' := ?_) ?_ ?_
              rotate_left
              · show Act.put _ (some 39) _ = _
                simp only [Act.put, List.setIfInBounds_toArray, List.set_cons_zero, List.set_cons_succ, i64_w, i32_w]
                rfl
              refine one_ (i := 2) (N := some 31) #[true, true, true, true, true, true, true, true, true, false, true, true, false, false, false, true, true, false, false] rfl rfl (by kernel_rfl) (by decide) (fun K hK => ?_)
              refine Kd.R_lit_step (Kd.slice 5 (Kd.int .u8)) (w0 := W2) W2.heap.size 28 ?hg (N := 31) ?hd (xs := ([] : List (List Int))) (inner := []) (ok := fun _ => True) (okp := fun _ => True) ?hr ?hp (fun _ hk => hk) trivial HW2.out HW2.out.size (by simp) ?_
              (case hd => rfl)
              (case hg => rfl)
              (case hr => first | (go_simp; done) | (go_simp; rfl))
              (case hp => exact Reps.none _ _)
              intro v3 w3 ho3 hb3 hg3 _
              obtain ⟨A3, c3, m3, rfl, HM3⟩ := R_slice_n ho3
              have HO3 := Lib.hid ho3
              have BN := Lib.hid (below_none hg3)
              have t1 := Lib.hid (HW.out.trans (BN.out.mono HW.out.size))
              have t2 := Lib.hid hb3
              try (have t3 := Lib.hid (Kd.R_below HO6.out BN.out); clear HO6; have HO6 := t3; clear t3)
              clear HW HW2 hHeld
              have HW := t1
              have HW2 := t2
              clear ho3 hb3 hg3 BN t1 t2
              refine hK.out _ _ (pw_cell_below HW.out c2) (fun hHeld => ?_)
              clear hK K
              refine norm_ (a' := ?_) ?_ ?_
              rotate_left
              · show Act.put _ (some 31) _ = _
                simp only [Act.put, List.setIfInBounds_toArray, List.set_cons_zero, List.set_cons_succ, i64_w, i32_w]
                rfl
              refine one_ (i := 9) (N := some 38) #[true, true, true, true, true, true, true, true, true, true, true, true, false, false, false, true, true, false, false] rfl rfl (by kernel_rfl) (by decide) (fun K hK => ?_)
              obtain ⟨N, hN⟩ := cur_size HW.out
              refine Kd.R_append_rows_step (Kd.slice 5 (Kd.int .u8)) (w0 := W2) 0 (by rfl) (.tmp 31) (.tmp 37) 46 28 (.slice none 0 0) 24 rfl Try.underlying46 info_sl rfl (by decide) (by omega) (.slice A3 m3 c3) [] (n.way 0) A m c (fun k => k < w.heap.size ∨ N ≤ k ∨ some k = (Value.slice A3 m3 c3).ownBlock) (fun k => k < w.heap.size) rfl rfl (Kd.R_lower (Kd.R_mono (Kd.R_head_ok HO3.out) (fun k hk => .inr (.inr hk))) (Nat.zero_le _)) (by have := (BR.readsM HR.out).2.2; rw [← HM.out] at this; exact ReadsRow.imp_ this (HW.out) (fun _ _ hp => Kd.M_below hp HW.out)) (fun _ _ h => h) (fun k hk => ⟨.inl hk, fun e => by have := Kd.R_base HO3.out k e.symm; have := HBW.out.size; omega⟩) (fun k hk => .inr (.inl (by omega))) (HW2.out.mono (Nat.zero_le _)) (Nat.zero_le _) (by simp; omega) ?_
              intro v5 w5 ho5 _ hg5 hat5
              rw [List.nil_append] at ho5
              obtain ⟨A5, c5, m5, rfl, HM5⟩ := R_slice_n ho5
              have t1 := Lib.hid (below_grown HW.out hg5 (fun k e => by have := Kd.R_base HO3.out k e; have := HBW.out.size; omega))
              have t2 := Lib.hid (below_grown HW2.out hg5 (fun k e => Kd.R_base HO3.out k e))
              have HN5 : Hid (∀ k, (Value.slice A5 m5 c5).ownBlock = some k → w.heap.size ≤ k) := fun k hk => by
                rcases hat5 with e | ⟨b9, e, hl⟩
                · rw [e] at hk; have := Kd.R_base HO3.out k hk; have := HBW.out.size; omega
                · rw [e] at hk; cases hk; have := HW.out.size; omega
              have HO5 := Lib.hid ho5
              try (have HJ := Lib.hid (Kd.R_mono (ok' := fun k => some k ≠ (Value.slice A6 m6 c6).ownBlock) ho5 (fun k hk => ne_of (W2 := W2) HO3.out HO6.out (by decide) (by rw [← hN]; exact hk) HBW.out.size)))
              try (have t3 := Lib.hid (Kd.R_over' HO6.out (Kd.R_typed HO3.out) (by decide) hg5); clear HO6; have HO6 := t3; clear t3)
              clear HW HW2 hHeld
              have HW := t1
              have HW2 := t2
              clear ho5 hg5 hat5 t1 t2 hN
              refine hK.out _ _ (pw_cell_below HW.out c2) (fun hHeld => ?_)
              clear hK K
              refine norm_ (a' := ?_) ?_ ?_
              rotate_left
              · show Act.put _ (some 38) _ = _
                simp only [Act.put, List.setIfInBounds_toArray, List.set_cons_zero, List.set_cons_succ, i64_w, i32_w]
                rfl
              exact norm_ (by simp only [putAll, Act.put, List.setIfInBounds_toArray, List.set_cons_zero, List.set_cons_succ]) (hCont (.slice A3 m3 c3, .slice A5 m5 c5, .slice A6 m6 c6) _ ⟨hHeld, HW.out, HW2.out, HJ.out, HN5.out, HO6.out⟩)
          rintro ⟨u3, u5, u6⟩ w' ⟨hHeld, hw_, hw2_, ho5, hn5, ho6⟩
          dsimp only at ho5 hn5 ho6
          obtain ⟨A5, c5, m5, rfl, HM5⟩ := R_slice_n ho5
          obtain ⟨A6, c6, m6, rfl, HM6⟩ := R_slice_n ho6
          have HW := Lib.hid hw_
          have HW2 := Lib.hid hw2_
          have HO5 := Lib.hid ho5
          have HN5 := Lib.hid hn5
          have HO6 := Lib.hid ho6
          clear hw_ hw2_ ho5 hn5 ho6
          refine norm_ (a' := ?_) ?_ ?_
          rotate_left
          focus (simp only [putAll, Act.put, List.setIfInBounds_toArray, List.set_cons_zero, List.set_cons_succ]; rfl)
          refine one_ (i := 12) (N := some 41) #[true, true, true, true, true, true, true, true, true, true, true, true, true, false, false, true, true, false, false] rfl rfl (by kernel_rfl) (by decide) (fun K hK => ?_)
          refine Kd.R_append_rows_step (Kd.int .u8) (w0 := W2) W2.heap.size (by rfl) (.tmp 39) (.tmp 40) 28 5 (.int .u8 0) 1 rfl Try.underlying28 info_u8 rfl (by decide) (by omega) (.slice A6 m6 c6) [] b B b.length cb (fun _ => True) (fun _ => False) rfl rfl HO6.out (Kd.C_below HBB.out HW.out) (fun _ _ h => h) (fun _ h => h.elim) (fun _ _ => trivial) HW2.out HW2.out.size (by have := HBL.out; simp; omega) ?_
          intro v7 w7 ho7 hb7 hg7 hat7
          rw [List.nil_append] at ho7
          obtain ⟨A7, c7, m7, rfl, HM7⟩ := R_slice_n ho7
          have t1 := Lib.hid (below_grown HW.out hg7 (fun k e => by have := Kd.R_base HO6.out k e; have := HBW.out.size; omega))
          have t3 := Lib.hid (Kd.R_mono (ok' := fun _ => True) (Kd.R_grown HO5.out hg7 (fun k hk => hk)) (fun _ _ => trivial))
          have HO7 := Lib.hid (own_ne t3.out ho7 (by decide))
          clear HO5 HW hHeld
          have HO5 := t3
          have HW := t1
          clear ho7 hb7 hg7 hat7 t1 t3
          refine hK.out _ _ (pw_cell_below HW.out c2) (fun hHeld => ?_)
          clear hK K
          try (refine norm_ (a' := ?_) ?_ ?_; rotate_left; focus (simp only [Act.put, List.setIfInBounds_toArray, List.set_cons_zero, List.set_cons_succ, i64_w, i32_w]; rfl))
          refine one_ (i := 13) (N := some 42) #[true, true, true, true, true, true, true, true, true, true, true, true, true, true, false, true, true, false, false] rfl rfl (by kernel_rfl) (by decide) (fun K hK => ?_)
          go_simp
          clear hHeld
          refine hK.out _ _ (pw_cell_below (below_alloc HW.out _) c2) (fun hHeld => ?_)
          clear hK K
          try (refine norm_ (a' := ?_) ?_ ?_; rotate_left; focus (simp only [Act.put, List.setIfInBounds_toArray, List.set_cons_zero, List.set_cons_succ, i64_w, i32_w]; rfl))
          refine one_ (i := 14) (N := some 43) #[true, true, true, true, true, true, true, true, true, true, true, true, true, true, true, true, true, false, false] rfl rfl (by kernel_rfl) (by decide) (fun K hK => ?_)
          refine Kd.R_append_step (Kd.slice 5 (Kd.int .u8)) (w0 := w7) (W := w7) 0 (by rfl) (.tmp 38) (.tmp 42) 46 28 (.slice none 0 0) 24 rfl Try.underlying46 info_sl rfl (by decide) (by omega) _ (n.way 0) b [.slice A7 m7 c7] (fun _ => True) (fun k => some k ≠ (Value.slice A5 m5 c5).ownBlock) rfl rfl ⟨_, rfl, Kd.R_lower HO7.out (Nat.zero_le _)⟩ (fun k hk => ⟨trivial, hk⟩) (fun _ _ => trivial) HO5.out (Below.refl 0 _) (Nat.zero_le _) (by rw [← HM.out]; omega) ?_
          intro v9 w9 ho9 hb9 hg9 hat9
          obtain ⟨A9, c9, m9, rfl, HM9⟩ := R_slice_n ho9
          have F9 : Hid (Fr w w9 (fun k => (Value.slice A m c).ownBlock = some k)) := (Fr.of_below HW.out _).then_ (fr_grown hg9) (fun i hi => .inr (HN5.out i hi.symm))
          have HAT := Lib.hid hat9
          have HO9 := Lib.hid ho9
          have fz := H.out.frozen (by decide) (i := 0) (by decide) c2 F9.out 2
          clear ho9 hb9 hg9 hat9 hHeld
          refine hK.out _ _ (c29 F9.out) (fun hHeld => ?_)
          clear hK K
          try (refine norm_ (a' := ?_) ?_ ?_; rotate_left; focus (simp only [Act.put, List.setIfInBounds_toArray, List.set_cons_zero, List.set_cons_succ, i64_w, i32_w]; rfl))
          refine pure_ (i := 17) (N := some 46) (v := ?_) (a' := ?_) #[true, true, true, true, true, true, true, true, true, true, true, true, true, true, true, true, true, true, false] rfl rfl (by kernel_rfl) (fun _ _ _ h => h) (Or.inl ⟨by rfl, ?_⟩) ?_ ?_
          rotate_left
          · intro w'
            go_simp
            with_reducible rfl
          rotate_left
          · simp only [Act.put, List.setIfInBounds_toArray, List.set_cons_zero, List.set_cons_succ, i64_w, i32_w]
            rfl
          refine last_ (i := 18) (N := none) #[true, true, true, true, true, true, true, true, true, true, true, true, true, true, true, true, true, true, true] rfl rfl (by kernel_rfl) (by decide) (fun K hK => ?_)
          go_simp
          clear hHeld
          refine hK.out _ _ ?_
          clear hK K
          try (refine norm_ (a' := ?_) ?_ ?_; rotate_left; focus (simp only [Act.put, List.setIfInBounds_toArray, List.set_cons_zero, List.set_cons_succ, i64_w, i32_w]; rfl))
          refine done_ (by kernel_rfl) ?_
          have HATF : ∀ k, (Value.slice A9 m9 c9).ownBlock = some k → (Value.slice A m c).ownBlock = some k ∨ w.heap.size ≤ k := fun k hk => by
            rcases HAT.out with e | ⟨b9, e, hl⟩
            · rw [e] at hk; exact .inr (HN5.out k hk)
            · rw [e] at hk; cases hk; exact .inr (Nat.le_trans HW.out.size hl)
          go_wp2_with fail
          go_ret
          rw [E.out]
          obtain ⟨O', hN, hE⟩ := H.out.stored (by decide) (by decide) (by decide) (i := 0) (by decide) c2 F9.out HO9.out (fun k hk => HATF k hk)
          exact ⟨O', rfl, hN, hE⟩
        · have c2 : w.cell? ⟨g, 3, none⟩ = some (.slice A m c) := hv
          clear hv
          have hmb : m < 1000 := by omega
          have c29 : ∀ {W : World}, Fr w W (fun k => (Value.slice A m c).ownBlock = some k) → W.cell? ⟨g, 3, none⟩ = some (.slice A m c) := fun hf => by
            obtain ⟨v', hv', _, _, hne⟩ := H.out.ways (i := 1) (by decide)
            obtain rfl := Option.some.inj (hv'.symm.trans c2)
            rw [World.cell?_of_block (hf.block g (World.block_lt_of_cell? w _ c2) (fun e => by rcases hne g e with h2 | h2 <;> first | exact h2 rfl | (revert h2; decide)))]
            exact c2
          go_enter Try.func25, Try.ntmps25
          go_wp2_with fail
          refine start_ (n := 12) (S := fun w' => w'.cell? ⟨g, 0, none⟩ = some (.int .i64 n.room) ∧ w'.cell? ⟨g, 3, none⟩ = some (.slice A m c)) (ds := []) #[false, false, false, false, false, false, false, false, false, false, false, false] (by kernel_rfl) rfl rfl ⟨x0, c2⟩ (fun hHeld => ?_)
          refine pure_ (i := 0) (N := some 17) (v := ?_) (a' := ?_) #[true, false, false, false, false, false, false, false, false, false, false, false] rfl rfl (by kernel_rfl) (fun _ _ _ h => h) (Or.inl ⟨by rfl, ?_⟩) ?_ ?_
          rotate_left
          · intro w'
            go_simp
            with_reducible rfl
          rotate_left
          · simp only [Act.put, List.setIfInBounds_toArray, List.set_cons_zero, List.set_cons_succ, i64_w, i32_w]
            rfl
          refine pure_ (i := 1) (N := some 18) (v := ?_) (a' := ?_) #[true, true, false, false, false, false, false, false, false, false, false, false] rfl rfl (by kernel_rfl) (fun _ _ _ h => h) (Or.inl ⟨by rfl, ?_⟩) ?_ ?_
          rotate_left
          · intro w'
            go_simp
            with_reducible rfl
          rotate_left
          · simp only [Act.put, List.setIfInBounds_toArray, List.set_cons_zero, List.set_cons_succ, i64_w, i32_w]
            rfl
          refine pure_ (i := 2) (N := some 19) (v := ?_) (a' := ?_) #[true, true, true, false, false, false, false, false, false, false, false, false] rfl rfl (by kernel_rfl) (fun _ _ _ h => h) (Or.inl ⟨by rfl, ?_⟩) ?_ ?_
          rotate_left
          · intro w'
            go_simp
            with_reducible rfl
          rotate_left
          · simp only [Act.put, List.setIfInBounds_toArray, List.set_cons_zero, List.set_cons_succ, i64_w, i32_w]
            rfl
          refine pure_ (i := 3) (N := some 20) (v := ?_) (a' := ?_) #[true, true, true, true, false, false, false, false, false, false, false, false] rfl rfl (by kernel_rfl) (fun _ _ _ h => h) (Or.inl ⟨by rfl, ?_⟩) ?_ ?_
          rotate_left
          · intro w'
            go_simp
            with_reducible rfl
          rotate_left
          · simp only [Act.put, List.setIfInBounds_toArray, List.set_cons_zero, List.set_cons_succ, i64_w, i32_w]
            rfl
          refine pure_ (i := 4) (N := some 21) (v := ?_) (a' := ?_) #[true, true, true, true, true, false, false, false, false, false, false, false] rfl rfl (by kernel_rfl) (fun _ _ _ h => h) (Or.inl ⟨by rfl, ?_⟩) ?_ ?_
          rotate_left
          · intro w'
            go_simp
            with_reducible rfl
          rotate_left
          · simp only [Act.put, List.setIfInBounds_toArray, List.set_cons_zero, List.set_cons_succ, i64_w, i32_w]
            rfl
          refine pure_ (i := 7) (N := some 24) (v := ?_) (a' := ?_) #[true, true, true, true, true, false, false, true, false, false, false, false] rfl rfl (by kernel_rfl) (fun _ _ _ h => h) (Or.inl ⟨by rfl, ?_⟩) ?_ ?_
          rotate_left
          · intro w'
            go_simp
            with_reducible rfl
          rotate_left
          · simp only [Act.put, List.setIfInBounds_toArray, List.set_cons_zero, List.set_cons_succ, i64_w, i32_w]
            rfl
          refine pure_ (i := 8) (N := some 25) (v := ?_) (a' := ?_) #[true, true, true, true, true, false, false, true, true, false, false, false] rfl rfl (by kernel_rfl) (fun _ _ _ h => h) (Or.inl ⟨by rfl, ?_⟩) ?_ ?_
          rotate_left
          · intro w'
            go_simp
            with_reducible rfl
          rotate_left
          · simp only [Act.put, List.setIfInBounds_toArray, List.set_cons_zero, List.set_cons_succ, i64_w, i32_w]
            rfl
          refine pure_ (i := 9) (N := some 26) (v := ?_) (a' := ?_) #[true, true, true, true, true, false, false, true, true, true, false, false] rfl rfl (by kernel_rfl) (fun _ _ _ h => h) (Or.inl ⟨by rfl, ?_⟩) ?_ ?_
          rotate_left
          · intro w'
            go_simp
            with_reducible rfl
          rotate_left
          · simp only [Act.put, List.setIfInBounds_toArray, List.set_cons_zero, List.set_cons_succ, i64_w, i32_w]
            rfl
          refine take_ (i := 5) (N := some 22) (v := ?_) (a' := ?_) #[true, true, true, true, true, true, false, true, true, true, false, false] rfl rfl (by kernel_rfl) (fun _ _ _ h => h) (Or.inl ⟨by rfl, ?_⟩) hHeld ?_ ?_
          rotate_left
          · rintro w' ⟨s0, s1⟩
            go_simp
            with_reducible rfl
          rotate_left
          · simp only [Act.put, List.setIfInBounds_toArray, List.set_cons_zero, List.set_cons_succ, i64_w, i32_w]
            rfl
          refine pure_ (i := 6) (N := some 23) (v := ?_) (a' := ?_) #[true, true, true, true, true, true, true, true, true, true, false, false] rfl rfl (by kernel_rfl) (fun _ _ _ h => h) (Or.inl ⟨by rfl, ?_⟩) ?_ ?_
          rotate_left
          · intro w'
            go_simp
            with_reducible rfl
          rotate_left
          · simp only [Act.put, List.setIfInBounds_toArray, List.set_cons_zero, List.set_cons_succ, i64_w, i32_w]
            rfl
          refine take_ (i := 10) (N := some 27) (v := ?_) (a' := ?_) #[true, true, true, true, true, true, true, true, true, true, true, false] rfl rfl (by kernel_rfl) (fun _ _ _ h => h) (Or.inl ⟨by rfl, ?_⟩) hHeld ?_ ?_
          rotate_left
          · rintro w' ⟨s0, s1⟩
            go_simp
            with_reducible rfl
          rotate_left
          · simp only [Act.put, List.setIfInBounds_toArray, List.set_cons_zero, List.set_cons_succ, i64_w, i32_w]
            rfl
          refine pure_ (i := 11) (N := some 28) (v := ?_) (a' := ?_) #[true, true, true, true, true, true, true, true, true, true, true, true] rfl rfl (by kernel_rfl) (fun _ _ _ h => h) (Or.inl ⟨by rfl, ?_⟩) ?_ ?_
          rotate_left
          · intro w'
            go_simp
            with_reducible rfl
          rotate_left
          · simp only [Act.put, List.setIfInBounds_toArray, List.set_cons_zero, List.set_cons_succ, i64_w, i32_w]
            rfl
          refine done_ (by kernel_rfl) ?_
          go_wp2_with fail
          refine start_ (n := 19) (S := fun w' => w'.cell? ⟨g, 3, none⟩ = some (.slice A m c)) (ds := [18]) #[false, false, false, false, false, false, false, false, false, false, false, false, false, false, false, false, false, false, false] (by kernel_rfl) rfl rfl c2 (fun hHeld => ?_)
          obtain ⟨W2, hW2⟩ : ∃ W2, w.drew.drew = W2 := ⟨_, rfl⟩
          have hbw : Below w.heap.size w W2 := by rw [← hW2]; exact below_drew (below_drew (Below.refl _ _))
          rw [hW2] at hHeld ⊢
          clear hW2
          have HW := Lib.hid hbw
          have HBW := Lib.hid hbw
          have HW2 := Lib.hid (Below.refl W2.heap.size W2)
          clear hbw
          refine pure_ (i := 0) (N := some 29) (v := ?_) (a' := ?_) #[true, false, false, false, false, false, false, false, false, false, false, false, false, false, false, false, false, false, false] rfl rfl (by kernel_rfl) (fun _ _ _ h => h) (Or.inl ⟨by rfl, ?_⟩) ?_ ?_
          rotate_left
          · intro w'
            go_simp
            with_reducible rfl
          rotate_left
          · simp only [Act.put, List.setIfInBounds_toArray, List.set_cons_zero, List.set_cons_succ, i64_w, i32_w]
            rfl
          refine pure_ (i := 1) (N := some 30) (v := ?_) (a' := ?_) #[true, true, false, false, false, false, false, false, false, false, false, false, false, false, false, false, false, false, false] rfl rfl (by kernel_rfl) (fun _ _ _ h => h) (Or.inl ⟨by rfl, ?_⟩) ?_ ?_
          rotate_left
          · intro w'
            go_simp
            with_reducible rfl
          rotate_left
          · simp only [Act.put, List.setIfInBounds_toArray, List.set_cons_zero, List.set_cons_succ, i64_w, i32_w]
            rfl
          refine pure_ (i := 3) (N := some 32) (v := ?_) (a' := ?_) #[true, true, false, true, false, false, false, false, false, false, false, false, false, false, false, false, false, false, false] rfl rfl (by kernel_rfl) (fun _ _ _ h => h) (Or.inl ⟨by rfl, ?_⟩) ?_ ?_
          rotate_left
          · intro w'
            go_simp
            with_reducible rfl
          rotate_left
          · simp only [Act.put, List.setIfInBounds_toArray, List.set_cons_zero, List.set_cons_succ, i64_w, i32_w]
            rfl
          refine pure_ (i := 4) (N := some 33) (v := ?_) (a' := ?_) #[true, true, false, true, true, false, false, false, false, false, false, false, false, false, false, false, false, false, false] rfl rfl (by kernel_rfl) (fun _ _ _ h => h) (Or.inl ⟨by rfl, ?_⟩) ?_ ?_
          rotate_left
          · intro w'
            go_simp
            with_reducible rfl
          rotate_left
          · simp only [Act.put, List.setIfInBounds_toArray, List.set_cons_zero, List.set_cons_succ, i64_w, i32_w]
            rfl
          refine pure_ (i := 5) (N := some 34) (v := ?_) (a' := ?_) #[true, true, false, true, true, true, false, false, false, false, false, false, false, false, false, false, false, false, false] rfl rfl (by kernel_rfl) (fun _ _ _ h => h) (Or.inl ⟨by rfl, ?_⟩) ?_ ?_
          rotate_left
          · intro w'
            go_simp
            with_reducible rfl
          rotate_left
          · simp only [Act.put, List.setIfInBounds_toArray, List.set_cons_zero, List.set_cons_succ, i64_w, i32_w]
            rfl
          refine pure_ (i := 6) (N := some 35) (v := ?_) (a' := ?_) #[true, true, false, true, true, true, true, false, false, false, false, false, false, false, false, false, false, false, false] rfl rfl (by kernel_rfl) (fun _ _ _ h => h) (Or.inl ⟨by rfl, ?_⟩) ?_ ?_
          rotate_left
          · intro w'
            go_simp
            with_reducible rfl
          rotate_left
          · simp only [Act.put, List.setIfInBounds_toArray, List.set_cons_zero, List.set_cons_succ, i64_w, i32_w]
            rfl
          refine pure_ (i := 7) (N := some 36) (v := ?_) (a' := ?_) #[true, true, false, true, true, true, true, true, false, false, false, false, false, false, false, false, false, false, false] rfl rfl (by kernel_rfl) (fun _ _ _ h => h) (Or.inl ⟨by rfl, ?_⟩) ?_ ?_
          rotate_left
          · intro w'
            go_simp
            with_reducible rfl
          rotate_left
          · simp only [Act.put, List.setIfInBounds_toArray, List.set_cons_zero, List.set_cons_succ, i64_w, i32_w]
            rfl
          refine pure_ (i := 11) (N := some 40) (v := ?_) (a' := ?_) #[true, true, false, true, true, true, true, true, false, false, false, true, false, false, false, false, false, false, false] rfl rfl (by kernel_rfl) (fun _ _ _ h => h) (Or.inl ⟨by rfl, ?_⟩) ?_ ?_
          rotate_left
          · intro w'
            go_simp
            with_reducible rfl
          rotate_left
          · simp only [Act.put, List.setIfInBounds_toArray, List.set_cons_zero, List.set_cons_succ, i64_w, i32_w]
            rfl
          refine pure_ (i := 15) (N := some 44) (v := ?_) (a' := ?_) #[true, true, false, true, true, true, true, true, false, false, false, true, false, false, false, true, false, false, false] rfl rfl (by kernel_rfl) (fun _ _ _ h => h) (Or.inl ⟨by rfl, ?_⟩) ?_ ?_
          rotate_left
          · intro w'
            go_simp
            with_reducible rfl
          rotate_left
          · simp only [Act.put, List.setIfInBounds_toArray, List.set_cons_zero, List.set_cons_succ, i64_w, i32_w]
            rfl
          refine pure_ (i := 16) (N := some 45) (v := ?_) (a' := ?_) #[true, true, false, true, true, true, true, true, false, false, false, true, false, false, false, true, true, false, false] rfl rfl (by kernel_rfl) (fun _ _ _ h => h) (Or.inl ⟨by rfl, ?_⟩) ?_ ?_
          rotate_left
          · intro w'
            go_simp
            with_reducible rfl
          rotate_left
          · simp only [Act.put, List.setIfInBounds_toArray, List.set_cons_zero, List.set_cons_succ, i64_w, i32_w]
            rfl
          refine take_ (i := 8) (N := some 37) (v := ?_) (a' := ?_) #[true, true, false, true, true, true, true, true, true, false, false, true, false, false, false, true, true, false, false] rfl rfl (by kernel_rfl) (fun _ _ _ h => h) (Or.inl ⟨by rfl, ?_⟩) hHeld ?_ ?_
          rotate_left
          · rintro w' s0
            go_simp
            with_reducible rfl
          rotate_left
          · simp only [Act.put, List.setIfInBounds_toArray, List.set_cons_zero, List.set_cons_succ, i64_w, i32_w]
            rfl
          refine join_ (σ := Value × Value × Value) 5 #[true, true, true, true, true, true, true, true, true, true, true, true, false, false, false, true, true, false, false] (fun s => [(31, s.1), (38, s.2.1), (39, s.2.2)]) (fun s w' => w'.cell? ⟨g, 3, none⟩ = some (.slice A m c) ∧ Below w.heap.size w w' ∧ Below W2.heap.size W2 w' ∧ (Kd.slice 5 (Kd.int .u8)).R 28 w' 0 (fun k => some k ≠ s.2.2.ownBlock) s.2.1 (n.way 1) ∧ (∀ k, s.2.1.ownBlock = some k → w.heap.size ≤ k) ∧ (Kd.int .u8).R 5 w' W2.heap.size (fun _ => True) s.2.2 []) ?_ ?_
          rotate_left
          · intro hCont
            refine two_ (i := 2) (j := 10) (Ni := some 31) (Nj := some 39) #[true, true, true, true, true, true, true, true, true, false, false, true, false, false, false, true, true, false, false] #[true, true, false, true, true, true, true, true, true, false, true, true, false, false, false, true, true, false, false] rfl rfl rfl rfl (by kernel_rfl) (by decide) (by decide) (fun K hK => ?_) (fun K hK => ?_)
            · skip
              refine Kd.R_lit_step (Kd.slice 5 (Kd.int .u8)) (w0 := W2) W2.heap.size 28 ?hg (N := 31) ?hd (xs := ([] : List (List Int))) (inner := []) (ok := fun _ => True) (okp := fun _ => True) ?hr ?hp (fun _ hk => hk) trivial HW2.out HW2.out.size (by simp) ?_
              (case hd => rfl)
              (case hg => rfl)
              (case hr => first | (go_simp; done) | (go_simp; rfl))
              (case hp => exact Reps.none _ _)
              intro v3 w3 ho3 hb3 hg3 _
              obtain ⟨A3, c3, m3, rfl, HM3⟩ := R_slice_n ho3
              have HO3 := Lib.hid ho3
              have BN := Lib.hid (below_none hg3)
              have t1 := Lib.hid (HW.out.trans (BN.out.mono HW.out.size))
              have t2 := Lib.hid hb3
              try (have t3 := Lib.hid (Kd.R_below HO6.out BN.out); clear HO6; have HO6 := t3; clear t3)
              clear HW HW2 hHeld
              have HW := t1
              have HW2 := t2
              clear ho3 hb3 hg3 BN t1 t2
              refine hK.out _ _ (pw_cell_below HW.out c2) (fun hHeld => ?_)
              clear hK K
              refine norm_ (a' := ?_) ?_ ?_
              rotate_left
              · show Act.put _ (some 31) _ = _
                simp only [Act.put, List.setIfInBounds_toArray, List.set_cons_zero, List.set_cons_succ, i64_w, i32_w]
                rfl
              refine two_ (i := 9) (j := 10) (Ni := some 38) (Nj := some 39) #[true, true, true, true, true, true, true, true, true, true, false, true, false, false, false, true, true, false, false] #[true, true, true, true, true, true, true, true, true, false, true, true, false, false, false, true, true, false, false] rfl rfl rfl rfl (by kernel_rfl) (by decide) (by decide) (fun K hK => ?_) (fun K hK => ?_)
              · skip
                obtain ⟨N, hN⟩ := cur_size HW.out
                refine Kd.R_append_rows_step (Kd.slice 5 (Kd.int .u8)) (w0 := W2) 0 (by rfl) (.tmp 31) (.tmp 37) 46 28 (.slice none 0 0) 24 rfl Try.underlying46 info_sl rfl (by decide) (by omega) (.slice A3 m3 c3) [] (n.way 1) A m c (fun k => k < w.heap.size ∨ N ≤ k ∨ some k = (Value.slice A3 m3 c3).ownBlock) (fun k => k < w.heap.size) rfl rfl (Kd.R_lower (Kd.R_mono (Kd.R_head_ok HO3.out) (fun k hk => .inr (.inr hk))) (Nat.zero_le _)) (by have := (BR.readsM HR.out).2.2; rw [← HM.out] at this; exact ReadsRow.imp_ this (HW.out) (fun _ _ hp => Kd.M_below hp HW.out)) (fun _ _ h => h) (fun k hk => ⟨.inl hk, fun e => by have := Kd.R_base HO3.out k e.symm; have := HBW.out.size; omega⟩) (fun k hk => .inr (.inl (by omega))) (HW2.out.mono (Nat.zero_le _)) (Nat.zero_le _) (by simp; omega) ?_
                intro v5 w5 ho5 _ hg5 hat5
                rw [List.nil_append] at ho5
                obtain ⟨A5, c5, m5, rfl, HM5⟩ := R_slice_n ho5
                have t1 := Lib.hid (below_grown HW.out hg5 (fun k e => by have := Kd.R_base HO3.out k e; have := HBW.out.size; omega))
                have t2 := Lib.hid (below_grown HW2.out hg5 (fun k e => Kd.R_base HO3.out k e))
                have HN5 : Hid (∀ k, (Value.slice A5 m5 c5).ownBlock = some k → w.heap.size ≤ k) := fun k hk => by
                  rcases hat5 with e | ⟨b9, e, hl⟩
                  · rw [e] at hk; have := Kd.R_base HO3.out k hk; have := HBW.out.size; omega
                  · rw [e] at hk; cases hk; have := HW.out.size; omega
                have HO5 := Lib.hid ho5
                try (have HJ := Lib.hid (Kd.R_mono (ok' := fun k => some k ≠ (Value.slice A6 m6 c6).ownBlock) ho5 (fun k hk => ne_of (W2 := W2) HO3.out HO6.out (by decide) (by rw [← hN]; exact hk) HBW.out.size)))
                try (have t3 := Lib.hid (Kd.R_over' HO6.out (Kd.R_typed HO3.out) (by decide) hg5); clear HO6; have HO6 := t3; clear t3)
                clear HW HW2 hHeld
                have HW := t1
                have HW2 := t2
                clear ho5 hg5 hat5 t1 t2 hN
                refine hK.out _ _ (pw_cell_below HW.out c2) (fun hHeld => ?_)
                clear hK K
                refine norm_ (a' := ?_) ?_ ?_
                rotate_left
                · show Act.put _ (some 38) _ = _
                  simp only [Act.put, List.setIfInBounds_toArray, List.set_cons_zero, List.set_cons_succ, i64_w, i32_w]
                  rfl
                refine one_ (i := 10) (N := some 39) #[true, true, true, true, true, true, true, true, true, true, true, true, false, false, false, true, true, false, false] rfl rfl (by kernel_rfl) (by decide) (fun K hK => ?_)
                refine Kd.R_lit_step (Kd.int .u8) (w0 := W2) W2.heap.size 5 ?hg (N := 39) ?hd (xs := ([] : List Int)) (inner := []) (ok := fun _ => True) (okp := fun _ => True) ?hr ?hp (fun _ hk => hk) trivial HW2.out HW2.out.size (by simp) ?_
                (case hd => rfl)
                (case hg => rfl)
                (case hr => first | (go_simp; done) | (go_simp; rfl))
                (case hp => exact Reps.none _ _)
                intro v6 w6 ho6 hb6 hg6 hat6
                obtain ⟨A6, c6, m6, rfl, HM6⟩ := R_slice_n ho6
                have HO6 := Lib.hid ho6
                have BN := Lib.hid (below_none hg6)
                have t1 := Lib.hid (HW.out.trans (BN.out.mono HW.out.size))
                have t2 := Lib.hid hb6
                try (have t3 := Lib.hid (Kd.R_below HO3.out BN.out); clear HO3; have HO3 := t3; clear t3)
                try (have HJ := Lib.hid (Kd.R_below (Kd.R_mono (ok' := fun k => some k ≠ (Value.slice A6 m6 c6).ownBlock) (Kd.R_bound HO5.out) (fun k hk e => by obtain ⟨b6, e6, l6⟩ := hat6; rw [e6] at e; cases e; have := hk.2.2.1; omega)) BN.out))
                clear HW HW2 hHeld
                have HW := t1
                have HW2 := t2
                clear ho6 hb6 hg6 hat6 BN t1 t2
                refine hK.out _ _ (pw_cell_below HW.out c2) (fun hHeld => ?_)
                clear hK K
                refine norm_ (a' := ?_) ?_ ?_
                rotate_left
                · show Act.put _ (some 39) _ = _
                  simp only [Act.put, List.setIfInBounds_toArray, List.set_cons_zero, List.set_cons_succ, i64_w, i32_w]
                  rfl
                exact norm_ (by simp only [putAll, Act.put, List.setIfInBounds_toArray, List.set_cons_zero, List.set_cons_succ]) (hCont (.slice A3 m3 c3, .slice A5 m5 c5, .slice A6 m6 c6) _ ⟨hHeld, HW.out, HW2.out, HJ.out, HN5.out, HO6.out⟩)
              · skip
                refine Kd.R_lit_step (Kd.int .u8) (w0 := W2) W2.heap.size 5 ?hg (N := 39) ?hd (xs := ([] : List Int)) (inner := []) (ok := fun _ => True) (okp := fun _ => True) ?hr ?hp (fun _ hk => hk) trivial HW2.out HW2.out.size (by simp) ?_
                (case hd => rfl)
                (case hg => rfl)
                (case hr => first | (go_simp; done) | (go_simp; rfl))
                (case hp => exact Reps.none _ _)
                intro v6 w6 ho6 hb6 hg6 hat6
                obtain ⟨A6, c6, m6, rfl, HM6⟩ := R_slice_n ho6
                have HO6 := Lib.hid ho6
                have BN := Lib.hid (below_none hg6)
                have t1 := Lib.hid (HW.out.trans (BN.out.mono HW.out.size))
                have t2 := Lib.hid hb6
                try (have t3 := Lib.hid (Kd.R_below HO3.out BN.out); clear HO3; have HO3 := t3; clear t3)
                try (have HJ := Lib.hid (Kd.R_below (Kd.R_mono (ok' := fun k => some k ≠ (Value.slice A6 m6 c6).ownBlock) (Kd.R_bound HO5.out) (fun k hk e => by obtain ⟨b6, e6, l6⟩ := hat6; rw [e6] at e; cases e; have := hk.2.2.1; omega)) BN.out))
                clear HW HW2 hHeld
                have HW := t1
                have HW2 := t2
                clear ho6 hb6 hg6 hat6 BN t1 t2
                refine hK.out _ _ (pw_cell_below HW.out c2) (fun hHeld => ?_)
                clear hK K
                refine norm_ (a' := ?_) ?_ ?_
                rotate_left
                · show Act.put _ (some 39) _ = _
                  simp only [Act.put, List.setIfInBounds_toArray, List.set_cons_zero, List.set_cons_succ, i64_w, i32_w]
                  rfl
                refine one_ (i := 9) (N := some 38) #[true, true, true, true, true, true, true, true, true, true, true, true, false, false, false, true, true, false, false] rfl rfl (by kernel_rfl) (by decide) (fun K hK => ?_)
                obtain ⟨N, hN⟩ := cur_size HW.out
                refine Kd.R_append_rows_step (Kd.slice 5 (Kd.int .u8)) (w0 := W2) 0 (by rfl) (.tmp 31) (.tmp 37) 46 28 (.slice none 0 0) 24 rfl Try.underlying46 info_sl rfl (by decide) (by omega) (.slice A3 m3 c3) [] (n.way 1) A m c (fun k => k < w.heap.size ∨ N ≤ k ∨ some k = (Value.slice A3 m3 c3).ownBlock) (fun k => k < w.heap.size) rfl rfl (Kd.R_lower (Kd.R_mono (Kd.R_head_ok HO3.out) (fun k hk => .inr (.inr hk))) (Nat.zero_le _)) (by have := (BR.readsM HR.out).2.2; rw [← HM.out] at this; exact ReadsRow.imp_ this (HW.out) (fun _ _ hp => Kd.M_below hp HW.out)) (fun _ _ h => h) (fun k hk => ⟨.inl hk, fun e => by have := Kd.R_base HO3.out k e.symm; have := HBW.out.size; omega⟩) (fun k hk => .inr (.inl (by omega))) (HW2.out.mono (Nat.zero_le _)) (Nat.zero_le _) (by simp; omega) ?_
                intro v5 w5 ho5 _ hg5 hat5
                rw [List.nil_append] at ho5
                obtain ⟨A5, c5, m5, rfl, HM5⟩ := R_slice_n ho5
                have t1 := Lib.hid (below_grown HW.out hg5 (fun k e => by have := Kd.R_base HO3.out k e; have := HBW.out.size; omega))
                have t2 := Lib.hid (below_grown HW2.out hg5 (fun k e => Kd.R_base HO3.out k e))
                have HN5 : Hid (∀ k, (Value.slice A5 m5 c5).ownBlock = some k → w.heap.size ≤ k) := fun k hk => by
                  rcases hat5 with e | ⟨b9, e, hl⟩
                  · rw [e] at hk; have := Kd.R_base HO3.out k hk; have := HBW.out.size; omega
                  · rw [e] at hk; cases hk; have := HW.out.size; omega
                have HO5 := Lib.hid ho5
                try (have HJ := Lib.hid (Kd.R_mono (ok' := fun k => some k ≠ (Value.slice A6 m6 c6).ownBlock) ho5 (fun k hk => ne_of (W2 := W2) HO3.out HO6.out (by decide) (by rw [← hN]; exact hk) HBW.out.size)))
                try (have t3 := Lib.hid (Kd.R_over' HO6.out (Kd.R_typed HO3.out) (by decide) hg5); clear HO6; have HO6 := t3; clear t3)
                clear HW HW2 hHeld
                have HW := t1
                have HW2 := t2
                clear ho5 hg5 hat5 t1 t2 hN
                refine hK.out _ _ (pw_cell_below HW.out c2) (fun hHeld => ?_)
                clear hK K
                refine norm_ (a' := ?_) ?_ ?_
                rotate_left
                · show Act.put _ (some 38) _ = _
                  simp only [Act.put, List.setIfInBounds_toArray, List.set_cons_zero, List.set_cons_succ, i64_w, i32_w]
                  rfl
                exact norm_ (by simp only [putAll, Act.put, List.setIfInBounds_toArray, List.set_cons_zero, List.set_cons_succ]) (hCont (.slice A3 m3 c3, .slice A5 m5 c5, .slice A6 m6 c6) _ ⟨hHeld, HW.out, HW2.out, HJ.out, HN5.out, HO6.out⟩)
            · skip
              refine Kd.R_lit_step (Kd.int .u8) (w0 := W2) W2.heap.size 5 ?hg (N := 39) ?hd (xs := ([] : List Int)) (inner := []) (ok := fun _ => True) (okp := fun _ => True) ?hr ?hp (fun _ hk => hk) trivial HW2.out HW2.out.size (by simp) ?_
              (case hd => rfl)
              (case hg => rfl)
              (case hr => first | (go_simp; done) | (go_simp; rfl))
              (case hp => exact Reps.none _ _)
              intro v6 w6 ho6 hb6 hg6 hat6
              obtain ⟨A6, c6, m6, rfl, HM6⟩ := R_slice_n ho6
              have HO6 := Lib.hid ho6
              have BN := Lib.hid (below_none hg6)
              have t1 := Lib.hid (HW.out.trans (BN.out.mono HW.out.size))
              have t2 := Lib.hid hb6
              try (have t3 := Lib.hid (Kd.R_below HO3.out BN.out); clear HO3; have HO3 := t3; clear t3)
              try (have HJ := Lib.hid (Kd.R_below (Kd.R_mono (ok' := fun k => some k ≠ (Value.slice A6 m6 c6).ownBlock) (Kd.R_bound HO5.out) (fun k hk e => by obtain ⟨b6, e6, l6⟩ := hat6; rw [e6] at e; cases e; have := hk.2.2.1; omega)) BN.out))
              clear HW HW2 hHeld
              have HW := t1
              have HW2 := t2
              clear ho6 hb6 hg6 hat6 BN t1 t2
              refine hK.out _ _ (pw_cell_below HW.out c2) (fun hHeld => ?_)
              clear hK K
              refine norm_ (a' := ?_) ?_ ?_
              rotate_left
              · show Act.put _ (some 39) _ = _
                simp only [Act.put, List.setIfInBounds_toArray, List.set_cons_zero, List.set_cons_succ, i64_w, i32_w]
                rfl
              refine one_ (i := 2) (N := some 31) #[true, true, true, true, true, true, true, true, true, false, true, true, false, false, false, true, true, false, false] rfl rfl (by kernel_rfl) (by decide) (fun K hK => ?_)
              refine Kd.R_lit_step (Kd.slice 5 (Kd.int .u8)) (w0 := W2) W2.heap.size 28 ?hg (N := 31) ?hd (xs := ([] : List (List Int))) (inner := []) (ok := fun _ => True) (okp := fun _ => True) ?hr ?hp (fun _ hk => hk) trivial HW2.out HW2.out.size (by simp) ?_
              (case hd => rfl)
              (case hg => rfl)
              (case hr => first | (go_simp; done) | (go_simp; rfl))
              (case hp => exact Reps.none _ _)
              intro v3 w3 ho3 hb3 hg3 _
              obtain ⟨A3, c3, m3, rfl, HM3⟩ := R_slice_n ho3
              have HO3 := Lib.hid ho3
              have BN := Lib.hid (below_none hg3)
              have t1 := Lib.hid (HW.out.trans (BN.out.mono HW.out.size))
              have t2 := Lib.hid hb3
              try (have t3 := Lib.hid (Kd.R_below HO6.out BN.out); clear HO6; have HO6 := t3; clear t3)
              clear HW HW2 hHeld
              have HW := t1
              have HW2 := t2
              clear ho3 hb3 hg3 BN t1 t2
              refine hK.out _ _ (pw_cell_below HW.out c2) (fun hHeld => ?_)
              clear hK K
              refine norm_ (a' := ?_) ?_ ?_
              rotate_left
              · show Act.put _ (some 31) _ = _
                simp only [Act.put, List.setIfInBounds_toArray, List.set_cons_zero, List.set_cons_succ, i64_w, i32_w]
                rfl
              refine one_ (i := 9) (N := some 38) #[true, true, true, true, true, true, true, true, true, true, true, true, false, false, false, true, true, false, false] rfl rfl (by kernel_rfl) (by decide) (fun K hK => ?_)
              obtain ⟨N, hN⟩ := cur_size HW.out
              refine Kd.R_append_rows_step (Kd.slice 5 (Kd.int .u8)) (w0 := W2) 0 (by rfl) (.tmp 31) (.tmp 37) 46 28 (.slice none 0 0) 24 rfl Try.underlying46 info_sl rfl (by decide) (by omega) (.slice A3 m3 c3) [] (n.way 1) A m c (fun k => k < w.heap.size ∨ N ≤ k ∨ some k = (Value.slice A3 m3 c3).ownBlock) (fun k => k < w.heap.size) rfl rfl (Kd.R_lower (Kd.R_mono (Kd.R_head_ok HO3.out) (fun k hk => .inr (.inr hk))) (Nat.zero_le _)) (by have := (BR.readsM HR.out).2.2; rw [← HM.out] at this; exact ReadsRow.imp_ this (HW.out) (fun _ _ hp => Kd.M_below hp HW.out)) (fun _ _ h => h) (fun k hk => ⟨.inl hk, fun e => by have := Kd.R_base HO3.out k e.symm; have := HBW.out.size; omega⟩) (fun k hk => .inr (.inl (by omega))) (HW2.out.mono (Nat.zero_le _)) (Nat.zero_le _) (by simp; omega) ?_
              intro v5 w5 ho5 _ hg5 hat5
              rw [List.nil_append] at ho5
              obtain ⟨A5, c5, m5, rfl, HM5⟩ := R_slice_n ho5
              have t1 := Lib.hid (below_grown HW.out hg5 (fun k e => by have := Kd.R_base HO3.out k e; have := HBW.out.size; omega))
              have t2 := Lib.hid (below_grown HW2.out hg5 (fun k e => Kd.R_base HO3.out k e))
              have HN5 : Hid (∀ k, (Value.slice A5 m5 c5).ownBlock = some k → w.heap.size ≤ k) := fun k hk => by
                rcases hat5 with e | ⟨b9, e, hl⟩
                · rw [e] at hk; have := Kd.R_base HO3.out k hk; have := HBW.out.size; omega
                · rw [e] at hk; cases hk; have := HW.out.size; omega
              have HO5 := Lib.hid ho5
              try (have HJ := Lib.hid (Kd.R_mono (ok' := fun k => some k ≠ (Value.slice A6 m6 c6).ownBlock) ho5 (fun k hk => ne_of (W2 := W2) HO3.out HO6.out (by decide) (by rw [← hN]; exact hk) HBW.out.size)))
              try (have t3 := Lib.hid (Kd.R_over' HO6.out (Kd.R_typed HO3.out) (by decide) hg5); clear HO6; have HO6 := t3; clear t3)
              clear HW HW2 hHeld
              have HW := t1
              have HW2 := t2
              clear ho5 hg5 hat5 t1 t2 hN
              refine hK.out _ _ (pw_cell_below HW.out c2) (fun hHeld => ?_)
              clear hK K
              refine norm_ (a' := ?_) ?_ ?_
              rotate_left
              · show Act.put _ (some 38) _ = _
                simp only [Act.put, List.setIfInBounds_toArray, List.set_cons_zero, List.set_cons_succ, i64_w, i32_w]
                rfl
              exact norm_ (by simp only [putAll, Act.put, List.setIfInBounds_toArray, List.set_cons_zero, List.set_cons_succ]) (hCont (.slice A3 m3 c3, .slice A5 m5 c5, .slice A6 m6 c6) _ ⟨hHeld, HW.out, HW2.out, HJ.out, HN5.out, HO6.out⟩)
          rintro ⟨u3, u5, u6⟩ w' ⟨hHeld, hw_, hw2_, ho5, hn5, ho6⟩
          dsimp only at ho5 hn5 ho6
          obtain ⟨A5, c5, m5, rfl, HM5⟩ := R_slice_n ho5
          obtain ⟨A6, c6, m6, rfl, HM6⟩ := R_slice_n ho6
          have HW := Lib.hid hw_
          have HW2 := Lib.hid hw2_
          have HO5 := Lib.hid ho5
          have HN5 := Lib.hid hn5
          have HO6 := Lib.hid ho6
          clear hw_ hw2_ ho5 hn5 ho6
          refine norm_ (a' := ?_) ?_ ?_
          rotate_left
          focus (simp only [putAll, Act.put, List.setIfInBounds_toArray, List.set_cons_zero, List.set_cons_succ]; rfl)
          refine one_ (i := 12) (N := some 41) #[true, true, true, true, true, true, true, true, true, true, true, true, true, false, false, true, true, false, false] rfl rfl (by kernel_rfl) (by decide) (fun K hK => ?_)
          refine Kd.R_append_rows_step (Kd.int .u8) (w0 := W2) W2.heap.size (by rfl) (.tmp 39) (.tmp 40) 28 5 (.int .u8 0) 1 rfl Try.underlying28 info_u8 rfl (by decide) (by omega) (.slice A6 m6 c6) [] b B b.length cb (fun _ => True) (fun _ => False) rfl rfl HO6.out (Kd.C_below HBB.out HW.out) (fun _ _ h => h) (fun _ h => h.elim) (fun _ _ => trivial) HW2.out HW2.out.size (by have := HBL.out; simp; omega) ?_
          intro v7 w7 ho7 hb7 hg7 hat7
          rw [List.nil_append] at ho7
          obtain ⟨A7, c7, m7, rfl, HM7⟩ := R_slice_n ho7
          have t1 := Lib.hid (below_grown HW.out hg7 (fun k e => by have := Kd.R_base HO6.out k e; have := HBW.out.size; omega))
          have t3 := Lib.hid (Kd.R_mono (ok' := fun _ => True) (Kd.R_grown HO5.out hg7 (fun k hk => hk)) (fun _ _ => trivial))
          have HO7 := Lib.hid (own_ne t3.out ho7 (by decide))
          clear HO5 HW hHeld
          have HO5 := t3
          have HW := t1
          clear ho7 hb7 hg7 hat7 t1 t3
          refine hK.out _ _ (pw_cell_below HW.out c2) (fun hHeld => ?_)
          clear hK K
          try (refine norm_ (a' := ?_) ?_ ?_; rotate_left; focus (simp only [Act.put, List.setIfInBounds_toArray, List.set_cons_zero, List.set_cons_succ, i64_w, i32_w]; rfl))
          refine one_ (i := 13) (N := some 42) #[true, true, true, true, true, true, true, true, true, true, true, true, true, true, false, true, true, false, false] rfl rfl (by kernel_rfl) (by decide) (fun K hK => ?_)
          go_simp
          clear hHeld
          refine hK.out _ _ (pw_cell_below (below_alloc HW.out _) c2) (fun hHeld => ?_)
          clear hK K
          try (refine norm_ (a' := ?_) ?_ ?_; rotate_left; focus (simp only [Act.put, List.setIfInBounds_toArray, List.set_cons_zero, List.set_cons_succ, i64_w, i32_w]; rfl))
          refine one_ (i := 14) (N := some 43) #[true, true, true, true, true, true, true, true, true, true, true, true, true, true, true, true, true, false, false] rfl rfl (by kernel_rfl) (by decide) (fun K hK => ?_)
          refine Kd.R_append_step (Kd.slice 5 (Kd.int .u8)) (w0 := w7) (W := w7) 0 (by rfl) (.tmp 38) (.tmp 42) 46 28 (.slice none 0 0) 24 rfl Try.underlying46 info_sl rfl (by decide) (by omega) _ (n.way 1) b [.slice A7 m7 c7] (fun _ => True) (fun k => some k ≠ (Value.slice A5 m5 c5).ownBlock) rfl rfl ⟨_, rfl, Kd.R_lower HO7.out (Nat.zero_le _)⟩ (fun k hk => ⟨trivial, hk⟩) (fun _ _ => trivial) HO5.out (Below.refl 0 _) (Nat.zero_le _) (by rw [← HM.out]; omega) ?_
          intro v9 w9 ho9 hb9 hg9 hat9
          obtain ⟨A9, c9, m9, rfl, HM9⟩ := R_slice_n ho9
          have F9 : Hid (Fr w w9 (fun k => (Value.slice A m c).ownBlock = some k)) := (Fr.of_below HW.out _).then_ (fr_grown hg9) (fun i hi => .inr (HN5.out i hi.symm))
          have HAT := Lib.hid hat9
          have HO9 := Lib.hid ho9
          have fz := H.out.frozen (by decide) (i := 1) (by decide) c2 F9.out 3
          clear ho9 hb9 hg9 hat9 hHeld
          refine hK.out _ _ (c29 F9.out) (fun hHeld => ?_)
          clear hK K
          try (refine norm_ (a' := ?_) ?_ ?_; rotate_left; focus (simp only [Act.put, List.setIfInBounds_toArray, List.set_cons_zero, List.set_cons_succ, i64_w, i32_w]; rfl))
          refine pure_ (i := 17) (N := some 46) (v := ?_) (a' := ?_) #[true, true, true, true, true, true, true, true, true, true, true, true, true, true, true, true, true, true, false] rfl rfl (by kernel_rfl) (fun _ _ _ h => h) (Or.inl ⟨by rfl, ?_⟩) ?_ ?_
          rotate_left
          · intro w'
            go_simp
            with_reducible rfl
          rotate_left
          · simp only [Act.put, List.setIfInBounds_toArray, List.set_cons_zero, List.set_cons_succ, i64_w, i32_w]
            rfl
          refine last_ (i := 18) (N := none) #[true, true, true, true, true, true, true, true, true, true, true, true, true, true, true, true, true, true, true] rfl rfl (by kernel_rfl) (by decide) (fun K hK => ?_)
          go_simp
          clear hHeld
          refine hK.out _ _ ?_
          clear hK K
          try (refine norm_ (a' := ?_) ?_ ?_; rotate_left; focus (simp only [Act.put, List.setIfInBounds_toArray, List.set_cons_zero, List.set_cons_succ, i64_w, i32_w]; rfl))
          refine done_ (by kernel_rfl) ?_
          have HATF : ∀ k, (Value.slice A9 m9 c9).ownBlock = some k → (Value.slice A m c).ownBlock = some k ∨ w.heap.size ≤ k := fun k hk => by
            rcases HAT.out with e | ⟨b9, e, hl⟩
            · rw [e] at hk; exact .inr (HN5.out k hk)
            · rw [e] at hk; cases hk; exact .inr (Nat.le_trans HW.out.size hl)
          go_wp2_with fail
          go_ret
          rw [E.out]
          obtain ⟨O', hN, hE⟩ := H.out.stored (by decide) (by decide) (by decide) (i := 1) (by decide) c2 F9.out HO9.out (fun k hk => HATF k hk)
          exact ⟨O', rfl, hN, hE⟩
  · have q : decide (NtS.one i) = false := decide_eq_false hi
    have E : Hid (n.put i b = (1, n)) := by show _ = _; unfold NtS.put; rw [if_pos hi]
    unfold NtS.one at hi
    by_cases h0 : i < 0
    · clear hi ol
      go_enter Try.func25, Try.ntmps25
      go_wp2_with fail
      go_ret
      rw [E.out]
      first | exact ⟨O, rfl, H.out, Ext.refl _ _⟩ | exact ⟨rfl, O, H.out, Ext.refl _ _⟩
    · have h1 : 1 < i := by omega
      clear hi ol
      go_enter Try.func25, Try.ntmps25
      go_wp2_with fail
      go_ret
      rw [E.out]
      first | exact ⟨O, rfl, H.out, Ext.refl _ _⟩ | exact ⟨rfl, O, H.out, Ext.refl _ _⟩
end Go.Proofs.Ytokcplapbjhnoaa
