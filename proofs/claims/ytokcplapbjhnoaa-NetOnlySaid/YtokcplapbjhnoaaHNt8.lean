/-
  A step at both nets. Conditions: both are of one kind, that may be; no more than a thousand bytes.
-/
import Derived.Test.YtokcplapbjhnoaaHNt7
namespace Go.Proofs.Ytokcplapbjhnoaa
open Go.RowKit Go.Proofs.YtokcplapbjhnoaaW.PrintWords Go.Proofs.YtokcplapbjhnoaaW.PrintLast Go.Proofs.YtokcplapbjhnoaaW.PrintMore
attribute [local go_sem] max2_int min2_int max_two min_two max_three min_three max_four min_four
set_option linter.unusedVariables false
set_option linter.unusedSimpArgs false

/-- Both nets, in memory. -/
structure Nets (w : World) (g : Nat) (O : Nat → Prop) (h : Nat) (O' : Nat → Prop) (n : NtS) : Prop where
  nn : NN w g O n
  rn : RN w h O' n
  ne : ∀ k, O k → ¬ O' k
theorem Nets.below {w w' : World} {g h : Nat} {O O' : Nat → Prop} {n : NtS} (b : Nets w g O h O' n) (hb : Below w.heap.size w w') : Nets w' g O h O' n := ⟨b.nn.below hb, b.rn.below hb, b.ne⟩
theorem Nets.mid {w w1 : World} {g h : Nat} {O O1 O' : Nat → Prop} {n : NtS} (b : Nets w g O h O' n) (f1 : Ext w w1 O O1) : RN w1 h O' n := b.rn.other b.nn (by decide) (by decide) (fun k hk ho => b.ne k ho hk) f1.1
theorem Nets.after {w w1 w2 : World} {g h : Nat} {O O1 O' O2 : Nat → Prop} {n n' : NtS} (b : Nets w g O h O' n) (h1 : NN w1 g O1 n') (f1 : Ext w w1 O O1) (h2 : RN w2 h O2 n') (f2 : Ext w1 w2 O' O2) :
    Nets w2 g O1 h O2 n' ∧ Fr w w2 (fun k => O k ∨ O' k) ∧ ∀ k, O1 k ∨ O2 k → O k ∨ O' k ∨ w.heap.size ≤ k := by
  have d1 : ∀ k, O1 k → ¬ O' k := fun k hk ho => by
    rcases f1.2 k hk with h3 | h3
    · exact b.ne k h3 ho
    · have := b.rn.lt k ho; omega
  refine ⟨⟨h1.other (b.mid f1) (by decide) (by decide) d1 f2.1, h2, fun k hk ho => ?_⟩, (f1.1.mono (fun k hk => .inl hk)).then_ f2.1 (fun k hk => .inl (.inr hk)), fun k hk => ?_⟩
  · rcases f2.2 k ho with h3 | h3
    · exact d1 k hk h3
    · have := h1.lt k hk; omega
  · rcases hk with hk | hk
    · rcases f1.2 k hk with h3 | h3
      · exact .inl h3
      · exact .inr (.inr h3)
    · rcases f2.2 k hk with h3 | h3
      · exact .inr (.inl h3)
      · exact .inr (.inr (Nat.le_trans f1.1.size h3))
theorem str_of {c m : Nat} {w : World} {A : Option Addr} {xs : List Int} (hm : m = xs.length) (h : (Kd.int .u8).C w A xs.length xs) : (convert 28 9 (.slice A m c)).run Try.prog w = .ok (.string (strOfNums xs)) w := by
  subst hm
  exact Kd.C_string Try.underlying28 Try.underlying5 Try.underlying9 h
/-- A row of bytes is a string, now. -/
theorem str_R {c m b : Nat} {ok : Nat → Prop} {w : World} {A : Option Addr} {xs : List Int} (h : (Kd.int .u8).R 5 w b ok (.slice A m c) xs) : (convert 28 9 (.slice A m c)).run Try.prog w = .ok (.string (strOfNums xs)) w := by
  obtain ⟨hm, _, hC⟩ := Kd.R_reads' h
  exact str_of hm hC
/-- A row of bytes stays, where a net alone turns. -/
theorem R_net {T U V : TypeId} {w W : World} {g : Nat} {O O' : Nat → Prop} {n : NtS} {v : Value} {xs : List Int} {b : Nat} {ok : Nat → Prop} (h : NtAt T U V w g O n) (hT : T ≠ U) (hV : V ≠ U) (hf : Ext w W O O') (hr : (Kd.int .u8).R U w b ok v xs) : (Kd.int .u8).R U W b ok v xs :=
  R_fr hr hf.1 (fun k hk hlt q hq cs hc => by
    rcases List.mem_cons.1 hq with rfl | hq
    · exact h.clean hT hV k hk cs hc
    · cases hq)

def NtS.nstep (n : NtS) (d i j : Int) (is : Bool) (b : List Int) : NtS :=
  if d = 0 then (n.put i b).2 else if d = 1 then n.take i j else if d = 2 then (n.copy i j).2 else if d = 3 then n.take i j else n.setCut is
theorem NtS.ok_nstep {n : NtS} (h : n.ok) (d i j : Int) (is : Bool) {b : List Int} (hb : b.length ≤ 1000) : (n.nstep d i j is b).ok := by
  unfold NtS.nstep
  split
  · exact NtS.ok_put h i hb
  · split
    · exact NtS.ok_take h i j
    · split
      · exact NtS.ok_copy h i j
      · split
        · exact NtS.ok_take h i j
        · exact NtS.ok_cut h is

set_option maxHeartbeats 8000000 in
set_option maxRecDepth 100000 in
theorem nstep_calls (g : Nat) (O : Nat → Prop) (h : Nat) (O' : Nat → Prop) (n : NtS) (d i j : Int) (is : Bool) (B : Option Addr) (cb : Nat) (b : List Int) (w : World) (hd : Nets w g O h O' n) (hok : n.ok)
    (hB : ∀ W, Fr w W (fun k => O k ∨ O' k) → (Kd.int .u8).C W B b.length b) (hcb : b.length ≤ cb) (hbl : b.length ≤ 1000) :
    Calls Try.prog 15 #[.pointer (some ⟨g, 0, none⟩), .pointer (some ⟨h, 0, none⟩), .agg #[.int .i64 d, .int .i64 i, .int .i64 j, .bool is, .slice B b.length cb]] w fun e w' =>
      ∃ O1 O2, e = .returned (.bool true) ∧ Nets w' g O1 h O2 (n.nstep d i j is b) ∧ Fr w w' (fun k => O k ∨ O' k) ∧ ∀ k, O1 k ∨ O2 k → O k ∨ O' k ∨ w.heap.size ≤ k := by
  have HOK := Lib.hid hok
  have HD : Hid (∀ o, Nets (w.alloc o) g O h O' n) := fun o => hd.below (below_alloc (Below.refl _ _) o)
  have HX : Hid (∀ o, (w.alloc o).heap[w.heap.size]? = some o) := fun o => blk_new w o
  have HN : Hid (¬ O w.heap.size ∧ ¬ O' w.heap.size) := ⟨fun hk => by have := hd.nn.lt _ hk; omega, fun hk => by have := hd.rn.lt _ hk; omega⟩
  have HBEL : Hid (∀ o, Below w.heap.size w (w.alloc o)) := fun o => below_alloc (Below.refl _ _) o
  have HB := Lib.hid hB
  have HFIN : Hid (∀ o (W : World) (O1 O2 : Nat → Prop) n', (Nets W g O1 h O2 n' ∧ Fr (w.alloc o) W (fun k => O k ∨ O' k) ∧ ∀ k, O1 k ∨ O2 k → O k ∨ O' k ∨ (w.alloc o).heap.size ≤ k) → Nets W g O1 h O2 n' ∧ Fr w W (fun k => O k ∨ O' k) ∧ ∀ k, O1 k ∨ O2 k → O k ∨ O' k ∨ w.heap.size ≤ k) := by
    intro o W O1 O2 n' ⟨a1, a2, a3⟩
    refine ⟨a1, (Fr.of_below (below_alloc (Below.refl _ _) o) _).then_ a2 (fun k hk => .inl hk), fun k hk => ?_⟩
    rcases a3 k hk with h3 | h3 | h3
    · exact .inl h3
    · exact .inr (.inl h3)
    · rw [World.size_alloc] at h3; exact .inr (.inr (by omega))
  clear hd hok hB
  by_cases k0 : d = 0
  · subst k0
    have ES : Hid (n.nstep 0 i j is b = (n.put i b).2) := by show _ = _; unfold NtS.nstep; rw [if_pos rfl]
    go_enter Try.func15, Try.ntmps15
    go_wp2_with (first
      | (go_at_call 9; refine (net_Put g O n i B cb b _ (HD.out _).nn HOK.out (HB.out _ (Fr.of_below (HBEL.out _) _)) hcb (by omega)).mono ?_; rintro e w1 ⟨O1, rfl, h1, f1⟩; have e1 : w1.cell? ⟨w.heap.size, 1, none⟩ = some (.int .i64 i) := (blk_cell (f1.1.blk (HX.out _) HN.out.1) 1).trans rfl; have e4 : w1.cell? ⟨w.heap.size, 4, none⟩ = some (.slice B b.length cb) := (blk_cell (f1.1.blk (HX.out _) HN.out.1) 4).trans rfl; have HM := Lib.hid (Nets.mid (HD.out _) f1); have HBM := Lib.hid (HB.out _ ((Fr.of_below (HBEL.out _) _).then_ f1.1 (fun k hk => .inl (.inl hk)))); have H1 := Lib.hid h1; have F1 := Lib.hid f1; clear h1 f1)
      | (go_at_call 25; refine (ref_Put h O' n i B cb b _ HM.out HOK.out HBM.out hcb (by omega)).mono ?_; rintro e w2 ⟨O2, rfl, h2, f2⟩; have H2 := Lib.hid h2; have F2 := Lib.hid f2; clear h2 f2)
      | fail)
    go_ret
    rw [ES.out]
    exact ⟨O1, O2, rfl, HFIN.out _ _ _ _ _ ((HD.out _).after H1.out F1.out H2.out F2.out)⟩
  have t0 : (d == 0) = false := beq_eq_false_iff_ne.2 k0
  by_cases k1 : d = 1
  · subst k1
    have ES : Hid (n.nstep 1 i j is b = n.take i j) := by show _ = _; unfold NtS.nstep; rw [if_neg (by decide), if_pos rfl]
    clear k0 t0
    go_enter Try.func15, Try.ntmps15
    go_wp2_with (first
      | (go_at_call 12; refine (net_Take g O n i j _ (HD.out _).nn HOK.out).mono ?_; rintro e w1 ⟨O1, va, rfl, ra, h1, f1⟩; obtain ⟨Aa, ca, ma, rfl, _⟩ := R_slice_n ra; have e1 : w1.cell? ⟨w.heap.size, 1, none⟩ = some (.int .i64 i) := (blk_cell (f1.1.blk (HX.out _) HN.out.1) 1).trans rfl; have e2 : w1.cell? ⟨w.heap.size, 2, none⟩ = some (.int .i64 j) := (blk_cell (f1.1.blk (HX.out _) HN.out.1) 2).trans rfl; have HM := Lib.hid (Nets.mid (HD.out _) f1); have RA := Lib.hid ra; have H1 := Lib.hid h1; have F1 := Lib.hid f1; clear h1 f1 ra)
      | (go_at_call 26; refine (ref_Take h O' n i j _ HM.out HOK.out).mono ?_; rintro e w2 ⟨O2, vb, rfl, rb, h2, f2⟩; obtain ⟨Ab, cb2, mb, rfl, _⟩ := R_slice_n rb; have s1 := str_R (R_net HM.out (by decide) (by decide) f2 RA.out); have s2 := str_R rb; have H2 := Lib.hid h2; have F2 := Lib.hid f2; clear h2 f2 rb)
      | fail)
    go_ret
    rw [ES.out]
    exact ⟨O1, O2, rfl, HFIN.out _ _ _ _ _ ((HD.out _).after H1.out F1.out H2.out F2.out)⟩
  have t1 : (d == 1) = false := beq_eq_false_iff_ne.2 k1
  by_cases k2 : d = 2
  · subst k2
    have ES : Hid (n.nstep 2 i j is b = (n.copy i j).2) := by show _ = _; unfold NtS.nstep; rw [if_neg (by decide), if_neg (by decide), if_pos rfl]
    clear k0 t0 k1 t1
    go_enter Try.func15, Try.ntmps15
    go_wp2_with (first
      | (go_at_call 11; refine (net_Copy g O n i j _ (HD.out _).nn HOK.out).mono ?_; rintro e w1 ⟨O1, rfl, h1, f1⟩; have e1 : w1.cell? ⟨w.heap.size, 1, none⟩ = some (.int .i64 i) := (blk_cell (f1.1.blk (HX.out _) HN.out.1) 1).trans rfl; have e2 : w1.cell? ⟨w.heap.size, 2, none⟩ = some (.int .i64 j) := (blk_cell (f1.1.blk (HX.out _) HN.out.1) 2).trans rfl; have HM := Lib.hid (Nets.mid (HD.out _) f1); have H1 := Lib.hid h1; have F1 := Lib.hid f1; clear h1 f1)
      | (go_at_call 27; refine (ref_Copy h O' n i j _ HM.out HOK.out).mono ?_; rintro e w2 ⟨O2, rfl, h2, f2⟩; have H2 := Lib.hid h2; have F2 := Lib.hid f2; clear h2 f2)
      | fail)
    go_ret
    rw [ES.out]
    exact ⟨O1, O2, rfl, HFIN.out _ _ _ _ _ ((HD.out _).after H1.out F1.out H2.out F2.out)⟩
  have t2 : (d == 2) = false := beq_eq_false_iff_ne.2 k2
  by_cases k3 : d = 3
  · subst k3
    have ES : Hid (n.nstep 3 i j is b = n.take i j) := by show _ = _; unfold NtS.nstep; rw [if_neg (by decide), if_neg (by decide), if_neg (by decide), if_pos rfl]
    clear k0 t0 k1 t1 k2 t2
    go_enter Try.func15, Try.ntmps15
    go_wp2_with (first
      | (go_at_call 17; refine (net_Lose g O n i j _ (HD.out _).nn HOK.out).mono ?_; rintro e w1 ⟨O1, rfl, h1, f1⟩; have e1 : w1.cell? ⟨w.heap.size, 1, none⟩ = some (.int .i64 i) := (blk_cell (f1.1.blk (HX.out _) HN.out.1) 1).trans rfl; have e2 : w1.cell? ⟨w.heap.size, 2, none⟩ = some (.int .i64 j) := (blk_cell (f1.1.blk (HX.out _) HN.out.1) 2).trans rfl; have HM := Lib.hid (Nets.mid (HD.out _) f1); have H1 := Lib.hid h1; have F1 := Lib.hid f1; clear h1 f1)
      | (go_at_call 28; refine (ref_Lose h O' n i j _ HM.out HOK.out).mono ?_; rintro e w2 ⟨O2, rfl, h2, f2⟩; have H2 := Lib.hid h2; have F2 := Lib.hid f2; clear h2 f2)
      | fail)
    go_ret
    rw [ES.out]
    exact ⟨O1, O2, rfl, HFIN.out _ _ _ _ _ ((HD.out _).after H1.out F1.out H2.out F2.out)⟩
  have t3 : (d == 3) = false := beq_eq_false_iff_ne.2 k3
  have ES : Hid (n.nstep d i j is b = n.setCut is) := by show _ = _; unfold NtS.nstep; rw [if_neg k0, if_neg k1, if_neg k2, if_neg k3]
  clear k0 k1 k2 k3
  go_enter Try.func15, Try.ntmps15
  go_wp2_with (first
    | (go_at_call 10; refine (net_Cut g O n is _ (HD.out _).nn).mono ?_; rintro e w1 ⟨rfl, h1, f1⟩; have e3 : w1.cell? ⟨w.heap.size, 3, none⟩ = some (.bool is) := (blk_cell (f1.1.blk (HX.out _) HN.out.1) 3).trans rfl; have HM := Lib.hid (Nets.mid (HD.out _) f1); have H1 := Lib.hid h1; have F1 := Lib.hid f1; clear h1 f1)
    | (go_at_call 29; refine (ref_Cut h O' n is _ HM.out).mono ?_; rintro e w2 ⟨rfl, h2, f2⟩; have H2 := Lib.hid h2; have F2 := Lib.hid f2; clear h2 f2)
    | fail)
  go_ret
  rw [ES.out]
  exact ⟨O, O', rfl, HFIN.out _ _ _ _ _ ((HD.out _).after H1.out F1.out H2.out F2.out)⟩
end Go.Proofs.Ytokcplapbjhnoaa
