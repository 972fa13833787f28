/-
  A step at both disks. Conditions: both are one disk, that may be.
-/
import Derived.Test.YtffjhejfggakaaaHDk7
namespace Go.Proofs.Ytffjhejfggakaaa
open Go.RowKit Go.Proofs.YtffjhejfggakaaaW.PrintWords Go.Proofs.YtffjhejfggakaaaW.PrintLast Go.Proofs.YtffjhejfggakaaaW.PrintMore
attribute [local go_sem] max2_int min2_int max_two min_two max_three min_three max_four min_four
set_option linter.unusedVariables false
set_option linter.unusedSimpArgs false

def DkS.step (d : DkS) (k n : Int) (b : List Int) : DkS :=
  if k = 0 then (d.append b).2 else if k = 1 then d.sync.2 else if k = 2 then (d.swap b).2 else if k = 3 then d.fail n else if k = 4 then d.crash n else d
theorem DkS.ok_step {d : DkS} (h : d.ok) (k : Int) {n : Int} (hn : n ≤ 9223372036854775807) {b : List Int} (hb : ∀ x ∈ b, 0 ≤ x ∧ x ≤ 255) : (d.step k n b).ok := by
  unfold DkS.step
  split
  · exact DkS.ok_append h hb
  · split
    · exact DkS.ok_sync h
    · split
      · exact DkS.ok_swap h hb
      · split
        · exact DkS.ok_fail h hn
        · split
          · exact DkS.ok_crash h n
          · exact h
theorem DkS.step_room (d : DkS) (k n : Int) (b : List Int) : (d.step k n b).room = d.room := by
  unfold DkS.step DkS.append DkS.sync DkS.swap DkS.fail DkS.crash DkS.count
  repeat' split
  all_goals rfl

/-- Both disks, in memory. -/
structure Both (w : World) (g h : Nat) (d : DkS) : Prop where
  dk : DK w g d
  rf : RK w h d
theorem Both.ne {w : World} {g h : Nat} {d : DkS} (b : Both w g h d) : g ≠ h := by
  obtain ⟨v, hv, _⟩ := b.dk
  obtain ⟨u, hu, _⟩ := b.rf
  exact blk_ne hv hu (by decide)
theorem Both.below {w w' : World} {g h : Nat} {d : DkS} (b : Both w g h d) (hb : Below w.heap.size w w') : Both w' g h d := ⟨b.dk.below hb, b.rf.below hb⟩
theorem Both.after {w w1 w2 : World} {g h : Nat} {d d' : DkS} (b : Both w g h d) (h1 : DK w1 g d') (f1 : Fr w w1 (fun k => k = g)) (h2 : RK w2 h d') (f2 : Fr w1 w2 (fun k => k = h)) : Both w2 g h d' :=
  ⟨h1.fr (b.rf.fr b.dk (by decide) f1 b.ne.symm) (by decide) f2 b.ne, h2⟩
theorem Both.mid {w w1 : World} {g h : Nat} {d : DkS} (b : Both w g h d) (f1 : Fr w w1 (fun k => k = g)) : RK w1 h d := b.rf.fr b.dk (by decide) f1 b.ne.symm
theorem fr_two {w w1 w2 : World} {g h : Nat} (f1 : Fr w w1 (fun k => k = g)) (f2 : Fr w1 w2 (fun k => k = h)) : Fr w w2 (fun k => k = g ∨ k = h) :=
  (f1.mono (fun _ hk => .inl hk)).then_ f2 (fun _ hk => .inl (.inr hk))
theorem fr_old {w w1 w2 : World} {S : Nat → Prop} (hb : Below w.heap.size w w1) (hf : Fr w1 w2 S) : Fr w w2 S := (Fr.of_below hb _).then_ hf (fun _ hk => .inl hk)

set_option maxHeartbeats 4000000 in
theorem step_calls (g h : Nat) (d : DkS) (k n : Int) (B : Option Addr) (cb : Nat) (b : List Int) (w : World) (hd : Both w g h d) (hok : d.ok) (hB : (Kd.int .u8).C w B b.length b) (hcb : b.length ≤ cb) (hl : b.length ≤ 100000000) :
    Calls Try.prog 17 #[.pointer (some ⟨g, 0, none⟩), .pointer (some ⟨h, 0, none⟩), .agg #[.int .i64 k, .int .i64 n, .slice B b.length cb]] w fun e w' =>
      e = .returned (.bool true) ∧ Both w' g h (d.step k n b) ∧ Fr w w' (fun k => k = g ∨ k = h) := by
  have HOK := Lib.hid hok
  have HD : Hid (∀ o, Both (w.alloc o) g h d) := fun o => hd.below (below_alloc (Below.refl _ _) o)
  have HB : Hid (∀ o, (Kd.int .u8).C (w.alloc o) B b.length b) := fun o => Kd.C_alloc hB o
  have HX : Hid (∀ o, (w.alloc o).heap[w.heap.size]? = some o) := fun o => blk_new w o
  have HN : Hid (w.heap.size ≠ g ∧ w.heap.size ≠ h) := by have h1 := hd.dk.lt; have h2 := hd.rf.lt; exact ⟨by omega, by omega⟩
  have HBEL : Hid (∀ o, Below w.heap.size w (w.alloc o)) := fun o => below_alloc (Below.refl _ _) o
  clear hd hok hB
  by_cases k0 : k = 0
  · subst k0
    have ES : Hid (d.step 0 n b = (d.append b).2) := by show _ = _; unfold DkS.step; rw [if_pos rfl]
    go_enter Try.func17, Try.ntmps17
    go_wp2_with (first
      | (go_at_call 11; refine (disk_Append g d B cb b _ (HD.out _).dk HOK.out (HB.out _) hcb hl).mono ?_; rintro e w1 ⟨rfl, h1, f1⟩; have e2 : w1.cell? ⟨w.heap.size, 2, none⟩ = some (.slice B b.length cb) := (blk_cell (f1.blk (HX.out _) HN.out.1) 2).trans rfl; have HM := Lib.hid (Both.mid (HD.out _) f1); have HBM := Lib.hid (C_fr_dk (HB.out _) (Both.dk (HD.out _)) f1); have H1 := Lib.hid h1; have F1 := Lib.hid f1; clear h1 f1)
      | (go_at_call 19; refine (ref_Append h d B cb b _ HM.out HOK.out HBM.out hcb hl).mono ?_; rintro e w2 ⟨rfl, h2, f2⟩; have H2 := Lib.hid h2; have F2 := Lib.hid f2; clear h2 f2)
      | fail)
    go_ret
    rw [ES.out]
    exact ⟨rfl, (HD.out _).after H1.out F1.out H2.out F2.out, fr_old (HBEL.out _) (fr_two F1.out F2.out)⟩
  have t0 : (k == 0) = false := beq_eq_false_iff_ne.2 k0
  by_cases k1 : k = 1
  · subst k1
    have ES : Hid (d.step 1 n b = d.sync.2) := by show _ = _; unfold DkS.step; rw [if_neg (by decide), if_pos rfl]
    clear k0 t0
    go_enter Try.func17, Try.ntmps17
    go_wp2_with (first
      | (go_at_call 13; refine (disk_Sync g d _ (HD.out _).dk HOK.out).mono ?_; rintro e w1 ⟨rfl, h1, f1⟩; have HM := Lib.hid (Both.mid (HD.out _) f1); have HBM := Lib.hid (C_fr_dk (HB.out _) (Both.dk (HD.out _)) f1); have H1 := Lib.hid h1; have F1 := Lib.hid f1; clear h1 f1)
      | (go_at_call 20; refine (ref_Sync h d _ HM.out HOK.out).mono ?_; rintro e w2 ⟨rfl, h2, f2⟩; have H2 := Lib.hid h2; have F2 := Lib.hid f2; clear h2 f2)
      | fail)
    go_ret
    rw [ES.out]
    exact ⟨rfl, (HD.out _).after H1.out F1.out H2.out F2.out, fr_old (HBEL.out _) (fr_two F1.out F2.out)⟩
  have t1 : (k == 1) = false := beq_eq_false_iff_ne.2 k1
  by_cases k2 : k = 2
  · subst k2
    have ES : Hid (d.step 2 n b = (d.swap b).2) := by show _ = _; unfold DkS.step; rw [if_neg (by decide), if_neg (by decide), if_pos rfl]
    clear k0 t0 k1 t1
    go_enter Try.func17, Try.ntmps17
    go_wp2_with (first
      | (go_at_call 21; refine (disk_Swap g d B cb b _ (HD.out _).dk HOK.out (HB.out _) hcb hl).mono ?_; rintro e w1 ⟨rfl, h1, f1⟩; have e2 : w1.cell? ⟨w.heap.size, 2, none⟩ = some (.slice B b.length cb) := (blk_cell (f1.blk (HX.out _) HN.out.1) 2).trans rfl; have HM := Lib.hid (Both.mid (HD.out _) f1); have HBM := Lib.hid (C_fr_dk (HB.out _) (Both.dk (HD.out _)) f1); have H1 := Lib.hid h1; have F1 := Lib.hid f1; clear h1 f1)
      | (go_at_call 22; refine (ref_Swap h d B cb b _ HM.out HOK.out HBM.out hcb hl).mono ?_; rintro e w2 ⟨rfl, h2, f2⟩; have H2 := Lib.hid h2; have F2 := Lib.hid f2; clear h2 f2)
      | fail)
    go_ret
    rw [ES.out]
    exact ⟨rfl, (HD.out _).after H1.out F1.out H2.out F2.out, fr_old (HBEL.out _) (fr_two F1.out F2.out)⟩
  have t2 : (k == 2) = false := beq_eq_false_iff_ne.2 k2
  by_cases k3 : k = 3
  · subst k3
    have ES : Hid (d.step 3 n b = d.fail n) := by show _ = _; unfold DkS.step; rw [if_neg (by decide), if_neg (by decide), if_neg (by decide), if_pos rfl]
    clear k0 t0 k1 t1 k2 t2
    go_enter Try.func17, Try.ntmps17
    go_wp2_with (first
      | (go_at_call 10; refine (disk_Fail g d n _ (HD.out _).dk).mono ?_; rintro e w1 ⟨rfl, h1, f1⟩; have e1 : w1.cell? ⟨w.heap.size, 1, none⟩ = some (.int .i64 n) := (blk_cell (f1.blk (HX.out _) HN.out.1) 1).trans rfl; have HM := Lib.hid (Both.mid (HD.out _) f1); have HBM := Lib.hid (C_fr_dk (HB.out _) (Both.dk (HD.out _)) f1); have H1 := Lib.hid h1; have F1 := Lib.hid f1; clear h1 f1)
      | (go_at_call 27; refine (ref_Fail h d n _ HM.out).mono ?_; rintro e w2 ⟨rfl, h2, f2⟩; have H2 := Lib.hid h2; have F2 := Lib.hid f2; clear h2 f2)
      | fail)
    go_ret
    rw [ES.out]
    exact ⟨rfl, (HD.out _).after H1.out F1.out H2.out F2.out, fr_old (HBEL.out _) (fr_two F1.out F2.out)⟩
  have t3 : (k == 3) = false := beq_eq_false_iff_ne.2 k3
  by_cases k4 : k = 4
  · subst k4
    have ES : Hid (d.step 4 n b = d.crash n) := by show _ = _; unfold DkS.step; rw [if_neg (by decide), if_neg (by decide), if_neg (by decide), if_neg (by decide), if_pos rfl]
    clear k0 t0 k1 t1 k2 t2 k3 t3
    go_enter Try.func17, Try.ntmps17
    go_wp2_with (first
      | (go_at_call 12; refine (disk_Crash g d n _ (HD.out _).dk HOK.out).mono ?_; rintro e w1 ⟨rfl, h1, f1⟩; have e1 : w1.cell? ⟨w.heap.size, 1, none⟩ = some (.int .i64 n) := (blk_cell (f1.blk (HX.out _) HN.out.1) 1).trans rfl; have HM := Lib.hid (Both.mid (HD.out _) f1); have HBM := Lib.hid (C_fr_dk (HB.out _) (Both.dk (HD.out _)) f1); have H1 := Lib.hid h1; have F1 := Lib.hid f1; clear h1 f1)
      | (go_at_call 28; refine (ref_Crash h d n _ HM.out HOK.out).mono ?_; rintro e w2 ⟨rfl, h2, f2⟩; have H2 := Lib.hid h2; have F2 := Lib.hid f2; clear h2 f2)
      | fail)
    go_ret
    rw [ES.out]
    exact ⟨rfl, (HD.out _).after H1.out F1.out H2.out F2.out, fr_old (HBEL.out _) (fr_two F1.out F2.out)⟩
  have t4 : (k == 4) = false := beq_eq_false_iff_ne.2 k4
  have ES : Hid (d.step k n b = d) := by show _ = _; unfold DkS.step; rw [if_neg k0, if_neg k1, if_neg k2, if_neg k3, if_neg k4]
  clear k0 k1 k2 k3 k4
  go_enter Try.func17, Try.ntmps17
  go_wp2_with fail
  go_ret
  rw [ES.out]
  exact ⟨rfl, HD.out _, Fr.of_below (HBEL.out _) _⟩
end Go.Proofs.Ytffjhejfggakaaa
