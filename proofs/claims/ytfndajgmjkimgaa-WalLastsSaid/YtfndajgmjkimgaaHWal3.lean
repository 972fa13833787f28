/-
  A step at both logs, and a small thing that works first. Conditions: both are logs over one disk, that may be.
-/
import Derived.Test.YtfndajgmjkimgaaHWal2
namespace Go.Proofs.Ytfndajgmjkimgaa
open Go.RowKit Go.Proofs.Ytfndajgmjkimgaa.Pr Go.Proofs.Ytfndajgmjkimgaa.FrL Go.Proofs.YtfndajgmjkimgaaW.PrintWords Go.Proofs.YtfndajgmjkimgaaW.PrintLast Go.Proofs.YtfndajgmjkimgaaW.PrintMore
attribute [local go_sem] max2_int min2_int max_two min_two max_three min_three max_four min_four
set_option linter.unusedVariables false
set_option linter.unusedSimpArgs false

/-- Both disks, in memory. -/
structure Both (w : World) (g h : Nat) (d : DkS) : Prop where
  dk : DK w g d
  rf : RK w h d
theorem Both.ne {w : World} {g h : Nat} {d : DkS} (b : Both w g h d) : g ≠ h := by
  obtain ⟨v, hv, _⟩ := b.dk
  obtain ⟨u, hu, _⟩ := b.rf
  exact blk_ne hv hu (by decide)
theorem Both.below {w w' : World} {g h : Nat} {d : DkS} (b : Both w g h d) (hb : Below w.heap.size w w') : Both w' g h d := ⟨b.dk.below hb, b.rf.below hb⟩
theorem Both.after {w w1 w2 : World} {g h : Nat} {d d' : DkS} (b : Both w g h d) (h1 : DK w1 g d') (f1 : Fr w w1 (fun k => k = g)) (h2 : RK w2 h d') (f2 : Fr w1 w2 (fun k => k = h)) : Both w2 g h d' :=
  ⟨h1.fr (b.rf.fr b.dk (by decide) f1 b.ne.symm) (by decide) f2 b.ne, h2⟩
theorem Both.mid {w w1 : World} {g h : Nat} {d : DkS} (b : Both w g h d) (f1 : Fr w w1 (fun k => k = g)) : RK w1 h d := b.rf.fr b.dk (by decide) f1 b.ne.symm
theorem fr_two {w w1 w2 : World} {g h : Nat} (f1 : Fr w w1 (fun k => k = g)) (f2 : Fr w1 w2 (fun k => k = h)) : Fr w w2 (fun k => k = g ∨ k = h) :=
  (f1.mono (fun _ hk => .inl hk)).then_ f2 (fun _ hk => .inl (.inr hk))

/-- Both logs over them. -/
structure Logs (w : World) (g h gl hl : Nat) (d : DkS) : Prop where
  b : Both w g h d
  lk : LK w gl g
  rl : RL w hl h
theorem Logs.below {w w' : World} {g h gl hl : Nat} {d : DkS} (b : Logs w g h gl hl d) (hb : Below w.heap.size w w') : Logs w' g h gl hl d := ⟨b.b.below hb, blk_below b.lk hb, blk_below b.rl hb⟩
theorem Logs.nes {w : World} {g h gl hl : Nat} {d : DkS} (b : Logs w g h gl hl d) : gl ≠ g ∧ gl ≠ h ∧ hl ≠ g ∧ hl ≠ h := by
  obtain ⟨v, hv, _⟩ := b.b.dk
  obtain ⟨u, hu, _⟩ := b.b.rf
  exact ⟨blk_ne b.lk hv (by decide), blk_ne b.lk hu (by decide), blk_ne b.rl hv (by decide), blk_ne b.rl hu (by decide)⟩
theorem Logs.mid {w w1 : World} {g h gl hl : Nat} {d : DkS} (b : Logs w g h gl hl d) (f1 : Fr w w1 (fun k => k = g)) : RK w1 h d ∧ LK w1 gl g ∧ RL w1 hl h := ⟨b.b.mid f1, f1.blk b.lk b.nes.1, f1.blk b.rl b.nes.2.2.1⟩
theorem Logs.after {w w1 w2 : World} {g h gl hl : Nat} {d d' : DkS} (b : Logs w g h gl hl d) (h1 : DK w1 g d') (f1 : Fr w w1 (fun k => k = g)) (h2 : RK w2 h d') (f2 : Fr w1 w2 (fun k => k = h)) : Logs w2 g h gl hl d' :=
  ⟨b.b.after h1 f1 h2 f2, f2.blk (f1.blk b.lk b.nes.1) b.nes.2.1, f2.blk (f1.blk b.rl b.nes.2.2.1) b.nes.2.2.2⟩

theorem swap_new {d : DkS} (h : d.inn = -1) {b : List Int} (hb : (b.length : Int) ≤ d.room) : d.swap b = (0, { d with b := b, last := b.length }) := by
  unfold DkS.swap
  rw [if_neg (by omega), if_neg (by omega)]
  have : d.count = d := by unfold DkS.count; rw [if_neg (by omega)]
  rw [this]
/-- Behind a crash a log is opened. -/
theorem crash_open {d : DkS} (h : d.ok) (n : Int) : ((d.crash n).open).1 = 0 := by
  have hok := DkS.ok_crash h n
  have e : (d.crash n).inn = -1 := rfl
  unfold DkS.open
  split
  · have hl : (((d.crash n).b.take (d.crash n).used.toNat).length : Int) ≤ (d.crash n).room := by
      rw [List.length_take]
      have := hok.2.2.1
      omega
    rw [swap_new e hl]
  · rfl
theorem ok_open {d : DkS} (h : d.ok) : d.open.2.ok := by
  unfold DkS.open
  split
  · exact DkS.ok_swap h (fun x hx => ok_bytes h x (List.mem_of_mem_take hx))
  · exact h
theorem ok_put {d : DkS} (h : d.ok) {b : List Int} (hb : ∀ x ∈ b, 0 ≤ x ∧ x ≤ 255) : (d.put b).2.ok := by
  unfold DkS.put
  split
  · exact DkS.ok_append h (putOf_bytes hb)
  · exact h
theorem ok_compact {d : DkS} (h : d.ok) {l : List (List Int)} (hl : ∀ x ∈ l, ∀ y ∈ x, 0 ≤ y ∧ y ≤ 255) : (d.compact l).2.ok := by
  unfold DkS.compact
  split
  · exact DkS.ok_swap h (puts_bytes hl)
  · exact h
def DkS.wstep (d : DkS) (k n : Int) (b : List Int) (l : List (List Int)) : DkS :=
  if k = 0 then (d.put b).2 else if k = 1 then d.sync.2 else if k = 2 then (d.compact l).2 else if k = 3 then d.fail n else ((d.crash n).open).2
theorem ok_wstep {d : DkS} (h : d.ok) (k : Int) {n : Int} (hn : n ≤ 9223372036854775807) {b : List Int} (hb : ∀ x ∈ b, 0 ≤ x ∧ x ≤ 255) {l : List (List Int)} (hl : ∀ x ∈ l, ∀ y ∈ x, 0 ≤ y ∧ y ≤ 255) : (d.wstep k n b l).ok := by
  unfold DkS.wstep
  split
  · exact ok_put h hb
  · split
    · exact DkS.ok_sync h
    · split
      · exact ok_compact h hl
      · split
        · exact DkS.ok_fail h hn
        · exact ok_open (DkS.ok_crash h n)

set_option maxHeartbeats 8000000 in
set_option maxRecDepth 100000 in
theorem wstep_calls (g h gl hl : Nat) (d : DkS) (k n : Int) (B : Option Addr) (cb : Nat) (b : List Int) (L : Option Addr) (cl : Nat) (ll : List (List Int)) (w : World) (hd : Logs w g h gl hl d) (hok : d.ok)
    (hB : ∀ W, Fr w W (fun k => k = g ∨ k = h) → (Kd.int .u8).C W B b.length b) (hcb : b.length ≤ cb) (hL : ∀ W, Fr w W (fun k => k = g ∨ k = h) → (Kd.slice 5 (Kd.int .u8)).C W L ll.length ll) (hcl : ll.length ≤ cl) (hll : ll.length ≤ 20) :
    Calls Try.prog 20 #[.pointer (some ⟨g, 0, none⟩), .pointer (some ⟨h, 0, none⟩), .pointer (some ⟨gl, 0, none⟩), .pointer (some ⟨hl, 0, none⟩), .agg #[.int .i64 k, .int .i64 n, .slice B b.length cb, .slice L ll.length cl]] w fun e w' =>
      ∃ gl' hl', e = .returned (.tuple #[.pointer (some ⟨gl', 0, none⟩), .pointer (some ⟨hl', 0, none⟩), .bool true]) ∧ Logs w' g h gl' hl' (d.wstep k n b ll) ∧ Fr w w' (fun k => k = g ∨ k = h) := by
  have HOK := Lib.hid hok
  have HD : Hid (∀ o, Logs (w.alloc o) g h gl hl d) := fun o => hd.below (below_alloc (Below.refl _ _) o)
  have HF : Hid (∀ o W, Fr (w.alloc o) W (fun k => k = g) → Fr w W (fun k => k = g ∨ k = h)) := fun o W hW => (fr_old2 (below_alloc (Below.refl _ _) o) hW).mono (fun _ hk => .inl hk)
  have HX : Hid (∀ o, (w.alloc o).heap[w.heap.size]? = some o) := fun o => blk_new w o
  have HN : Hid (w.heap.size ≠ g ∧ w.heap.size ≠ h) := by have h1 := hd.b.dk.lt; have h2 := hd.b.rf.lt; exact ⟨by omega, by omega⟩
  have HBEL : Hid (∀ o, Below w.heap.size w (w.alloc o)) := fun o => below_alloc (Below.refl _ _) o
  have HB := Lib.hid hB
  have HL := Lib.hid hL
  clear hd hok hB hL
  by_cases k0 : k = 0
  · subst k0
    have ES : Hid (d.wstep 0 n b ll = (d.put b).2) := by show _ = _; unfold DkS.wstep; rw [if_pos rfl]
    go_enter Try.func20, Try.ntmps20
    go_wp2_with (first
      | (go_at_call 11; refine (wal_Put gl g d B cb b _ (HD.out _).lk (HD.out _).b.dk HOK.out (HB.out _ (HF.out _ _ (Fr.refl _ _))) hcb).mono ?_; rintro e w1 ⟨rfl, h1, f1⟩; have e2 : w1.cell? ⟨w.heap.size, 2, none⟩ = some (.slice B b.length cb) := (blk_cell (f1.blk (HX.out _) HN.out.1) 2).trans rfl; have HM := Lib.hid (Logs.mid (HD.out _) f1); have HBM := Lib.hid (HB.out _ (HF.out _ _ f1)); have H1 := Lib.hid h1; have F1 := Lib.hid f1; clear h1 f1)
      | (go_at_call 34; refine (rlog_Put hl h d B cb b _ HM.out.2.2 HM.out.1 HOK.out HBM.out hcb).mono ?_; rintro e w2 ⟨rfl, h2, f2⟩; have H2 := Lib.hid h2; have F2 := Lib.hid f2; clear h2 f2)
      | fail)
    go_ret3
    rw [ES.out]
    exact ⟨_, _, rfl, (HD.out _).after H1.out F1.out H2.out F2.out, fr_old2 (HBEL.out _) (fr_two F1.out F2.out)⟩
  have t0 : (k == 0) = false := beq_eq_false_iff_ne.2 k0
  by_cases k1 : k = 1
  · subst k1
    have ES : Hid (d.wstep 1 n b ll = d.sync.2) := by show _ = _; unfold DkS.wstep; rw [if_neg (by decide), if_pos rfl]
    clear k0 t0
    have y1 : ∀ o, (w.alloc o).cell? ⟨gl, 0, none⟩ = some (.pointer (some ⟨g, 0, none⟩)) := fun o => (blk_cell (HD.out o).lk 0).trans rfl
    go_enter Try.func20, Try.ntmps20
    go_wp2_with (first
      | (go_at_call 12; refine (disk_Sync g d _ (HD.out _).b.dk HOK.out).mono ?_; rintro e w1 ⟨rfl, h1, f1⟩; have HM := Lib.hid (Logs.mid (HD.out _) f1); have H1 := Lib.hid h1; have F1 := Lib.hid f1; clear h1 f1; have y2 : w1.cell? ⟨hl, 0, none⟩ = some (.pointer (some ⟨h, 0, none⟩)) := (blk_cell HM.out.2.2 0).trans rfl)
      | (go_at_call 35; refine (ref_Sync h d _ HM.out.1 HOK.out).mono ?_; rintro e w2 ⟨rfl, h2, f2⟩; have H2 := Lib.hid h2; have F2 := Lib.hid f2; clear h2 f2)
      | fail)
    go_ret3
    rw [ES.out]
    exact ⟨_, _, rfl, (HD.out _).after H1.out F1.out H2.out F2.out, fr_old2 (HBEL.out _) (fr_two F1.out F2.out)⟩
  have t1 : (k == 1) = false := beq_eq_false_iff_ne.2 k1
  by_cases k2 : k = 2
  · subst k2
    have ES : Hid (d.wstep 2 n b ll = (d.compact ll).2) := by show _ = _; unfold DkS.wstep; rw [if_neg (by decide), if_neg (by decide), if_pos rfl]
    clear k0 t0 k1 t1
    go_enter Try.func20, Try.ntmps20
    go_wp2_with (first
      | (go_at_call 21; refine (wal_Compact gl g d L cl ll _ (HD.out _).lk (HD.out _).b.dk HOK.out (HL.out _ (HF.out _ _ (Fr.refl _ _))) hcl hll).mono ?_; rintro e w1 ⟨rfl, h1, f1⟩; have e2 : w1.cell? ⟨w.heap.size, 3, none⟩ = some (.slice L ll.length cl) := (blk_cell (f1.blk (HX.out _) HN.out.1) 3).trans rfl; have HLM := Lib.hid (HL.out _ (HF.out _ _ f1)); have HM := Lib.hid (Logs.mid (HD.out _) f1); have H1 := Lib.hid h1; have F1 := Lib.hid f1; clear h1 f1)
      | (go_at_call 36; refine (rlog_Compact hl h d L cl ll _ HM.out.2.2 HM.out.1 HOK.out HLM.out hcl hll).mono ?_; rintro e w2 ⟨rfl, h2, f2⟩; have H2 := Lib.hid h2; have F2 := Lib.hid f2; clear h2 f2)
      | fail)
    go_ret3
    rw [ES.out]
    exact ⟨_, _, rfl, (HD.out _).after H1.out F1.out H2.out F2.out, fr_old2 (HBEL.out _) (fr_two F1.out F2.out)⟩
  have t2 : (k == 2) = false := beq_eq_false_iff_ne.2 k2
  by_cases k3 : k = 3
  · subst k3
    have ES : Hid (d.wstep 3 n b ll = d.fail n) := by show _ = _; unfold DkS.wstep; rw [if_neg (by decide), if_neg (by decide), if_neg (by decide), if_pos rfl]
    clear k0 t0 k1 t1 k2 t2
    go_enter Try.func20, Try.ntmps20
    go_wp2_with (first
      | (go_at_call 37; refine (disk_Fail g d n _ (HD.out _).b.dk).mono ?_; rintro e w1 ⟨rfl, h1, f1⟩; have e1 : w1.cell? ⟨w.heap.size, 1, none⟩ = some (.int .i64 n) := (blk_cell (f1.blk (HX.out _) HN.out.1) 1).trans rfl; have HM := Lib.hid (Logs.mid (HD.out _) f1); have H1 := Lib.hid h1; have F1 := Lib.hid f1; clear h1 f1)
      | (go_at_call 38; refine (ref_Fail h d n _ HM.out.1).mono ?_; rintro e w2 ⟨rfl, h2, f2⟩; have H2 := Lib.hid h2; have F2 := Lib.hid f2; clear h2 f2)
      | fail)
    go_ret3
    rw [ES.out]
    exact ⟨_, _, rfl, (HD.out _).after H1.out F1.out H2.out F2.out, fr_old2 (HBEL.out _) (fr_two F1.out F2.out)⟩
  have t3 : (k == 3) = false := beq_eq_false_iff_ne.2 k3
  have ES : Hid (d.wstep k n b ll = ((d.crash n).open).2) := by show _ = _; unfold DkS.wstep; rw [if_neg k0, if_neg k1, if_neg k2, if_neg k3]
  have HC0 := Lib.hid (crash_open HOK.out n)
  have OKC := Lib.hid (DkS.ok_crash HOK.out n)
  clear k0 k1 k2 k3
  go_enter Try.func20, Try.ntmps20
  go_wp2_with (first
    | (go_at_call 13; refine (disk_Crash g d n _ (HD.out _).b.dk HOK.out).mono ?_; rintro e w1 ⟨rfl, h1, f1⟩; have e1 : w1.cell? ⟨w.heap.size, 1, none⟩ = some (.int .i64 n) := (blk_cell (f1.blk (HX.out _) HN.out.1) 1).trans rfl; have HM := Lib.hid (Logs.mid (HD.out _) f1); have H1 := Lib.hid h1; have F1 := Lib.hid f1; clear h1 f1)
    | (go_at_call 39; refine (ref_Crash h d n _ HM.out.1 HOK.out).mono ?_; rintro e w2 ⟨rfl, h2, f2⟩; have HA := Lib.hid ((HD.out _).after H1.out F1.out h2 f2); have FA := Lib.hid (fr_old2 (HBEL.out _) (fr_two F1.out f2)); clear h2 f2)
    | (go_at_call 10; refine (wal_Open g _ _ HA.out.b.dk OKC.out).mono ?_; rintro e w3 ⟨p, rfl, h3, f3, h4, _⟩; obtain ⟨l3, hl3, rfl, lk3⟩ := h4 HC0.out; rw [HC0.out]; have HRM := Lib.hid (HA.out.b.mid f3); have LT3 := Lib.hid (blk_lt lk3); have LK3 := Lib.hid lk3; have H3 := Lib.hid h3; have F3 := Lib.hid f3; clear h3 f3 h4 hl3 lk3)
    | (go_at_call 19; refine (ref_Open h _ _ HRM.out OKC.out).mono ?_; rintro e w4 ⟨p, rfl, h5, f5, h6, _⟩; obtain ⟨l4, hl4, rfl, lk4⟩ := h6 HC0.out; rw [HC0.out]; have LK4 := Lib.hid lk4; have H5 := Lib.hid h5; have F5 := Lib.hid f5; clear h5 f5 h6 hl4 lk4)
    | fail)
  go_ret3
  rw [ES.out]
  have hb := HA.out.b.after H3.out F3.out H5.out F5.out
  have hne : l3 ≠ h := by
    obtain ⟨u, hu, _⟩ := HRM.out
    exact blk_ne LK3.out hu (by decide)
  refine ⟨_, _, rfl, ⟨hb, F5.out.blk LK3.out hne, LK4.out⟩, FA.out.then_ (fr_two F3.out F5.out) (fun i hi => .inl hi)⟩
end Go.Proofs.Ytfndajgmjkimgaa
