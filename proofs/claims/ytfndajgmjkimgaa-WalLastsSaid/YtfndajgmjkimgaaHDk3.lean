/-
  A disk's 'change', and Append, Sync, Swap over it. Conditions: the disk is one that may be.
-/
import Derived.Test.YtfndajgmjkimgaaHDk2
namespace Go.Proofs.Ytfndajgmjkimgaa
open Go.RowKit Go.Proofs.YtfndajgmjkimgaaW.PrintWords Go.Proofs.YtfndajgmjkimgaaW.PrintLast Go.Proofs.YtfndajgmjkimgaaW.PrintMore
attribute [local go_sem] max2_int min2_int max_two min_two max_three min_three max_four min_four
set_option linter.unusedVariables false
set_option linter.unusedSimpArgs false

/-- A call of a function value that stands in a slot, no argument said. -/
theorem goesvL {P : Program} {ops : Array Oper} {Q : Exit → Act → World → Prop} {rest : List Oper} {oi : Oper} {a : Act} {w : World} (N : Option Tmp) (hd : oi.dst = N) (hg : oi.guard = none) {gf : Nat} {lb : Array Value} (c : Operand) (ts : Array TypeId)
    (hop : oi.op = .call { callee := .value c, args := #[], argTypes := ts }) (hc : a.eval c = .func (.func gf) #[] lb) (eg : ∀ args w, (callFunc gf args).run P w = .ok (.enter gf args) w)
    (h : Calls P gf lb w fun e w' => ∃ v, e = .returned v ∧ wpList P ops Q rest (a.put N v) w') : wpList P ops Q (oi :: rest) a w := by
  refine wpList_plain hg fun K hK => ?_
  unfold Oper.wp
  have he := eg lb w
  have hrun : (execOp a.eval oi).run P w = .ok (.enter gf lb) w := by
    unfold execOp
    simp [hop, resolve, Deferred.ofValue, invoke, hc, he]
  rw [hrun, Oper.upon_enter]
  refine h.mono fun e w'' hh => ?_
  obtain ⟨v, rfl, hk⟩ := hh
  subst hd
  exact hK _ _ hk

theorem change_down (g : Nat) (d : DkS) (n : Int) (gf : Nat) (lb : Array Value) (w : World) (h : DK w g d) (h0 : d.inn = 0) :
    Calls Try.prog 29 #[.pointer (some ⟨g, 0, none⟩), .int .i64 n, .func (.func gf) #[] lb] w fun e w' => e = .returned (.int .i64 7) ∧ w' = w := by
  obtain ⟨v, hv, hr⟩ := h
  rw [h0] at hv
  have c3 : w.cell? ⟨g, 3, none⟩ = some (.int .i64 0) := (blk_cell hv 3).trans rfl
  clear hv hr h0
  go_enter Try.func29, Try.ntmps29
  go_wp2
  go_ret
  exact ⟨rfl, rfl⟩
theorem count_pos {d : DkS} (h : 0 < d.inn) : d.count = { d with inn := d.inn - 1 } := by simp [DkS.count, h]
theorem count_neg {d : DkS} (h : d.inn < 0) : d.count = d := by simp [DkS.count, show ¬ 0 < d.inn from by omega]
set_option maxHeartbeats 1000000 in
theorem change_full (g : Nat) (d : DkS) (n : Int) (gf : Nat) (lb : Array Value) (w : World) (h : DK w g d) (hok : d.ok) (h0 : d.inn ≠ 0) (hn : d.room < n) :
    Calls Try.prog 29 #[.pointer (some ⟨g, 0, none⟩), .int .i64 n, .func (.func gf) #[] lb] w fun e w' => e = .returned (.int .i64 3) ∧ DK w' g d.count ∧ Fr w w' (fun k => k = g) := by
  have h' := h
  obtain ⟨v, hv, hr⟩ := h'
  have c3 : w.cell? ⟨g, 3, none⟩ = some (.int .i64 d.inn) := (blk_cell hv 3).trans rfl
  have z3 := blk_frozen hv 3
  have c0 : w.cell? ⟨g, 0, none⟩ = some (.int .i64 d.room) := (blk_cell hv 0).trans rfl
  have b1 := hok.2.2.2.2.2.1
  have b2 := hok.2.2.2.2.2.2.1
  have H := Lib.hid h
  clear h hv hr hok
  have t0 : (d.inn == 0) = false := beq_eq_false_iff_ne.2 h0
  have t2 : decide (d.room < n) = true := decide_eq_true hn
  by_cases hp : 0 < d.inn
  · have t1 : decide (0 < d.inn) = true := decide_eq_true hp
    have HC := Lib.hid (count_pos hp)
    clear h0 hn
    go_enter Try.func29, Try.ntmps29
    go_wp2
    go_ret
    rw [HC.out]
    exact ⟨rfl, H.out.set_in (by decide) _, fr_set w g 3 _⟩
  · have t1 : decide (0 < d.inn) = false := decide_eq_false hp
    have HC := Lib.hid (count_neg (d := d) (by omega))
    clear h0 hn
    go_enter Try.func29, Try.ntmps29
    go_wp2
    go_ret
    rw [HC.out]
    exact ⟨rfl, H.out, Fr.refl w _⟩
set_option maxHeartbeats 1000000 in
theorem change_does (g : Nat) (d : DkS) (n : Int) (gf : Nat) (lb : Array Value) (w : World) (h : DK w g d) (hok : d.ok) (h0 : d.inn ≠ 0) (hn : n ≤ d.room) (eg : ∀ args w, (callFunc gf args).run Try.prog w = .ok (.enter gf args) w) (R : World → Prop)
    (hcl : ∀ W, DK W g d.count → Fr w W (fun k => k = g) → Calls Try.prog gf lb W fun e W' => e = .returned (.tuple #[]) ∧ R W') :
    Calls Try.prog 29 #[.pointer (some ⟨g, 0, none⟩), .int .i64 n, .func (.func gf) #[] lb] w fun e w' => e = .returned (.int .i64 0) ∧ R w' := by
  have h' := h
  obtain ⟨v, hv, hr⟩ := h'
  have c3 : w.cell? ⟨g, 3, none⟩ = some (.int .i64 d.inn) := (blk_cell hv 3).trans rfl
  have z3 := blk_frozen hv 3
  have c0 : w.cell? ⟨g, 0, none⟩ = some (.int .i64 d.room) := (blk_cell hv 0).trans rfl
  have b1 := hok.2.2.2.2.2.1
  have b2 := hok.2.2.2.2.2.2.1
  have H := Lib.hid h
  clear h hv hr hok
  have t0 : (d.inn == 0) = false := beq_eq_false_iff_ne.2 h0
  have t2 : decide (d.room < n) = false := decide_eq_false (by omega)
  have HE := Lib.hid eg
  have HCL := Lib.hid hcl
  clear eg hcl
  by_cases hp : 0 < d.inn
  · have t1 : decide (0 < d.inn) = true := decide_eq_true hp
    have HC := Lib.hid (count_pos hp)
    clear h0 hn
    go_enter Try.func29, Try.ntmps29
    go_wp2_with (with_reducible refine goesvL (oi := ⟨some 33, _, _, _, _, _⟩) (some 33) rfl rfl (.tmp 32) #[] rfl rfl HE.out ?_; refine (HCL.out _ (by rw [HC.out]; exact H.out.set_in (by decide) _) (fr_set w g 3 _)).mono ?_; rintro e W' ⟨rfl, hR⟩; refine ⟨_, rfl, ?_⟩)
    go_ret
    exact ⟨rfl, hR⟩
  · have t1 : decide (0 < d.inn) = false := decide_eq_false hp
    have HC := Lib.hid (count_neg (d := d) (by omega))
    clear h0 hn
    go_enter Try.func29, Try.ntmps29
    go_wp2_with (with_reducible refine goesvL (oi := ⟨some 33, _, _, _, _, _⟩) (some 33) rfl rfl (.tmp 32) #[] rfl rfl HE.out ?_; refine (HCL.out _ (by rw [HC.out]; exact H.out) (Fr.refl w _)).mono ?_; rintro e W' ⟨rfl, hR⟩; refine ⟨_, rfl, ?_⟩)
    go_ret
    exact ⟨rfl, hR⟩

/-- A row of bytes stays, where a disk alone turns. -/
theorem C_fr_dk {T U : TypeId} {w W : World} {g : Nat} {d : DkS} {A : Option Addr} {n : Nat} {xs : List Int} (h : (Kd.int .u8).C w A n xs) (hd : DkAt T U w g d) (hf : Fr w W (fun k => k = g)) : (Kd.int .u8).C W A n xs := by
  obtain ⟨v, hv, hr⟩ := hd
  obtain ⟨Av, cv, rfl⟩ := Kd.R_slice hr
  obtain ⟨h1, h2, h3⟩ := Kd.reads_of_C (d := (0 : Int)) h
  refine Kd.C_of_reads (d := (0 : Int)) ⟨h1, h2, fun hp => ?_⟩
  obtain ⟨ad, e, hc⟩ := h3 hp
  refine ⟨ad, e, fun j hj => ?_⟩
  have hcj := hc j hj
  have hb : (ad.add j).block ≠ g := by
    intro hb
    have hh : w.heap[(ad.add j).block]? = _ := hb ▸ hv
    rw [World.cell?] at hcj
    simp only [hh] at hcj
    simp at hcj
    generalize (ad.add j).off = o at hcj
    match o, hcj with
    | 0, h => simp at h
    | 1, h => simp at h
    | 2, h => simp at h
    | 3, h => simp at h
    | o + 4, h => simp at h
  rw [World.cell?_of_block (hf.block _ (World.block_lt_of_cell? w _ hcj) hb)]
  exact hcj

theorem enters24 : ∀ args w, (callFunc 42 args).run Try.prog w = .ok (.enter 42 args) w := fun args w => enters_ Try.func42 (by kernel_rfl) rfl args w
theorem enters26 : ∀ args w, (callFunc 30 args).run Try.prog w = .ok (.enter 30 args) w := fun args w => enters_ Try.func30 (by kernel_rfl) rfl args w
theorem enters30 : ∀ args w, (callFunc 41 args).run Try.prog w = .ok (.enter 41 args) w := fun args w => enters_ Try.func41 (by kernel_rfl) rfl args w

theorem change_append (g : Nat) (d : DkS) (bd bb : Nat) (B : Option Addr) (cb : Nat) (b : List Int) (w : World) (h : DK w g d) (hok : d.ok) (hb : Boxed w bd 26 (.pointer (some ⟨g, 0, none⟩))) (hbb : Boxed w bb 33 (.slice B b.length cb))
    (hB : (Kd.int .u8).C w B b.length b) (hcb : b.length ≤ cb) (hl : d.b.length + b.length ≤ 140737488355328) :
    Calls Try.prog 29 #[.pointer (some ⟨g, 0, none⟩), .int .i64 ((d.b.length : Int) + b.length), .func (.func 42) #[] #[.pointer (some ⟨bd, 0, none⟩), .pointer (some ⟨bb, 0, none⟩)]] w fun e w' =>
      e = .returned (.int .i64 (d.append b).1) ∧ DK w' g (d.append b).2 ∧ Fr w w' (fun k => k = g) := by
  unfold DkS.append
  by_cases h0 : d.inn = 0
  · rw [if_pos h0]
    refine (change_down g d _ _ _ w h h0).mono ?_
    rintro e w' ⟨rfl, rfl⟩
    exact ⟨rfl, h, Fr.refl _ _⟩
  · rw [if_neg h0]
    by_cases h1 : d.room < (d.b.length : Int) + b.length
    · rw [if_pos h1]
      exact change_full g d _ _ _ w h hok h0 h1
    · rw [if_neg h1]
      refine change_does g d _ _ _ w h hok h0 (by omega) enters24 (fun w' => DK w' g { d.count with b := d.b ++ b } ∧ Fr w w' (fun k => k = g)) ?_
      intro W hW hf
      have n1 := blk_ne hb h.choose_spec.1 (by decide)
      have n2 := blk_ne hbb h.choose_spec.1 (by decide)
      refine (append1_calls g d.count bd bb B cb b W hW (box_fr hb hf n1) (box_fr hbb hf n2) (C_fr_dk hB h hf) hcb hl).mono ?_
      rintro e w' ⟨rfl, hd, hf2⟩
      exact ⟨rfl, hd, hf.then_ hf2 (fun i hi => .inl hi)⟩
theorem change_sync (g : Nat) (d : DkS) (bd : Nat) (w : World) (h : DK w g d) (hok : d.ok) (hb : Boxed w bd 26 (.pointer (some ⟨g, 0, none⟩))) :
    Calls Try.prog 29 #[.pointer (some ⟨g, 0, none⟩), .int .i64 0, .func (.func 30) #[] #[.pointer (some ⟨bd, 0, none⟩)]] w fun e w' =>
      e = .returned (.int .i64 d.sync.1) ∧ DK w' g d.sync.2 ∧ Fr w w' (fun k => k = g) := by
  unfold DkS.sync
  by_cases h0 : d.inn = 0
  · rw [if_pos h0]
    refine (change_down g d _ _ _ w h h0).mono ?_
    rintro e w' ⟨rfl, rfl⟩
    exact ⟨rfl, h, Fr.refl _ _⟩
  · rw [if_neg h0]
    refine change_does g d _ _ _ w h hok h0 (by have := hok.1; omega) enters26 (fun w' => DK w' g { d.count with last := d.b.length } ∧ Fr w w' (fun k => k = g)) ?_
    intro W hW hf
    have n1 := blk_ne hb h.choose_spec.1 (by decide)
    refine (sync1_calls g d.count bd W hW (box_fr hb hf n1)).mono ?_
    rintro e w' ⟨rfl, hd, hf2⟩
    exact ⟨rfl, hd, hf.then_ hf2 (fun i hi => .inl hi)⟩
theorem change_swap (g : Nat) (d : DkS) (bd bb : Nat) (B : Option Addr) (cb : Nat) (b : List Int) (w : World) (h : DK w g d) (hok : d.ok) (hb : Boxed w bd 26 (.pointer (some ⟨g, 0, none⟩))) (hbb : Boxed w bb 33 (.slice B b.length cb))
    (hB : (Kd.int .u8).C w B b.length b) (hcb : b.length ≤ cb) (hl : b.length ≤ 140737488355328) :
    Calls Try.prog 29 #[.pointer (some ⟨g, 0, none⟩), .int .i64 (b.length : Int), .func (.func 41) #[] #[.pointer (some ⟨bb, 0, none⟩), .pointer (some ⟨bd, 0, none⟩)]] w fun e w' =>
      e = .returned (.int .i64 (d.swap b).1) ∧ DK w' g (d.swap b).2 ∧ Fr w w' (fun k => k = g) := by
  unfold DkS.swap
  by_cases h0 : d.inn = 0
  · rw [if_pos h0]
    refine (change_down g d _ _ _ w h h0).mono ?_
    rintro e w' ⟨rfl, rfl⟩
    exact ⟨rfl, h, Fr.refl _ _⟩
  · rw [if_neg h0]
    by_cases h1 : d.room < (b.length : Int)
    · rw [if_pos h1]
      exact change_full g d _ _ _ w h hok h0 h1
    · rw [if_neg h1]
      refine change_does g d _ _ _ w h hok h0 (by omega) enters30 (fun w' => DK w' g { d.count with b := b, last := b.length } ∧ Fr w w' (fun k => k = g)) ?_
      intro W hW hf
      have n1 := blk_ne hb h.choose_spec.1 (by decide)
      have n2 := blk_ne hbb h.choose_spec.1 (by decide)
      refine (swap1_calls g d.count bd bb B cb b W hW (box_fr hb hf n1) (box_fr hbb hf n2) (C_fr_dk hB h hf) hcb hl).mono ?_
      rintro e w' ⟨rfl, hd, hf2⟩
      exact ⟨rfl, hd, hf.then_ hf2 (fun i hi => .inl hi)⟩
end Go.Proofs.Ytfndajgmjkimgaa
