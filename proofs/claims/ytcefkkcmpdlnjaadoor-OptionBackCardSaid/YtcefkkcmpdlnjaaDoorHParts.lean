/-
  option.parts: the options of bytes, handed on one by one. Condition: bytes, fewer than 2^40.
-/
import Derived.Lib.Hide
import Derived.Deep.Slices
import Derived.Deep.QuietTactic
import Derived.Test.YtcefkkcmpdlnjaaDoorRfK
import Derived.Test.YtcefkkcmpdlnjaaDoorHClone
namespace Go.Proofs.YtcefkkcmpdlnjaaDoor
open Go.RowKit Go.Proofs.YtcefkkcmpdlnjaaDoor.Pr Go.Proofs.YtcefkkcmpdlnjaaDoorW.PrintWords Go.Proofs.YtcefkkcmpdlnjaaDoorW.PrintLast Go.Proofs.YtcefkkcmpdlnjaaDoorW.PrintMore
attribute [local go_sem] max2_int min2_int max_two min_two max_three min_three max_four min_four
set_option linter.unusedVariables false
set_option linter.unusedSimpArgs false

abbrev OptP := S35
/-! ### what is handed on -/
def pGo (l : List Int) (pre : List OptP) : List OptP × Option (List Int) :=
  match l with
  | [] => (pre, none)
  | x :: r => if x = 0 then pGo r pre else if x = 255 then (pre, some r) else
    match r with
    | [] => (pre, none)
    | n :: s => if n.toNat ≤ s.length then pGo (s.drop n.toNat) (pre ++ [⟨x, s.take n.toNat⟩]) else (pre, none)
termination_by l.length
decreasing_by
  · simp
  · simp only [List.length_cons, List.length_drop]; omega
theorem pGo_nil {pre : List OptP} : pGo [] pre = (pre, none) := by rw [pGo.eq_def]
theorem pGo_zero {r : List Int} {pre : List OptP} : pGo (0 :: r) pre = pGo r pre := by rw [pGo.eq_def]; dsimp only; rw [if_pos rfl]
theorem pGo_end {r : List Int} {pre : List OptP} : pGo (255 :: r) pre = (pre, some r) := by rw [pGo.eq_def]; dsimp only; rw [if_neg (by decide), if_pos rfl]
theorem pGo_lone {x : Int} {pre : List OptP} (h0 : x ≠ 0) (h1 : x ≠ 255) : pGo [x] pre = (pre, none) := by rw [pGo.eq_def]; dsimp only; rw [if_neg h0, if_neg h1]
theorem pGo_step {x n : Int} {s : List Int} {pre : List OptP} (h0 : x ≠ 0) (h1 : x ≠ 255) (h : n.toNat ≤ s.length) : pGo (x :: n :: s) pre = pGo (s.drop n.toNat) (pre ++ [⟨x, s.take n.toNat⟩]) := by
  rw [pGo.eq_def]; dsimp only; rw [if_neg h0, if_neg h1, if_pos h]
theorem pGo_stop {x n : Int} {s : List Int} {pre : List OptP} (h0 : x ≠ 0) (h1 : x ≠ 255) (h : ¬ n.toNat ≤ s.length) : pGo (x :: n :: s) pre = (pre, none) := by
  rw [pGo.eq_def]; dsimp only; rw [if_neg h0, if_neg h1, if_neg h]

/-- All but one block is as it was. -/
structure OneBut (w W : World) (q : Nat) : Prop where
  os : W.os = w.os
  tape : W.tape = w.tape
  output : W.output = w.output
  size : w.heap.size ≤ W.heap.size
  block : ∀ k, k < w.heap.size → k ≠ q → W.heap[k]? = w.heap[k]?
theorem OneBut.of_below {w W : World} (h : Below w.heap.size w W) (q : Nat) : OneBut w W q := ⟨h.os, h.tape, h.output, h.size, fun k hk _ => h.block k hk⟩
theorem OneBut.set {w W : World} {q : Nat} (h : OneBut w W q) (u : Value) : OneBut w (W.setCell ⟨q, 0, none⟩ u) q := by
  have hb : Below q W (W.setCell ⟨q, 0, none⟩ u) := (Below.refl q W).setCell (p := ⟨q, 0, none⟩) (Nat.le_refl _) u
  exact ⟨hb.os.trans h.os, hb.tape.trans h.tape, hb.output.trans h.output, Nat.le_trans h.size hb.size, fun k hk hn => (Below.heap_setCell W ⟨q, 0, none⟩ u k hn).trans (h.block k hk hn)⟩
theorem boxed_blw {W W' : World} {B : Nat} {t : TypeId} {v : Value} (h : Boxed W B t v) (hb : Below W.heap.size W W') : Boxed W' B t v := (hb.block B h.lt).trans h
theorem mid_kp {α : Type} {P : Program} (k : Kd α) (t e : TypeId) {i : TypeInfo} (ht : P.underlying t = some (.slice e)) (hi : P.info? e = some i) (hsz : i.size = k.sz) (A : Option Addr) (c : Nat) (xs : List α) (a b : Int) (h0 : 0 ≤ a) (h1 : a ≤ b) (hm : b ≤ xs.length) (hc : xs.length ≤ c) (w : World) (h : k.C w A xs.length xs) :
    ∃ (A' : Option Addr) (c' : Nat) (ys : List α), Hid (ys = (xs.take b.toNat).drop a.toNat) ∧ (∀ W : World, (Instr.slice t (.slice A xs.length c) (some (.int .i64 a)) (some (.int .i64 b)) none).run P W = .ok (.slice A' ys.length c') W) ∧ k.C w A' ys.length ys ∧ ys.length ≤ c' := by
  have hl : ((xs.take b.toNat).drop a.toNat).length = b.toNat - a.toNat := by rw [List.length_drop, List.length_take]; omega
  refine ⟨_, c - a.toNat, _, rfl, ?_, Kd.C_mid h (lo := a.toNat) (hi := b.toNat) (by omega) (by omega) hc, by rw [hl]; omega⟩
  intro W
  rw [hl]
  exact cut_mid t e .i64 .i64 ht hi k.sz hsz A xs.length c a b h0 h1 hm hc W

set_option maxHeartbeats 4000000 in
set_option maxRecDepth 100000 in
theorem parts1_calls (b : List Int) (w0 : World) (hbytes : ∀ x ∈ b, 0 ≤ x ∧ x ≤ 255) (hlen : b.length < 1099511627776) (n l Bn : Nat) (J : List OptP → World → Prop) (End : World → Prop) (hBn : w0.heap.size ≤ Bn)
    (hJb : ∀ pre W, J pre W → Below w0.heap.size w0 W)
    (hJg : ∀ pre W W', J pre W → Below W.heap.size W W' → J pre W')
    (hJs : ∀ pre W v u, J pre W → Boxed W Bn 22 v → J pre (W.setCell ⟨Bn, 0, none⟩ u))
    (hY1 : ∀ pre W0 W x d Ad cd As ns cs bv, J pre W0 → (∃ bv0, Boxed W0 Bn 22 bv0) → OneBut W0 W Bn → pre.length < b.length → d.length ≤ b.length → Kd.R (Kd.int .u8) 5 W W0.heap.size (fun _ => True) (.slice Ad d.length cd) d → x ≠ 0 → x ≠ 255 → Boxed W Bn 22 bv →
      YieldAt Fence.wide n Tryd.prog l #[.agg #[.int .i64 x, .slice Ad d.length cd], .slice As ns cs] W fun e W' => e = .returned (.bool true) ∧ J (pre ++ [⟨x, d⟩]) W' ∧ Boxed W' Bn 22 bv)
    (hY2 : ∀ pre W r As cs, J pre W → (Kd.int .u8).C w0 As r.length r → r.length ≤ cs → pGo b [] = (pre, some r) →
      YieldAt Fence.wide n Tryd.prog l #[.agg #[.int .i64 255, .slice none 0 0], .slice As r.length cs] W fun e W' => (∃ q, e = .returned (.bool q)) ∧ End W')
    (hY3 : ∀ pre W, J pre W → pGo b [] = (pre, none) →
      YieldAt Fence.wide n Tryd.prog l #[.agg #[.int .i64 0, .slice none 0 0], .slice none 0 0] W fun e W' => (∃ q, e = .returned (.bool q)) ∧ End W')
    (W : World) (h0 : J [] W) (A0 : Option Addr) (c : Nat) (hC : (Kd.int .u8).C w0 A0 b.length b) (hc : b.length ≤ c) (hBx : Boxed W Bn 22 (.slice A0 b.length c)) :
    Calls Tryd.prog 16 #[.func (.yield l) #[] #[], .pointer (some ⟨Bn, 0, none⟩)] W fun e W' => (∃ v, e = .returned v) ∧ End W' := by
  have HC := Lib.hid hC
  have HBY := Lib.hid hbytes
  have HY1 := Lib.hid hY1
  have HY2 := Lib.hid hY2
  have HY3 := Lib.hid hY3
  have HJB := Lib.hid hJb
  have HJG := Lib.hid hJg
  have HJS := Lib.hid hJs
  have HJ0 := Lib.hid h0
  have HBX0 := Lib.hid hBx
  clear hC hbytes hY1 hY2 hY3 hJb hJg hJs h0 hBx
  go_enter Tryd.func16, Tryd.ntmps16
  go_wp2_with fail
  go_loopg [] (b.length) (fun kq wr => ∃ (l' : List Int) (A' : Option Addr) (c' : Nat) (pre : List OptP), Hid (l'.length = kq) ∧ Hid (l'.length ≤ c') ∧ Hid (l'.length + pre.length ≤ b.length) ∧ Hid (∀ x ∈ l', 0 ≤ x ∧ x ≤ 255) ∧ Hid ((Kd.int .u8).C w0 A' l'.length l') ∧
      Hid (Boxed wr Bn 22 (.slice A' l'.length c')) ∧ Hid (J pre wr) ∧ Hid (pGo l' pre = pGo b []))
  case atStart => exact ⟨b, A0, c, [], rfl, hc, Lib.hid (by simp), HBY, HC, HBX0, HJ0, rfl⟩
  case round =>
    obtain ⟨l', A', c', pre, HK, HCL, HLP, HBY', HC', HBX, HJ, HP⟩ := hrel
    clear HC HBX0 HJ0
    have y1 := HBX.out.cell
    have z1 := HBX.out.frozen
    cases l' with
    | nil =>
      have HR := Lib.hid (HP.out.symm.trans pGo_nil)
      go_upto_region 11 with fail
      refine (wpIn_wide (n := n + 1)).1 ?_
      obtain ⟨fn, tmps, assign, body, hy, hR⟩ := HY3.out _ _ HJ.out HR.out
      gi_wp2_with fail
      refine hR.mono ?_
      rintro e W3 ⟨⟨q, rfl⟩, hE⟩
      gi_wp2_with fail
      go_end0
      exact ⟨⟨_, rfl⟩, hE⟩
    | cons x r =>
      have hx := HBY'.out x (by simp)
      obtain ⟨ad, rfl, x0⟩ := Kd.at_int HC'.out 0 (by omega) (by simp only [List.length_cons]; omega)
      have x0w : w0.cell? ad = some (.int .u8 x) := x0
      have HX0 := Lib.hid x0w
      have x0' := ((HJB.out _ _ HJ.out).cell (World.block_lt_of_cell? w0 _ x0w)).trans x0w
      have C2 := Kd.C_drop (c := c') (m := 1) HC'.out (by simp) HCL.out
      rw [show (Kd.int .u8).sz = 1 from rfl, Nat.mul_one] at C2
      change (Kd.int .u8).C w0 _ r.length r at C2
      obtain ⟨i0, hinf, hzz⟩ := Option.map_eq_some_iff.1 cl_info
      simp only [Prod.mk.injEq] at hzz
      obtain ⟨nn, hnn⟩ : ∃ nn, nn = (x :: r).length := ⟨_, rfl⟩
      have hn2 : nn = r.length + 1 := hnn
      have hcl := HCL.out
      have hlp := HLP.out
      have hk := HK.out
      rw [← hnn] at hcl hlp hk y1
      have r1 := cut_from (P := Tryd.prog) 22 5 .i64 Tryd.underlying22 hinf 1 hzz.2.1 (some ad) nn c' 1 (by omega) (by omega)
      rw [show (1 : Int).toNat = 1 from rfl, Nat.mul_one, show nn - 1 = r.length from by omega] at r1
      obtain ⟨A2, hA2⟩ : ∃ A2, A2 = (if c' = 1 then some ad else (some ad).map (·.add 1)) := ⟨_, rfl⟩
      obtain ⟨c2, hc2⟩ : ∃ c2, c2 = c' - 1 := ⟨_, rfl⟩
      rw [← hA2] at C2
      rw [← hA2, ← hc2] at r1
      have HC2 := Lib.hid C2
      have HL2 : Hid (r.length ≤ c2) := by show _ ≤ _; omega
      have HGK : Hid (r.length + 1 = gk) := by show _ = _; omega
      have HLP2 : Hid (r.length + 1 + pre.length ≤ b.length) := by show _ ≤ _; omega
      have p0 : ((nn : Int) > 0) = True := eq_true (by omega)
      have p1 : (0 < nn) = True := eq_true (by omega)
      have e6 : IntKind.i64.wrap x = x := IntWalk.i64_in _ (by omega)
      have HBY2 : Hid (∀ y ∈ r, 0 ≤ y ∧ y ≤ 255) := fun y hy => HBY'.out y (List.mem_cons_of_mem _ hy)
      have HBX2 : Hid (Boxed (wr.setCell ⟨Bn, 0, none⟩ (.slice A2 r.length c2)) Bn 22 (.slice A2 r.length c2)) := HBX.out.set _
      have HJ2 := Lib.hid (HJS.out _ _ _ (.slice A2 r.length c2) HJ.out HBX.out)
      have HINF : Hid (Tryd.prog.info? 5 = some i0) := hinf
      have HONE : Hid (i0.size = 1) := hzz.2.1
      clear x0 x0w C2 hA2 hc2 hnn hn2 hcl hlp hk HC' HK HCL HLP HBY' hinf hzz HBX HJ
      by_cases hz0 : x = 0
      · subst hz0
        have HP2 := Lib.hid (pGo_zero.symm.trans HP.out)
        go_wp2_with fail
        go_roundg (r.length)
        case measure => have := HGK.out; omega
        case rel => exact ⟨r, A2, c2, pre, rfl, HL2, Lib.hid (by have := HLP2.out; omega), HBY2, HC2, HBX2, HJ2, HP2⟩
      · have q0 : (x == 0) = false := beq_eq_false_iff_ne.2 hz0
        have HZ0 := Lib.hid hz0
        clear hz0
        by_cases hz1 : x = 255
        · subst hz1
          have HR := Lib.hid (HP.out.symm.trans pGo_end)
          go_upto_region 5 with fail
          have y2 := HBX2.out.cell
          refine (wpIn_wide (n := n + 1)).1 ?_
          obtain ⟨fn, tmps, assign, body, hy, hR⟩ := HY2.out _ _ _ _ _ HJ2.out HC2.out HL2.out HR.out
          gi_wp2_with fail
          refine hR.mono ?_
          rintro e W3 ⟨⟨q, rfl⟩, hE⟩
          gi_wp2_with fail
          go_wp2_with fail
          refine bodyPost_ret (results_none rfl _ _ _) rfl ⟨⟨_, rfl⟩, hE⟩
        · have q1 : (x == 255) = false := beq_eq_false_iff_ne.2 hz1
          have HZ1 := Lib.hid hz1
          clear hz1
          obtain ⟨rn, hrn⟩ : ∃ rn, rn = r.length := ⟨_, rfl⟩
          obtain ⟨w2, hw2⟩ : ∃ W, wr.setCell ⟨Bn, 0, none⟩ (.slice A2 r.length c2) = W := ⟨_, rfl⟩
          rw [hw2] at HBX2 HJ2
          rw [← hrn] at r1 HBX2 hw2
          have HRN := Lib.hid hrn
          cases r with
          | nil =>
            have HR := Lib.hid (HP.out.symm.trans (pGo_lone HZ0.out HZ1.out))
            obtain rfl : rn = 0 := hrn
            go_wp2_with fail
            try rw [hw2]
            have y2 := HBX2.out.cell
            clear y1 z1 x0' hw2
            refine start_ (n := 13) (S := fun w' => w'.cell? ⟨Bn, 0, none⟩ = some (.slice A2 0 c2)) (ds := []) #[false, false, false, false, false, false, false, false, false, false, false, false, false] (by kernel_rfl) rfl rfl y2 (fun hHeld => ?_)
            refine take_ (i := 0) (N := some 23) (v := .slice A2 0 c2) (a' := ?_) #[true, false, false, false, false, false, false, false, false, false, false, false, false] rfl rfl (by kernel_rfl) (fun _ _ _ h => h) (Or.inl ⟨by rfl, ?_⟩) hHeld ?_ ?_
            · rintro w' s0
              go_simp
              try (with_reducible rfl)
            rotate_left
            · simp only [Act.put, List.setIfInBounds_toArray, List.set_cons_zero, List.set_cons_succ, i64_w, i32_w]
              rfl
            refine pure_ (i := 1) (N := some 24) (v := .int .i64 0) (a' := ?_) #[true, true, false, false, false, false, false, false, false, false, false, false, false] rfl rfl (by kernel_rfl) (fun _ _ _ h => h) (Or.inl ⟨by rfl, ?_⟩) ?_ ?_
            · intro w'
              go_simp
              try (with_reducible rfl)
            rotate_left
            · simp only [Act.put, List.setIfInBounds_toArray, List.set_cons_zero, List.set_cons_succ, i64_w, i32_w]
              rfl
            refine pure_ (i := 2) (N := some 25) (v := .bool true) (a' := ?_) #[true, true, true, false, false, false, false, false, false, false, false, false, false] rfl rfl (by kernel_rfl) (fun _ _ _ h => h) (Or.inl ⟨by rfl, ?_⟩) ?_ ?_
            · intro w'
              go_simp
              try (with_reducible rfl)
            rotate_left
            · simp only [Act.put, List.setIfInBounds_toArray, List.set_cons_zero, List.set_cons_succ, i64_w, i32_w]
              rfl
            refine pure_ (i := 3) (N := some 26) (v := .bool true) (a' := ?_) #[true, true, true, true, false, false, false, false, false, false, false, false, false] rfl rfl (by kernel_rfl) (fun _ _ _ h => h) (Or.inl ⟨by rfl, ?_⟩) ?_ ?_
            · intro w'
              go_simp
              try (with_reducible rfl)
            rotate_left
            · simp only [Act.put, List.setIfInBounds_toArray, List.set_cons_zero, List.set_cons_succ, i64_w, i32_w]
              rfl
            refine pure_ (i := 4) (N := some 27) (v := undef) (a' := ?_) #[true, true, true, true, true, false, false, false, false, false, false, false, false] rfl rfl (by kernel_rfl) (fun _ _ _ h => h) (Or.inr ⟨by rfl, rfl⟩) ?_ ?_
            rotate_left
            · simp only [Act.put, List.setIfInBounds_toArray, List.set_cons_zero, List.set_cons_succ, i64_w, i32_w]
              rfl
            refine pure_ (i := 5) (N := some 28) (v := undef) (a' := ?_) #[true, true, true, true, true, true, false, false, false, false, false, false, false] rfl rfl (by kernel_rfl) (fun _ _ _ h => h) (Or.inr ⟨by rfl, rfl⟩) ?_ ?_
            rotate_left
            · simp only [Act.put, List.setIfInBounds_toArray, List.set_cons_zero, List.set_cons_succ, i64_w, i32_w]
              rfl
            refine pure_ (i := 6) (N := some 29) (v := undef) (a' := ?_) #[true, true, true, true, true, true, true, false, false, false, false, false, false] rfl rfl (by kernel_rfl) (fun _ _ _ h => h) (Or.inr ⟨by rfl, rfl⟩) ?_ ?_
            rotate_left
            · simp only [Act.put, List.setIfInBounds_toArray, List.set_cons_zero, List.set_cons_succ, i64_w, i32_w]
              rfl
            refine pure_ (i := 7) (N := some 30) (v := undef) (a' := ?_) #[true, true, true, true, true, true, true, true, false, false, false, false, false] rfl rfl (by kernel_rfl) (fun _ _ _ h => h) (Or.inr ⟨by rfl, rfl⟩) ?_ ?_
            rotate_left
            · simp only [Act.put, List.setIfInBounds_toArray, List.set_cons_zero, List.set_cons_succ, i64_w, i32_w]
              rfl
            refine pure_ (i := 8) (N := some 31) (v := undef) (a' := ?_) #[true, true, true, true, true, true, true, true, true, false, false, false, false] rfl rfl (by kernel_rfl) (fun _ _ _ h => h) (Or.inr ⟨by rfl, rfl⟩) ?_ ?_
            rotate_left
            · simp only [Act.put, List.setIfInBounds_toArray, List.set_cons_zero, List.set_cons_succ, i64_w, i32_w]
              rfl
            refine pure_ (i := 9) (N := some 32) (v := undef) (a' := ?_) #[true, true, true, true, true, true, true, true, true, true, false, false, false] rfl rfl (by kernel_rfl) (fun _ _ _ h => h) (Or.inr ⟨by rfl, rfl⟩) ?_ ?_
            rotate_left
            · simp only [Act.put, List.setIfInBounds_toArray, List.set_cons_zero, List.set_cons_succ, i64_w, i32_w]
              rfl
            refine pure_ (i := 10) (N := some 33) (v := undef) (a' := ?_) #[true, true, true, true, true, true, true, true, true, true, true, false, false] rfl rfl (by kernel_rfl) (fun _ _ _ h => h) (Or.inr ⟨by rfl, rfl⟩) ?_ ?_
            rotate_left
            · simp only [Act.put, List.setIfInBounds_toArray, List.set_cons_zero, List.set_cons_succ, i64_w, i32_w]
              rfl
            refine pure_ (i := 11) (N := some 34) (v := undef) (a' := ?_) #[true, true, true, true, true, true, true, true, true, true, true, true, false] rfl rfl (by kernel_rfl) (fun _ _ _ h => h) (Or.inr ⟨by rfl, rfl⟩) ?_ ?_
            rotate_left
            · simp only [Act.put, List.setIfInBounds_toArray, List.set_cons_zero, List.set_cons_succ, i64_w, i32_w]
              rfl
            refine pure_ (i := 12) (N := some 35) (v := .bool true) (a' := ?_) #[true, true, true, true, true, true, true, true, true, true, true, true, true] rfl rfl (by kernel_rfl) (fun _ _ _ h => h) (Or.inl ⟨by rfl, ?_⟩) ?_ ?_
            · intro w'
              go_simp
              try (with_reducible rfl)
            rotate_left
            · simp only [Act.put, List.setIfInBounds_toArray, List.set_cons_zero, List.set_cons_succ, i64_w, i32_w]
              rfl
            refine done_ (by kernel_rfl) ?_
            go_upto_region 11 with fail
            refine (wpIn_wide (n := n + 1)).1 ?_
            obtain ⟨fn, tmps, assign, body, hy, hR⟩ := HY3.out _ _ (HJG.out _ _ _ HJ2.out (below_drew (Below.refl _ _))) HR.out
            gi_wp2_with fail
            refine hR.mono ?_
            rintro e W3 ⟨⟨q, rfl⟩, hE⟩
            gi_wp2_with fail
            go_end0
            exact ⟨⟨_, rfl⟩, hE⟩
          | cons m s =>
            obtain ⟨mm, rfl⟩ : ∃ mm : Nat, m = mm := Int.eq_ofNat_of_zero_le (HBY2.out m (by simp)).1
            have hm255 : (mm : Int) ≤ 255 := (HBY2.out mm (by simp)).2
            obtain ⟨ad2, rfl, xm⟩ := Kd.at_int HC2.out 0 (by omega) (by simp only [List.length_cons]; omega)
            have xm0 : w0.cell? ad2 = some (.int .u8 (mm : Int)) := xm
            have HXM := Lib.hid xm0
            have hrs : rn = s.length + 1 := hrn
            have hlb := HLP2.out
            have hl2 := HL2.out
            rw [← hrn] at hlb hl2
            have e7 : IntKind.i64.wrap (mm : Int) = (mm : Int) := IntWalk.i64_in _ (by omega)
            have e8 : IntKind.i64.wrap ((rn : Int) - 1) = (s.length : Int) := by rw [IntWalk.i64_in _ (by omega)]; omega
            have q2 : ((rn : Int) == 0) = false := beq_eq_false_iff_ne.2 (by omega)
            have q3 : (rn == 0) = false := beq_eq_false_iff_ne.2 (by omega)
            have q4 : (rn = 0) = False := eq_false (by omega)
            have p2 : ((0 : Int) < (rn : Int)) = True := eq_true (by omega)
            have p3 : (0 < rn) = True := eq_true (by omega)
            have HRS := Lib.hid hrs
            have HLB := Lib.hid hlb
            clear xm xm0 hrs hrn
            by_cases hms : mm ≤ s.length
            · have HP2 := Lib.hid ((pGo_step HZ0.out HZ1.out (by rw [Int.toNat_natCast]; exact hms)).symm.trans HP.out)
              obtain ⟨m1, hm1⟩ : ∃ m1 : Int, (mm : Int) + 1 = m1 := ⟨_, rfl⟩
              have g1 : ((mm : Int) > (s.length : Int)) = False := eq_false (by omega)
              have g2 : (s.length < mm) = False := eq_false (by omega)
              have e9 : IntKind.i64.wrap ((mm : Int) + 1) = m1 := by rw [IntWalk.i64_in _ (by omega)]; exact hm1
              have hrs := HRS.out
              have hrl : ((mm : Int) :: s).length = rn := HRS.out.symm
              have hC2 := HC2.out
              obtain ⟨A4, c4, ys, HYS, hrun, hC4, hcl4⟩ := mid_kp (P := Tryd.prog) (Kd.int .u8) 22 5 Tryd.underlying22 HINF.out HONE.out (some ad2) c2 ((mm : Int) :: s) 1 m1 (by omega) (by omega) (by rw [hrl]; omega) (by rw [hrl]; exact hl2) w0 hC2
              rw [hrl] at hrun
              have HYE : Hid (ys = s.take mm) := by
                show _ = _
                rw [HYS.out, ← hm1, show ((mm : Int) + 1).toNat = mm + 1 from by omega]
                rfl
              have hyl : ys.length = mm := by rw [HYE.out, List.length_take]; omega
              have HCC := Lib.hid (fun W9 (hW9 : Below w0.heap.size w0 W9) => clone_calls A4 c4 ys W9 (Kd.C_below hC4 hW9) hcl4 (by omega))
              have r3 := cut_from (P := Tryd.prog) 22 5 .i64 Tryd.underlying22 HINF.out 1 HONE.out (some ad2) rn c2 m1 (by omega) (by omega)
              have C5 := Kd.C_drop (c := c2) (m := mm + 1) hC2 (by rw [hrl]; omega) (by rw [hrl]; exact hl2)
              rw [show (Kd.int .u8).sz = 1 from rfl, Nat.mul_one] at C5
              change (Kd.int .u8).C w0 _ (s.drop mm).length (s.drop mm) at C5
              obtain ⟨s5, hs5⟩ : ∃ s5, s5 = s.drop mm := ⟨_, rfl⟩
              have hs5l : s5.length = s.length - mm := by rw [hs5, List.length_drop]
              rw [← hs5] at C5
              rw [show m1.toNat = mm + 1 from by omega, Nat.mul_one, show rn - (mm + 1) = s5.length from by omega] at r3
              obtain ⟨A5, hA5⟩ : ∃ A5, A5 = (if c2 = mm + 1 then some ad2 else (some ad2).map (·.add (mm + 1))) := ⟨_, rfl⟩
              obtain ⟨c5, hc5⟩ : ∃ c5, c5 = c2 - (mm + 1) := ⟨_, rfl⟩
              rw [← hA5, ← hc5] at r3
              rw [← hA5] at C5
              have HC5 := Lib.hid C5
              have HL5 : Hid (s5.length ≤ c5) := by show _ ≤ _; omega
              have HLP5 : Hid (s5.length + (pre.length + 1) ≤ b.length) := by show _ ≤ _; omega
              have HPL : Hid (pre.length < b.length) := by show _ < _; omega
              have HYL : Hid (ys.length ≤ b.length) := by show _ ≤ _; omega
              have HS5 := Lib.hid hs5
              have HM5 : Hid (s5.length < gk) := by have h1 := HGK.out; have h2 := HRS.out; show _ < _; simp only [List.length_cons] at h1; omega
              clear hA5 hc5 hs5 hs5l C5 hC4 hcl4 hyl hC2 hrl hm1 hrs
              go_wp2_with fail
              try rw [hw2]
              have y2 := HBX2.out.cell
              have y3 := ((HJB.out _ _ HJ2.out).cell (World.block_lt_of_cell? w0 _ HXM.out)).trans HXM.out
              clear y1 z1 x0' hw2 hlb
              refine start_ (n := 13) (S := fun w' => w'.cell? ⟨Bn, 0, none⟩ = some (.slice (some ad2) rn c2) ∧ w'.cell? ad2 = some (.int .u8 (mm : Int))) (ds := []) #[false, false, false, false, false, false, false, false, false, false, false, false, false] (by kernel_rfl) rfl rfl ⟨y2, y3⟩ (fun hHeld => ?_)
              refine take_ (i := 0) (N := some 23) (v := .slice (some ad2) rn c2) (a' := ?_) #[true, false, false, false, false, false, false, false, false, false, false, false, false] rfl rfl (by kernel_rfl) (fun _ _ _ h => h) (Or.inl ⟨by rfl, ?_⟩) hHeld ?_ ?_
              · rintro w' ⟨s0, s1⟩
                go_simp
                try (with_reducible rfl)
              rotate_left
              · simp only [Act.put, List.setIfInBounds_toArray, List.set_cons_zero, List.set_cons_succ, i64_w, i32_w]
                rfl
              refine pure_ (i := 1) (N := some 24) (v := .int .i64 rn) (a' := ?_) #[true, true, false, false, false, false, false, false, false, false, false, false, false] rfl rfl (by kernel_rfl) (fun _ _ _ h => h) (Or.inl ⟨by rfl, ?_⟩) ?_ ?_
              · intro w'
                go_simp
                try (with_reducible rfl)
              rotate_left
              · simp only [Act.put, List.setIfInBounds_toArray, List.set_cons_zero, List.set_cons_succ, i64_w, i32_w]
                rfl
              refine pure_ (i := 2) (N := some 25) (v := .bool false) (a' := ?_) #[true, true, true, false, false, false, false, false, false, false, false, false, false] rfl rfl (by kernel_rfl) (fun _ _ _ h => h) (Or.inl ⟨by rfl, ?_⟩) ?_ ?_
              · intro w'
                go_simp
                try (with_reducible rfl)
              rotate_left
              · simp only [Act.put, List.setIfInBounds_toArray, List.set_cons_zero, List.set_cons_succ, i64_w, i32_w]
                rfl
              refine pure_ (i := 3) (N := some 26) (v := .bool false) (a' := ?_) #[true, true, true, true, false, false, false, false, false, false, false, false, false] rfl rfl (by kernel_rfl) (fun _ _ _ h => h) (Or.inl ⟨by rfl, ?_⟩) ?_ ?_
              · intro w'
                go_simp
                try (with_reducible rfl)
              rotate_left
              · simp only [Act.put, List.setIfInBounds_toArray, List.set_cons_zero, List.set_cons_succ, i64_w, i32_w]
                rfl
              refine take_ (i := 4) (N := some 27) (v := .slice (some ad2) rn c2) (a' := ?_) #[true, true, true, true, true, false, false, false, false, false, false, false, false] rfl rfl (by kernel_rfl) (fun _ _ _ h => h) (Or.inl ⟨by rfl, ?_⟩) hHeld ?_ ?_
              · rintro w' ⟨s0, s1⟩
                go_simp
                try (with_reducible rfl)
              rotate_left
              · simp only [Act.put, List.setIfInBounds_toArray, List.set_cons_zero, List.set_cons_succ, i64_w, i32_w]
                rfl
              refine pure_ (i := 5) (N := some 28) (v := .pointer (some ad2)) (a' := ?_) #[true, true, true, true, true, true, false, false, false, false, false, false, false] rfl rfl (by kernel_rfl) (fun _ _ _ h => h) (Or.inl ⟨by rfl, ?_⟩) ?_ ?_
              · intro w'
                go_simp
                try (with_reducible rfl)
              rotate_left
              · simp only [Act.put, List.setIfInBounds_toArray, List.set_cons_zero, List.set_cons_succ, i64_w, i32_w]
                rfl
              refine take_ (i := 6) (N := some 29) (v := .int .u8 (mm : Int)) (a' := ?_) #[true, true, true, true, true, true, true, false, false, false, false, false, false] rfl rfl (by kernel_rfl) (fun _ _ _ h => h) (Or.inl ⟨by rfl, ?_⟩) hHeld ?_ ?_
              · rintro w' ⟨s0, s1⟩
                go_simp
                try (with_reducible rfl)
              rotate_left
              · simp only [Act.put, List.setIfInBounds_toArray, List.set_cons_zero, List.set_cons_succ, i64_w, i32_w]
                rfl
              refine pure_ (i := 7) (N := some 30) (v := .int .i64 (mm : Int)) (a' := ?_) #[true, true, true, true, true, true, true, true, false, false, false, false, false] rfl rfl (by kernel_rfl) (fun _ _ _ h => h) (Or.inl ⟨by rfl, ?_⟩) ?_ ?_
              · intro w'
                go_simp
                try (with_reducible rfl)
              rotate_left
              · simp only [Act.put, List.setIfInBounds_toArray, List.set_cons_zero, List.set_cons_succ, i64_w, i32_w]
                rfl
              refine take_ (i := 8) (N := some 31) (v := .slice (some ad2) rn c2) (a' := ?_) #[true, true, true, true, true, true, true, true, true, false, false, false, false] rfl rfl (by kernel_rfl) (fun _ _ _ h => h) (Or.inl ⟨by rfl, ?_⟩) hHeld ?_ ?_
              · rintro w' ⟨s0, s1⟩
                go_simp
                try (with_reducible rfl)
              rotate_left
              · simp only [Act.put, List.setIfInBounds_toArray, List.set_cons_zero, List.set_cons_succ, i64_w, i32_w]
                rfl
              refine pure_ (i := 9) (N := some 32) (v := .int .i64 rn) (a' := ?_) #[true, true, true, true, true, true, true, true, true, true, false, false, false] rfl rfl (by kernel_rfl) (fun _ _ _ h => h) (Or.inl ⟨by rfl, ?_⟩) ?_ ?_
              · intro w'
                go_simp
                try (with_reducible rfl)
              rotate_left
              · simp only [Act.put, List.setIfInBounds_toArray, List.set_cons_zero, List.set_cons_succ, i64_w, i32_w]
                rfl
              refine pure_ (i := 10) (N := some 33) (v := .int .i64 (s.length : Int)) (a' := ?_) #[true, true, true, true, true, true, true, true, true, true, true, false, false] rfl rfl (by kernel_rfl) (fun _ _ _ h => h) (Or.inl ⟨by rfl, ?_⟩) ?_ ?_
              · intro w'
                go_simp
                try (with_reducible rfl)
              rotate_left
              · simp only [Act.put, List.setIfInBounds_toArray, List.set_cons_zero, List.set_cons_succ, i64_w, i32_w]
                rfl
              refine pure_ (i := 11) (N := some 34) (v := .bool false) (a' := ?_) #[true, true, true, true, true, true, true, true, true, true, true, true, false] rfl rfl (by kernel_rfl) (fun _ _ _ h => h) (Or.inl ⟨by rfl, ?_⟩) ?_ ?_
              · intro w'
                go_simp
                try (with_reducible rfl)
              rotate_left
              · simp only [Act.put, List.setIfInBounds_toArray, List.set_cons_zero, List.set_cons_succ, i64_w, i32_w]
                rfl
              refine pure_ (i := 12) (N := some 35) (v := .bool false) (a' := ?_) #[true, true, true, true, true, true, true, true, true, true, true, true, true] rfl rfl (by kernel_rfl) (fun _ _ _ h => h) (Or.inl ⟨by rfl, ?_⟩) ?_ ?_
              · intro w'
                go_simp
                try (with_reducible rfl)
              rotate_left
              · simp only [Act.put, List.setIfInBounds_toArray, List.set_cons_zero, List.set_cons_succ, i64_w, i32_w]
                rfl
              refine done_ (by kernel_rfl) ?_
              obtain ⟨w3, hw3⟩ : ∃ W, w2.drew = W := ⟨_, rfl⟩
              have hb3 : Below w2.heap.size w2 w3 := by rw [← hw3]; exact below_drew (Below.refl _ _)
              have HBX3 := Lib.hid (boxed_blw HBX2.out hb3)
              have HJ3 := Lib.hid (HJG.out _ _ _ HJ2.out hb3)
              rw [hw3]
              clear hw3 hb3 y2 y3 HBX2 HJ2
              have y2 := HBX3.out.cell
              have y3 := ((HJB.out _ _ HJ3.out).cell (World.block_lt_of_cell? w0 _ HXM.out)).trans HXM.out
              go_wp2_with fail
              refine (HCC.out _ (HJB.out _ _ HJ3.out)).mono ?_
              rintro e w4 ⟨v4, rfl, hv4, hb4⟩
              obtain ⟨Ad, cd, rfl⟩ := Kd.R_slice hv4
              have HBX4 := Lib.hid (boxed_blw HBX3.out hb4)
              have HB4 := Lib.hid hb4
              have HV4 := Lib.hid hv4
              clear y2 y3 hv4 hb4
              have y2 := HBX4.out.cell
              go_upto_region 9 with fail
              obtain ⟨bx, hbx⟩ : ∃ b, w4.heap.size = b := ⟨_, rfl⟩
              obtain ⟨w5, hw5⟩ : ∃ W, w4.alloc (.cells #[.int .i64 x, .slice Ad ys.length cd] 35) = W := ⟨_, rfl⟩
              have hb5 : Below w4.heap.size w4 w5 := by rw [← hw5]; exact below_alloc (Below.refl _ _) _
              have HX5 : Hid (w5.heap[bx]? = some (.cells #[.int .i64 x, .slice Ad ys.length cd] 35 (0, 0))) := by show _ = _; rw [← hw5, ← hbx]; exact blk_new _ _
              have HBX5 := Lib.hid (boxed_blw HBX4.out hb5)
              have HNB : Hid (bx ≠ Bn) := by have := HBX4.out.lt; show _ ≠ _; omega
              have HV5 := Lib.hid (Kd.R_below HV4.out hb5)
              have HO5 := Lib.hid (OneBut.of_below (HB4.out.trans (hb5.mono HB4.out.size)) Bn)
              rw [hw5, hbx]
              clear hw5 hbx hb5 y2 HV4 HB4 HBX4
              have y2 := HBX5.out.cell
              have z2 := HBX5.out.frozen
              go_upto_region 10 with fail
              obtain ⟨w6, hw6⟩ : ∃ W, w5.setCell ⟨Bn, 0, none⟩ (.slice A5 s5.length c5) = W := ⟨_, rfl⟩
              have HBX6 : Hid (Boxed w6 Bn 22 (.slice A5 s5.length c5)) := by show Boxed _ _ _ _; rw [← hw6]; exact HBX5.out.set _
              have HX6 : Hid (w6.heap[bx]? = some (.cells #[.int .i64 x, .slice Ad ys.length cd] 35 (0, 0))) := by show _ = _; rw [← hw6]; exact (Below.heap_setCell _ _ _ _ HNB.out).trans HX5.out
              have HO6 : Hid (OneBut w3 w6 Bn) := by show OneBut _ _ _; rw [← hw6]; exact HO5.out.set _
              have HV6 : Hid ((Kd.int .u8).R 5 w6 w3.heap.size (fun _ => True) (.slice Ad ys.length cd) ys) := by
                show Kd.R _ _ _ _ _ _ _
                rw [← hw6]
                refine Kd.R_mono (Kd.R_move (Kd.R_bound HV5.out) (fun k hk => Below.heap_setCell _ _ _ _ ?_)) (fun _ hk => hk.1)
                have h1 := hk.2.1
                have h2 := HBX3.out.lt
                show k ≠ Bn
                omega
              rw [hw6]
              clear hw6 y2 z2 HV5 HO5 HX5 HBX5
              have y2 := HBX6.out.cell
              have y3 := (blk_cell HX6.out 0).trans rfl
              have y4 := (blk_cell HX6.out 1).trans rfl
              refine (wpIn_wide (n := n + 1)).1 ?_
              obtain ⟨fn, tmps, assign, body, hy, hR⟩ := HY1.out _ _ _ x ys Ad cd A5 s5.length c5 _ HJ3.out ⟨_, HBX3.out⟩ HO6.out HPL.out HYL.out HV6.out HZ0.out HZ1.out HBX6.out
              gi_wp2_with fail
              refine hR.mono ?_
              rintro e W3 ⟨rfl, hJ7, hB7⟩
              gi_wp2_with fail
              go_wp2_with fail
              have HBY5 : Hid (∀ y ∈ s5, 0 ≤ y ∧ y ≤ 255) := fun y hy2 => HBY2.out y (List.mem_cons_of_mem _ (List.mem_of_mem_drop (HS5.out ▸ hy2)))
              have HP5 : Hid (pGo s5 (pre ++ [⟨x, ys⟩]) = pGo b []) := by
                have h1 := HP2.out
                rw [Int.toNat_natCast, ← HYE.out, ← HS5.out] at h1
                exact h1
              go_roundg (s5.length)
              case measure => exact HM5.out
              case rel => exact ⟨s5, A5, c5, pre ++ [⟨x, ys⟩], rfl, HL5, Lib.hid (by have := HLP5.out; simp only [List.length_append, List.length_singleton]; omega), HBY5, HC5, Lib.hid hB7, Lib.hid hJ7, HP5⟩
            · have HR := Lib.hid (HP.out.symm.trans (pGo_stop HZ0.out HZ1.out (by rw [Int.toNat_natCast]; exact hms)))
              have g1 : ((mm : Int) > (s.length : Int)) = True := eq_true (by omega)
              have g2 : (s.length < mm) = True := eq_true (by omega)
              go_wp2_with fail
              try rw [hw2]
              have y2 := HBX2.out.cell
              have y3 := ((HJB.out _ _ HJ2.out).cell (World.block_lt_of_cell? w0 _ HXM.out)).trans HXM.out
              clear y1 z1 x0' hw2 hlb
              refine start_ (n := 13) (S := fun w' => w'.cell? ⟨Bn, 0, none⟩ = some (.slice (some ad2) rn c2) ∧ w'.cell? ad2 = some (.int .u8 (mm : Int))) (ds := []) #[false, false, false, false, false, false, false, false, false, false, false, false, false] (by kernel_rfl) rfl rfl ⟨y2, y3⟩ (fun hHeld => ?_)
              refine take_ (i := 0) (N := some 23) (v := .slice (some ad2) rn c2) (a' := ?_) #[true, false, false, false, false, false, false, false, false, false, false, false, false] rfl rfl (by kernel_rfl) (fun _ _ _ h => h) (Or.inl ⟨by rfl, ?_⟩) hHeld ?_ ?_
              · rintro w' ⟨s0, s1⟩
                go_simp
                try (with_reducible rfl)
              rotate_left
              · simp only [Act.put, List.setIfInBounds_toArray, List.set_cons_zero, List.set_cons_succ, i64_w, i32_w]
                rfl
              refine pure_ (i := 1) (N := some 24) (v := .int .i64 rn) (a' := ?_) #[true, true, false, false, false, false, false, false, false, false, false, false, false] rfl rfl (by kernel_rfl) (fun _ _ _ h => h) (Or.inl ⟨by rfl, ?_⟩) ?_ ?_
              · intro w'
                go_simp
                try (with_reducible rfl)
              rotate_left
              · simp only [Act.put, List.setIfInBounds_toArray, List.set_cons_zero, List.set_cons_succ, i64_w, i32_w]
                rfl
              refine pure_ (i := 2) (N := some 25) (v := .bool false) (a' := ?_) #[true, true, true, false, false, false, false, false, false, false, false, false, false] rfl rfl (by kernel_rfl) (fun _ _ _ h => h) (Or.inl ⟨by rfl, ?_⟩) ?_ ?_
              · intro w'
                go_simp
                try (with_reducible rfl)
              rotate_left
              · simp only [Act.put, List.setIfInBounds_toArray, List.set_cons_zero, List.set_cons_succ, i64_w, i32_w]
                rfl
              refine pure_ (i := 3) (N := some 26) (v := .bool false) (a' := ?_) #[true, true, true, true, false, false, false, false, false, false, false, false, false] rfl rfl (by kernel_rfl) (fun _ _ _ h => h) (Or.inl ⟨by rfl, ?_⟩) ?_ ?_
              · intro w'
                go_simp
                try (with_reducible rfl)
              rotate_left
              · simp only [Act.put, List.setIfInBounds_toArray, List.set_cons_zero, List.set_cons_succ, i64_w, i32_w]
                rfl
              refine take_ (i := 4) (N := some 27) (v := .slice (some ad2) rn c2) (a' := ?_) #[true, true, true, true, true, false, false, false, false, false, false, false, false] rfl rfl (by kernel_rfl) (fun _ _ _ h => h) (Or.inl ⟨by rfl, ?_⟩) hHeld ?_ ?_
              · rintro w' ⟨s0, s1⟩
                go_simp
                try (with_reducible rfl)
              rotate_left
              · simp only [Act.put, List.setIfInBounds_toArray, List.set_cons_zero, List.set_cons_succ, i64_w, i32_w]
                rfl
              refine pure_ (i := 5) (N := some 28) (v := .pointer (some ad2)) (a' := ?_) #[true, true, true, true, true, true, false, false, false, false, false, false, false] rfl rfl (by kernel_rfl) (fun _ _ _ h => h) (Or.inl ⟨by rfl, ?_⟩) ?_ ?_
              · intro w'
                go_simp
                try (with_reducible rfl)
              rotate_left
              · simp only [Act.put, List.setIfInBounds_toArray, List.set_cons_zero, List.set_cons_succ, i64_w, i32_w]
                rfl
              refine take_ (i := 6) (N := some 29) (v := .int .u8 (mm : Int)) (a' := ?_) #[true, true, true, true, true, true, true, false, false, false, false, false, false] rfl rfl (by kernel_rfl) (fun _ _ _ h => h) (Or.inl ⟨by rfl, ?_⟩) hHeld ?_ ?_
              · rintro w' ⟨s0, s1⟩
                go_simp
                try (with_reducible rfl)
              rotate_left
              · simp only [Act.put, List.setIfInBounds_toArray, List.set_cons_zero, List.set_cons_succ, i64_w, i32_w]
                rfl
              refine pure_ (i := 7) (N := some 30) (v := .int .i64 (mm : Int)) (a' := ?_) #[true, true, true, true, true, true, true, true, false, false, false, false, false] rfl rfl (by kernel_rfl) (fun _ _ _ h => h) (Or.inl ⟨by rfl, ?_⟩) ?_ ?_
              · intro w'
                go_simp
                try (with_reducible rfl)
              rotate_left
              · simp only [Act.put, List.setIfInBounds_toArray, List.set_cons_zero, List.set_cons_succ, i64_w, i32_w]
                rfl
              refine take_ (i := 8) (N := some 31) (v := .slice (some ad2) rn c2) (a' := ?_) #[true, true, true, true, true, true, true, true, true, false, false, false, false] rfl rfl (by kernel_rfl) (fun _ _ _ h => h) (Or.inl ⟨by rfl, ?_⟩) hHeld ?_ ?_
              · rintro w' ⟨s0, s1⟩
                go_simp
                try (with_reducible rfl)
              rotate_left
              · simp only [Act.put, List.setIfInBounds_toArray, List.set_cons_zero, List.set_cons_succ, i64_w, i32_w]
                rfl
              refine pure_ (i := 9) (N := some 32) (v := .int .i64 rn) (a' := ?_) #[true, true, true, true, true, true, true, true, true, true, false, false, false] rfl rfl (by kernel_rfl) (fun _ _ _ h => h) (Or.inl ⟨by rfl, ?_⟩) ?_ ?_
              · intro w'
                go_simp
                try (with_reducible rfl)
              rotate_left
              · simp only [Act.put, List.setIfInBounds_toArray, List.set_cons_zero, List.set_cons_succ, i64_w, i32_w]
                rfl
              refine pure_ (i := 10) (N := some 33) (v := .int .i64 (s.length : Int)) (a' := ?_) #[true, true, true, true, true, true, true, true, true, true, true, false, false] rfl rfl (by kernel_rfl) (fun _ _ _ h => h) (Or.inl ⟨by rfl, ?_⟩) ?_ ?_
              · intro w'
                go_simp
                try (with_reducible rfl)
              rotate_left
              · simp only [Act.put, List.setIfInBounds_toArray, List.set_cons_zero, List.set_cons_succ, i64_w, i32_w]
                rfl
              refine pure_ (i := 11) (N := some 34) (v := .bool true) (a' := ?_) #[true, true, true, true, true, true, true, true, true, true, true, true, false] rfl rfl (by kernel_rfl) (fun _ _ _ h => h) (Or.inl ⟨by rfl, ?_⟩) ?_ ?_
              · intro w'
                go_simp
                try (with_reducible rfl)
              rotate_left
              · simp only [Act.put, List.setIfInBounds_toArray, List.set_cons_zero, List.set_cons_succ, i64_w, i32_w]
                rfl
              refine pure_ (i := 12) (N := some 35) (v := .bool true) (a' := ?_) #[true, true, true, true, true, true, true, true, true, true, true, true, true] rfl rfl (by kernel_rfl) (fun _ _ _ h => h) (Or.inl ⟨by rfl, ?_⟩) ?_ ?_
              · intro w'
                go_simp
                try (with_reducible rfl)
              rotate_left
              · simp only [Act.put, List.setIfInBounds_toArray, List.set_cons_zero, List.set_cons_succ, i64_w, i32_w]
                rfl
              refine done_ (by kernel_rfl) ?_
              go_upto_region 11 with fail
              refine (wpIn_wide (n := n + 1)).1 ?_
              obtain ⟨fn, tmps, assign, body, hy, hR⟩ := HY3.out _ _ (HJG.out _ _ _ HJ2.out (below_drew (Below.refl _ _))) HR.out
              gi_wp2_with fail
              refine hR.mono ?_
              rintro e W3 ⟨⟨q, rfl⟩, hE⟩
              gi_wp2_with fail
              go_end0
              exact ⟨⟨_, rfl⟩, hE⟩
end Go.Proofs.YtcefkkcmpdlnjaaDoor
