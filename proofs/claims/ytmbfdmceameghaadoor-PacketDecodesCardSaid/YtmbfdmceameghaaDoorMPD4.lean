/-
  option.parts: the options of bytes, handed on one by one. Condition: bytes, fewer than 2^40.
  bytes.Trim by the byte 0: nothing is left just where all bytes are 0. Condition: fewer than 2^47 bytes.
  option.Decode in the print's form. Condition: bytes, fewer than 2^40.
  Printed: PrF17.
  Options and bytes, over lists: option.Encode, option.Decode and the reference's Decode. No condition of their own.
  lessorref03.Same of two packets that are the same. Condition: no more than a million options.
-/
import Derived.Lib.Hide
import Derived.Deep.Slices
import Derived.Deep.QuietTactic
import Derived.Test.YtmbfdmceameghaaDoorMPD3
import Derived.Test.YtmbfdmceameghaaDoorMPD2

section
namespace Go.Proofs.YtmbfdmceameghaaDoor
open Go.RowKit Go.Proofs.YtmbfdmceameghaaDoor.Pr Go.Proofs.YtmbfdmceameghaaDoorW.PrintWords Go.Proofs.YtmbfdmceameghaaDoorW.PrintLast Go.Proofs.YtmbfdmceameghaaDoorW.PrintMore
attribute [local go_sem] max2_int min2_int max_two min_two max_three min_three max_four min_four
set_option linter.unusedVariables false
set_option linter.unusedSimpArgs false

abbrev OptP := S39
/-! ### what is handed on -/
def pGo (l : List Int) (pre : List OptP) : List OptP × Option (List Int) :=
  match l with
  | [] => (pre, none)
  | x :: r => if x = 0 then pGo r pre else if x = 255 then (pre, some r) else
    match r with
    | [] => (pre, none)
    | n :: s => if n.toNat ≤ s.length then pGo (s.drop n.toNat) (pre ++ [⟨x, s.take n.toNat⟩]) else (pre, none)
termination_by l.length
decreasing_by
  · simp
  · simp only [List.length_cons, List.length_drop]; omega
theorem pGo_nil {pre : List OptP} : pGo [] pre = (pre, none) := by rw [pGo.eq_def]
theorem pGo_zero {r : List Int} {pre : List OptP} : pGo (0 :: r) pre = pGo r pre := by rw [pGo.eq_def]; dsimp only; rw [if_pos rfl]
theorem pGo_end {r : List Int} {pre : List OptP} : pGo (255 :: r) pre = (pre, some r) := by rw [pGo.eq_def]; dsimp only; rw [if_neg (by decide), if_pos rfl]
theorem pGo_lone {x : Int} {pre : List OptP} (h0 : x ≠ 0) (h1 : x ≠ 255) : pGo [x] pre = (pre, none) := by rw [pGo.eq_def]; dsimp only; rw [if_neg h0, if_neg h1]
theorem pGo_step {x n : Int} {s : List Int} {pre : List OptP} (h0 : x ≠ 0) (h1 : x ≠ 255) (h : n.toNat ≤ s.length) : pGo (x :: n :: s) pre = pGo (s.drop n.toNat) (pre ++ [⟨x, s.take n.toNat⟩]) := by
  rw [pGo.eq_def]; dsimp only; rw [if_neg h0, if_neg h1, if_pos h]
theorem pGo_stop {x n : Int} {s : List Int} {pre : List OptP} (h0 : x ≠ 0) (h1 : x ≠ 255) (h : ¬ n.toNat ≤ s.length) : pGo (x :: n :: s) pre = (pre, none) := by
  rw [pGo.eq_def]; dsimp only; rw [if_neg h0, if_neg h1, if_neg h]

/-- All but one block is as it was. -/
structure OneBut (w W : World) (q : Nat) : Prop where
  os : W.os = w.os
  tape : W.tape = w.tape
  output : W.output = w.output
  size : w.heap.size ≤ W.heap.size
  block : ∀ k, k < w.heap.size → k ≠ q → W.heap[k]? = w.heap[k]?
theorem OneBut.of_below {w W : World} (h : Below w.heap.size w W) (q : Nat) : OneBut w W q := ⟨h.os, h.tape, h.output, h.size, fun k hk _ => h.block k hk⟩
theorem OneBut.set {w W : World} {q : Nat} (h : OneBut w W q) (u : Value) : OneBut w (W.setCell ⟨q, 0, none⟩ u) q := by
  have hb : Below q W (W.setCell ⟨q, 0, none⟩ u) := (Below.refl q W).setCell (p := ⟨q, 0, none⟩) (Nat.le_refl _) u
  exact ⟨hb.os.trans h.os, hb.tape.trans h.tape, hb.output.trans h.output, Nat.le_trans h.size hb.size, fun k hk hn => (Below.heap_setCell W ⟨q, 0, none⟩ u k hn).trans (h.block k hk hn)⟩
theorem boxed_blw {W W' : World} {B : Nat} {t : TypeId} {v : Value} (h : Boxed W B t v) (hb : Below W.heap.size W W') : Boxed W' B t v := (hb.block B h.lt).trans h
theorem mid_kp {α : Type} {P : Program} (k : Kd α) (t e : TypeId) {i : TypeInfo} (ht : P.underlying t = some (.slice e)) (hi : P.info? e = some i) (hsz : i.size = k.sz) (A : Option Addr) (c : Nat) (xs : List α) (a b : Int) (h0 : 0 ≤ a) (h1 : a ≤ b) (hm : b ≤ xs.length) (hc : xs.length ≤ c) (w : World) (h : k.C w A xs.length xs) :
    ∃ (A' : Option Addr) (c' : Nat) (ys : List α), Hid (ys = (xs.take b.toNat).drop a.toNat) ∧ (∀ W : World, (Instr.slice t (.slice A xs.length c) (some (.int .i64 a)) (some (.int .i64 b)) none).run P W = .ok (.slice A' ys.length c') W) ∧ k.C w A' ys.length ys ∧ ys.length ≤ c' := by
  have hl : ((xs.take b.toNat).drop a.toNat).length = b.toNat - a.toNat := by rw [List.length_drop, List.length_take]; omega
  refine ⟨_, c - a.toNat, _, rfl, ?_, Kd.C_mid h (lo := a.toNat) (hi := b.toNat) (by omega) (by omega) hc, by rw [hl]; omega⟩
  intro W
  rw [hl]
  exact cut_mid t e .i64 .i64 ht hi k.sz hsz A xs.length c a b h0 h1 hm hc W

set_option maxHeartbeats 4000000 in
set_option maxRecDepth 100000 in
theorem parts1_calls (b : List Int) (w0 : World) (hbytes : ∀ x ∈ b, 0 ≤ x ∧ x ≤ 255) (hlen : b.length < 1099511627776) (n l Bn : Nat) (J : List OptP → World → Prop) (End : World → Prop) (hBn : w0.heap.size ≤ Bn)
    (hJb : ∀ pre W, J pre W → Below w0.heap.size w0 W)
    (hJg : ∀ pre W W', J pre W → Below W.heap.size W W' → J pre W')
    (hJs : ∀ pre W v u, J pre W → Boxed W Bn 22 v → J pre (W.setCell ⟨Bn, 0, none⟩ u))
    (hY1 : ∀ pre W0 W x d Ad cd As ns cs bv, J pre W0 → (∃ bv0, Boxed W0 Bn 22 bv0) → OneBut W0 W Bn → pre.length < b.length → d.length ≤ b.length → Kd.R (Kd.int .u8) 5 W W0.heap.size (fun _ => True) (.slice Ad d.length cd) d → x ≠ 0 → x ≠ 255 → Boxed W Bn 22 bv →
      YieldAt Fence.wide n Tryd.prog l #[.agg #[.int .i64 x, .slice Ad d.length cd], .slice As ns cs] W fun e W' => e = .returned (.bool true) ∧ J (pre ++ [⟨x, d⟩]) W' ∧ Boxed W' Bn 22 bv)
    (hY2 : ∀ pre W r As cs, J pre W → (Kd.int .u8).C w0 As r.length r → r.length ≤ cs → pGo b [] = (pre, some r) →
      YieldAt Fence.wide n Tryd.prog l #[.agg #[.int .i64 255, .slice none 0 0], .slice As r.length cs] W fun e W' => (∃ q, e = .returned (.bool q)) ∧ End W')
    (hY3 : ∀ pre W, J pre W → pGo b [] = (pre, none) →
      YieldAt Fence.wide n Tryd.prog l #[.agg #[.int .i64 0, .slice none 0 0], .slice none 0 0] W fun e W' => (∃ q, e = .returned (.bool q)) ∧ End W')
    (W : World) (h0 : J [] W) (A0 : Option Addr) (c : Nat) (hC : (Kd.int .u8).C w0 A0 b.length b) (hc : b.length ≤ c) (hBx : Boxed W Bn 22 (.slice A0 b.length c)) :
    Calls Tryd.prog 49 #[.func (.yield l) #[] #[], .pointer (some ⟨Bn, 0, none⟩)] W fun e W' => (∃ v, e = .returned v) ∧ End W' := by
  have HC := Lib.hid hC
  have HBY := Lib.hid hbytes
  have HY1 := Lib.hid hY1
  have HY2 := Lib.hid hY2
  have HY3 := Lib.hid hY3
  have HJB := Lib.hid hJb
  have HJG := Lib.hid hJg
  have HJS := Lib.hid hJs
  have HJ0 := Lib.hid h0
  have HBX0 := Lib.hid hBx
  clear hC hbytes hY1 hY2 hY3 hJb hJg hJs h0 hBx
  go_enter Tryd.func49, Tryd.ntmps49
  go_wp2_with fail
  go_loopg [] (b.length) (fun kq wr => ∃ (l' : List Int) (A' : Option Addr) (c' : Nat) (pre : List OptP), Hid (l'.length = kq) ∧ Hid (l'.length ≤ c') ∧ Hid (l'.length + pre.length ≤ b.length) ∧ Hid (∀ x ∈ l', 0 ≤ x ∧ x ≤ 255) ∧ Hid ((Kd.int .u8).C w0 A' l'.length l') ∧
      Hid (Boxed wr Bn 22 (.slice A' l'.length c')) ∧ Hid (J pre wr) ∧ Hid (pGo l' pre = pGo b []))
  case atStart => exact ⟨b, A0, c, [], rfl, hc, Lib.hid (by simp), HBY, HC, HBX0, HJ0, rfl⟩
  case round =>
    obtain ⟨l', A', c', pre, HK, HCL, HLP, HBY', HC', HBX, HJ, HP⟩ := hrel
    clear HC HBX0 HJ0
    have y1 := HBX.out.cell
    have z1 := HBX.out.frozen
    cases l' with
    | nil =>
      have HR := Lib.hid (HP.out.symm.trans pGo_nil)
      go_upto_region 11 with fail
      refine (wpIn_wide (n := n + 1)).1 ?_
      obtain ⟨fn, tmps, assign, body, hy, hR⟩ := HY3.out _ _ HJ.out HR.out
      gi_wp2_with fail
      refine hR.mono ?_
      rintro e W3 ⟨⟨q, rfl⟩, hE⟩
      gi_wp2_with fail
      go_end0
      exact ⟨⟨_, rfl⟩, hE⟩
    | cons x r =>
      have hx := HBY'.out x (by simp)
      obtain ⟨ad, rfl, x0⟩ := Kd.at_int HC'.out 0 (by omega) (by simp only [List.length_cons]; omega)
      have x0w : w0.cell? ad = some (.int .u8 x) := x0
      have HX0 := Lib.hid x0w
      have x0' := ((HJB.out _ _ HJ.out).cell (World.block_lt_of_cell? w0 _ x0w)).trans x0w
      have C2 := Kd.C_drop (c := c') (m := 1) HC'.out (by simp) HCL.out
      rw [show (Kd.int .u8).sz = 1 from rfl, Nat.mul_one] at C2
      change (Kd.int .u8).C w0 _ r.length r at C2
      obtain ⟨i0, hinf, hzz⟩ := Option.map_eq_some_iff.1 cl_info
      simp only [Prod.mk.injEq] at hzz
      obtain ⟨nn, hnn⟩ : ∃ nn, nn = (x :: r).length := ⟨_, rfl⟩
      have hn2 : nn = r.length + 1 := hnn
      have hcl := HCL.out
      have hlp := HLP.out
      have hk := HK.out
      rw [← hnn] at hcl hlp hk y1
      have r1 := cut_from (P := Tryd.prog) 22 5 .i64 Tryd.underlying22 hinf 1 hzz.2.1 (some ad) nn c' 1 (by omega) (by omega)
      rw [show (1 : Int).toNat = 1 from rfl, Nat.mul_one, show nn - 1 = r.length from by omega] at r1
      obtain ⟨A2, hA2⟩ : ∃ A2, A2 = (if c' = 1 then some ad else (some ad).map (·.add 1)) := ⟨_, rfl⟩
      obtain ⟨c2, hc2⟩ : ∃ c2, c2 = c' - 1 := ⟨_, rfl⟩
      rw [← hA2] at C2
      rw [← hA2, ← hc2] at r1
      have HC2 := Lib.hid C2
      have HL2 : Hid (r.length ≤ c2) := by show _ ≤ _; omega
      have HGK : Hid (r.length + 1 = gk) := by show _ = _; omega
      have HLP2 : Hid (r.length + 1 + pre.length ≤ b.length) := by show _ ≤ _; omega
      have p0 : ((nn : Int) > 0) = True := eq_true (by omega)
      have p1 : (0 < nn) = True := eq_true (by omega)
      have e6 : IntKind.i64.wrap x = x := IntWalk.i64_in _ (by omega)
      have HBY2 : Hid (∀ y ∈ r, 0 ≤ y ∧ y ≤ 255) := fun y hy => HBY'.out y (List.mem_cons_of_mem _ hy)
      have HBX2 : Hid (Boxed (wr.setCell ⟨Bn, 0, none⟩ (.slice A2 r.length c2)) Bn 22 (.slice A2 r.length c2)) := HBX.out.set _
      have HJ2 := Lib.hid (HJS.out _ _ _ (.slice A2 r.length c2) HJ.out HBX.out)
      have HINF : Hid (Tryd.prog.info? 5 = some i0) := hinf
      have HONE : Hid (i0.size = 1) := hzz.2.1
      clear x0 x0w C2 hA2 hc2 hnn hn2 hcl hlp hk HC' HK HCL HLP HBY' hinf hzz HBX HJ
      by_cases hz0 : x = 0
      · subst hz0
        have HP2 := Lib.hid (pGo_zero.symm.trans HP.out)
        go_wp2_with fail
        go_roundg (r.length)
        case measure => have := HGK.out; omega
        case rel => exact ⟨r, A2, c2, pre, rfl, HL2, Lib.hid (by have := HLP2.out; omega), HBY2, HC2, HBX2, HJ2, HP2⟩
      · have q0 : (x == 0) = false := beq_eq_false_iff_ne.2 hz0
        have HZ0 := Lib.hid hz0
        clear hz0
        by_cases hz1 : x = 255
        · subst hz1
          have HR := Lib.hid (HP.out.symm.trans pGo_end)
          go_upto_region 5 with fail
          have y2 := HBX2.out.cell
          refine (wpIn_wide (n := n + 1)).1 ?_
          obtain ⟨fn, tmps, assign, body, hy, hR⟩ := HY2.out _ _ _ _ _ HJ2.out HC2.out HL2.out HR.out
          gi_wp2_with fail
          refine hR.mono ?_
          rintro e W3 ⟨⟨q, rfl⟩, hE⟩
          gi_wp2_with fail
          go_wp2_with fail
          refine bodyPost_ret (results_none rfl _ _ _) rfl ⟨⟨_, rfl⟩, hE⟩
        · have q1 : (x == 255) = false := beq_eq_false_iff_ne.2 hz1
          have HZ1 := Lib.hid hz1
          clear hz1
          obtain ⟨rn, hrn⟩ : ∃ rn, rn = r.length := ⟨_, rfl⟩
          obtain ⟨w2, hw2⟩ : ∃ W, wr.setCell ⟨Bn, 0, none⟩ (.slice A2 r.length c2) = W := ⟨_, rfl⟩
          rw [hw2] at HBX2 HJ2
          rw [← hrn] at r1 HBX2 hw2
          have HRN := Lib.hid hrn
          cases r with
          | nil =>
            have HR := Lib.hid (HP.out.symm.trans (pGo_lone HZ0.out HZ1.out))
            obtain rfl : rn = 0 := hrn
            go_wp2_with fail
            try rw [hw2]
            have y2 := HBX2.out.cell
            clear y1 z1 x0' hw2
            refine start_ (n := 13) (S := fun w' => w'.cell? ⟨Bn, 0, none⟩ = some (.slice A2 0 c2)) (ds := []) #[false, false, false, false, false, false, false, false, false, false, false, false, false] (by kernel_rfl) rfl rfl y2 (fun hHeld => ?_)
            refine take_ (i := 0) (N := some 23) (v := .slice A2 0 c2) (a' := ?_) #[true, false, false, false, false, false, false, false, false, false, false, false, false] rfl rfl (by kernel_rfl) (fun _ _ _ h => h) (Or.inl ⟨by rfl, ?_⟩) hHeld ?_ ?_
            · rintro w' s0
              go_simp
              try (with_reducible rfl)
            rotate_left
            · simp only [Act.put, List.setIfInBounds_toArray, List.set_cons_zero, List.set_cons_succ, i64_w, i32_w]
              rfl
            refine pure_ (i := 1) (N := some 24) (v := .int .i64 0) (a' := ?_) #[true, true, false, false, false, false, false, false, false, false, false, false, false] rfl rfl (by kernel_rfl) (fun _ _ _ h => h) (Or.inl ⟨by rfl, ?_⟩) ?_ ?_
            · intro w'
              go_simp
              try (with_reducible rfl)
            rotate_left
            · simp only [Act.put, List.setIfInBounds_toArray, List.set_cons_zero, List.set_cons_succ, i64_w, i32_w]
              rfl
            refine pure_ (i := 2) (N := some 25) (v := .bool true) (a' := ?_) #[true, true, true, false, false, false, false, false, false, false, false, false, false] rfl rfl (by kernel_rfl) (fun _ _ _ h => h) (Or.inl ⟨by rfl, ?_⟩) ?_ ?_
            · intro w'
              go_simp
              try (with_reducible rfl)
            rotate_left
            · simp only [Act.put, List.setIfInBounds_toArray, List.set_cons_zero, List.set_cons_succ, i64_w, i32_w]
              rfl
            refine pure_ (i := 3) (N := some 26) (v := .bool true) (a' := ?_) #[true, true, true, true, false, false, false, false, false, false, false, false, false] rfl rfl (by kernel_rfl) (fun _ _ _ h => h) (Or.inl ⟨by rfl, ?_⟩) ?_ ?_
            · intro w'
              go_simp
              try (with_reducible rfl)
            rotate_left
            · simp only [Act.put, List.setIfInBounds_toArray, List.set_cons_zero, List.set_cons_succ, i64_w, i32_w]
              rfl
            refine pure_ (i := 4) (N := some 27) (v := undef) (a' := ?_) #[true, true, true, true, true, false, false, false, false, false, false, false, false] rfl rfl (by kernel_rfl) (fun _ _ _ h => h) (Or.inr ⟨by rfl, rfl⟩) ?_ ?_
            rotate_left
            · simp only [Act.put, List.setIfInBounds_toArray, List.set_cons_zero, List.set_cons_succ, i64_w, i32_w]
              rfl
            refine pure_ (i := 5) (N := some 28) (v := undef) (a' := ?_) #[true, true, true, true, true, true, false, false, false, false, false, false, false] rfl rfl (by kernel_rfl) (fun _ _ _ h => h) (Or.inr ⟨by rfl, rfl⟩) ?_ ?_
            rotate_left
            · simp only [Act.put, List.setIfInBounds_toArray, List.set_cons_zero, List.set_cons_succ, i64_w, i32_w]
              rfl
            refine pure_ (i := 6) (N := some 29) (v := undef) (a' := ?_) #[true, true, true, true, true, true, true, false, false, false, false, false, false] rfl rfl (by kernel_rfl) (fun _ _ _ h => h) (Or.inr ⟨by rfl, rfl⟩) ?_ ?_
            rotate_left
            · simp only [Act.put, List.setIfInBounds_toArray, List.set_cons_zero, List.set_cons_succ, i64_w, i32_w]
              rfl
            refine pure_ (i := 7) (N := some 30) (v := undef) (a' := ?_) #[true, true, true, true, true, true, true, true, false, false, false, false, false] rfl rfl (by kernel_rfl) (fun _ _ _ h => h) (Or.inr ⟨by rfl, rfl⟩) ?_ ?_
            rotate_left
            · simp only [Act.put, List.setIfInBounds_toArray, List.set_cons_zero, List.set_cons_succ, i64_w, i32_w]
              rfl
            refine pure_ (i := 8) (N := some 31) (v := undef) (a' := ?_) #[true, true, true, true, true, true, true, true, true, false, false, false, false] rfl rfl (by kernel_rfl) (fun _ _ _ h => h) (Or.inr ⟨by rfl, rfl⟩) ?_ ?_
            rotate_left
            · simp only [Act.put, List.setIfInBounds_toArray, List.set_cons_zero, List.set_cons_succ, i64_w, i32_w]
              rfl
            refine pure_ (i := 9) (N := some 32) (v := undef) (a' := ?_) #[true, true, true, true, true, true, true, true, true, true, false, false, false] rfl rfl (by kernel_rfl) (fun _ _ _ h => h) (Or.inr ⟨by rfl, rfl⟩) ?_ ?_
            rotate_left
            · simp only [Act.put, List.setIfInBounds_toArray, List.set_cons_zero, List.set_cons_succ, i64_w, i32_w]
              rfl
            refine pure_ (i := 10) (N := some 33) (v := undef) (a' := ?_) #[true, true, true, true, true, true, true, true, true, true, true, false, false] rfl rfl (by kernel_rfl) (fun _ _ _ h => h) (Or.inr ⟨by rfl, rfl⟩) ?_ ?_
            rotate_left
            · simp only [Act.put, List.setIfInBounds_toArray, List.set_cons_zero, List.set_cons_succ, i64_w, i32_w]
              rfl
            refine pure_ (i := 11) (N := some 34) (v := undef) (a' := ?_) #[true, true, true, true, true, true, true, true, true, true, true, true, false] rfl rfl (by kernel_rfl) (fun _ _ _ h => h) (Or.inr ⟨by rfl, rfl⟩) ?_ ?_
            rotate_left
            · simp only [Act.put, List.setIfInBounds_toArray, List.set_cons_zero, List.set_cons_succ, i64_w, i32_w]
              rfl
            refine pure_ (i := 12) (N := some 35) (v := .bool true) (a' := ?_) #[true, true, true, true, true, true, true, true, true, true, true, true, true] rfl rfl (by kernel_rfl) (fun _ _ _ h => h) (Or.inl ⟨by rfl, ?_⟩) ?_ ?_
            · intro w'
              go_simp
              try (with_reducible rfl)
            rotate_left
            · simp only [Act.put, List.setIfInBounds_toArray, List.set_cons_zero, List.set_cons_succ, i64_w, i32_w]
              rfl
            refine done_ (by kernel_rfl) ?_
            go_upto_region 11 with fail
            refine (wpIn_wide (n := n + 1)).1 ?_
            obtain ⟨fn, tmps, assign, body, hy, hR⟩ := HY3.out _ _ (HJG.out _ _ _ HJ2.out (below_drew (Below.refl _ _))) HR.out
            gi_wp2_with fail
            refine hR.mono ?_
            rintro e W3 ⟨⟨q, rfl⟩, hE⟩
            gi_wp2_with fail
            go_end0
            exact ⟨⟨_, rfl⟩, hE⟩
          | cons m s =>
            obtain ⟨mm, rfl⟩ : ∃ mm : Nat, m = mm := Int.eq_ofNat_of_zero_le (HBY2.out m (by simp)).1
            have hm255 : (mm : Int) ≤ 255 := (HBY2.out mm (by simp)).2
            obtain ⟨ad2, rfl, xm⟩ := Kd.at_int HC2.out 0 (by omega) (by simp only [List.length_cons]; omega)
            have xm0 : w0.cell? ad2 = some (.int .u8 (mm : Int)) := xm
            have HXM := Lib.hid xm0
            have hrs : rn = s.length + 1 := hrn
            have hlb := HLP2.out
            have hl2 := HL2.out
            rw [← hrn] at hlb hl2
            have e7 : IntKind.i64.wrap (mm : Int) = (mm : Int) := IntWalk.i64_in _ (by omega)
            have e8 : IntKind.i64.wrap ((rn : Int) - 1) = (s.length : Int) := by rw [IntWalk.i64_in _ (by omega)]; omega
            have q2 : ((rn : Int) == 0) = false := beq_eq_false_iff_ne.2 (by omega)
            have q3 : (rn == 0) = false := beq_eq_false_iff_ne.2 (by omega)
            have q4 : (rn = 0) = False := eq_false (by omega)
            have p2 : ((0 : Int) < (rn : Int)) = True := eq_true (by omega)
            have p3 : (0 < rn) = True := eq_true (by omega)
            have HRS := Lib.hid hrs
            have HLB := Lib.hid hlb
            clear xm xm0 hrs hrn
            by_cases hms : mm ≤ s.length
            · have HP2 := Lib.hid ((pGo_step HZ0.out HZ1.out (by rw [Int.toNat_natCast]; exact hms)).symm.trans HP.out)
              obtain ⟨m1, hm1⟩ : ∃ m1 : Int, (mm : Int) + 1 = m1 := ⟨_, rfl⟩
              have g1 : ((mm : Int) > (s.length : Int)) = False := eq_false (by omega)
              have g2 : (s.length < mm) = False := eq_false (by omega)
              have e9 : IntKind.i64.wrap ((mm : Int) + 1) = m1 := by rw [IntWalk.i64_in _ (by omega)]; exact hm1
              have hrs := HRS.out
              have hrl : ((mm : Int) :: s).length = rn := HRS.out.symm
              have hC2 := HC2.out
              obtain ⟨A4, c4, ys, HYS, hrun, hC4, hcl4⟩ := mid_kp (P := Tryd.prog) (Kd.int .u8) 22 5 Tryd.underlying22 HINF.out HONE.out (some ad2) c2 ((mm : Int) :: s) 1 m1 (by omega) (by omega) (by rw [hrl]; omega) (by rw [hrl]; exact hl2) w0 hC2
              rw [hrl] at hrun
              have HYE : Hid (ys = s.take mm) := by
                show _ = _
                rw [HYS.out, ← hm1, show ((mm : Int) + 1).toNat = mm + 1 from by omega]
                rfl
              have hyl : ys.length = mm := by rw [HYE.out, List.length_take]; omega
              have HCC := Lib.hid (fun W9 (hW9 : Below w0.heap.size w0 W9) => clone_calls A4 c4 ys W9 (Kd.C_below hC4 hW9) hcl4 (by omega))
              have r3 := cut_from (P := Tryd.prog) 22 5 .i64 Tryd.underlying22 HINF.out 1 HONE.out (some ad2) rn c2 m1 (by omega) (by omega)
              have C5 := Kd.C_drop (c := c2) (m := mm + 1) hC2 (by rw [hrl]; omega) (by rw [hrl]; exact hl2)
              rw [show (Kd.int .u8).sz = 1 from rfl, Nat.mul_one] at C5
              change (Kd.int .u8).C w0 _ (s.drop mm).length (s.drop mm) at C5
              obtain ⟨s5, hs5⟩ : ∃ s5, s5 = s.drop mm := ⟨_, rfl⟩
              have hs5l : s5.length = s.length - mm := by rw [hs5, List.length_drop]
              rw [← hs5] at C5
              rw [show m1.toNat = mm + 1 from by omega, Nat.mul_one, show rn - (mm + 1) = s5.length from by omega] at r3
              obtain ⟨A5, hA5⟩ : ∃ A5, A5 = (if c2 = mm + 1 then some ad2 else (some ad2).map (·.add (mm + 1))) := ⟨_, rfl⟩
              obtain ⟨c5, hc5⟩ : ∃ c5, c5 = c2 - (mm + 1) := ⟨_, rfl⟩
              rw [← hA5, ← hc5] at r3
              rw [← hA5] at C5
              have HC5 := Lib.hid C5
              have HL5 : Hid (s5.length ≤ c5) := by show _ ≤ _; omega
              have HLP5 : Hid (s5.length + (pre.length + 1) ≤ b.length) := by show _ ≤ _; omega
              have HPL : Hid (pre.length < b.length) := by show _ < _; omega
              have HYL : Hid (ys.length ≤ b.length) := by show _ ≤ _; omega
              have HS5 := Lib.hid hs5
              have HM5 : Hid (s5.length < gk) := by have h1 := HGK.out; have h2 := HRS.out; show _ < _; simp only [List.length_cons] at h1; omega
              clear hA5 hc5 hs5 hs5l C5 hC4 hcl4 hyl hC2 hrl hm1 hrs
              go_wp2_with fail
              try rw [hw2]
              have y2 := HBX2.out.cell
              have y3 := ((HJB.out _ _ HJ2.out).cell (World.block_lt_of_cell? w0 _ HXM.out)).trans HXM.out
              clear y1 z1 x0' hw2 hlb
              refine start_ (n := 13) (S := fun w' => w'.cell? ⟨Bn, 0, none⟩ = some (.slice (some ad2) rn c2) ∧ w'.cell? ad2 = some (.int .u8 (mm : Int))) (ds := []) #[false, false, false, false, false, false, false, false, false, false, false, false, false] (by kernel_rfl) rfl rfl ⟨y2, y3⟩ (fun hHeld => ?_)
              refine take_ (i := 0) (N := some 23) (v := .slice (some ad2) rn c2) (a' := ?_) #[true, false, false, false, false, false, false, false, false, false, false, false, false] rfl rfl (by kernel_rfl) (fun _ _ _ h => h) (Or.inl ⟨by rfl, ?_⟩) hHeld ?_ ?_
              · rintro w' ⟨s0, s1⟩
                go_simp
                try (with_reducible rfl)
              rotate_left
              · simp only [Act.put, List.setIfInBounds_toArray, List.set_cons_zero, List.set_cons_succ, i64_w, i32_w]
                rfl
              refine pure_ (i := 1) (N := some 24) (v := .int .i64 rn) (a' := ?_) #[true, true, false, false, false, false, false, false, false, false, false, false, false] rfl rfl (by kernel_rfl) (fun _ _ _ h => h) (Or.inl ⟨by rfl, ?_⟩) ?_ ?_
              · intro w'
                go_simp
                try (with_reducible rfl)
              rotate_left
              · simp only [Act.put, List.setIfInBounds_toArray, List.set_cons_zero, List.set_cons_succ, i64_w, i32_w]
                rfl
              refine pure_ (i := 2) (N := some 25) (v := .bool false) (a' := ?_) #[true, true, true, false, false, false, false, false, false, false, false, false, false] rfl rfl (by kernel_rfl) (fun _ _ _ h => h) (Or.inl ⟨by rfl, ?_⟩) ?_ ?_
              · intro w'
                go_simp
                try (with_reducible rfl)
              rotate_left
              · simp only [Act.put, List.setIfInBounds_toArray, List.set_cons_zero, List.set_cons_succ, i64_w, i32_w]
                rfl
              refine pure_ (i := 3) (N := some 26) (v := .bool false) (a' := ?_) #[true, true, true, true, false, false, false, false, false, false, false, false, false] rfl rfl (by kernel_rfl) (fun _ _ _ h => h) (Or.inl ⟨by rfl, ?_⟩) ?_ ?_
              · intro w'
                go_simp
                try (with_reducible rfl)
              rotate_left
              · simp only [Act.put, List.setIfInBounds_toArray, List.set_cons_zero, List.set_cons_succ, i64_w, i32_w]
                rfl
              refine take_ (i := 4) (N := some 27) (v := .slice (some ad2) rn c2) (a' := ?_) #[true, true, true, true, true, false, false, false, false, false, false, false, false] rfl rfl (by kernel_rfl) (fun _ _ _ h => h) (Or.inl ⟨by rfl, ?_⟩) hHeld ?_ ?_
              · rintro w' ⟨s0, s1⟩
                go_simp
                try (with_reducible rfl)
              rotate_left
              · simp only [Act.put, List.setIfInBounds_toArray, List.set_cons_zero, List.set_cons_succ, i64_w, i32_w]
                rfl
              refine pure_ (i := 5) (N := some 28) (v := .pointer (some ad2)) (a' := ?_) #[true, true, true, true, true, true, false, false, false, false, false, false, false] rfl rfl (by kernel_rfl) (fun _ _ _ h => h) (Or.inl ⟨by rfl, ?_⟩) ?_ ?_
              · intro w'
                go_simp
                try (with_reducible rfl)
              rotate_left
              · simp only [Act.put, List.setIfInBounds_toArray, List.set_cons_zero, List.set_cons_succ, i64_w, i32_w]
                rfl
              refine take_ (i := 6) (N := some 29) (v := .int .u8 (mm : Int)) (a' := ?_) #[true, true, true, true, true, true, true, false, false, false, false, false, false] rfl rfl (by kernel_rfl) (fun _ _ _ h => h) (Or.inl ⟨by rfl, ?_⟩) hHeld ?_ ?_
              · rintro w' ⟨s0, s1⟩
                go_simp
                try (with_reducible rfl)
              rotate_left
              · simp only [Act.put, List.setIfInBounds_toArray, List.set_cons_zero, List.set_cons_succ, i64_w, i32_w]
                rfl
              refine pure_ (i := 7) (N := some 30) (v := .int .i64 (mm : Int)) (a' := ?_) #[true, true, true, true, true, true, true, true, false, false, false, false, false] rfl rfl (by kernel_rfl) (fun _ _ _ h => h) (Or.inl ⟨by rfl, ?_⟩) ?_ ?_
              · intro w'
                go_simp
                try (with_reducible rfl)
              rotate_left
              · simp only [Act.put, List.setIfInBounds_toArray, List.set_cons_zero, List.set_cons_succ, i64_w, i32_w]
                rfl
              refine take_ (i := 8) (N := some 31) (v := .slice (some ad2) rn c2) (a' := ?_) #[true, true, true, true, true, true, true, true, true, false, false, false, false] rfl rfl (by kernel_rfl) (fun _ _ _ h => h) (Or.inl ⟨by rfl, ?_⟩) hHeld ?_ ?_
              · rintro w' ⟨s0, s1⟩
                go_simp
                try (with_reducible rfl)
              rotate_left
              · simp only [Act.put, List.setIfInBounds_toArray, List.set_cons_zero, List.set_cons_succ, i64_w, i32_w]
                rfl
              refine pure_ (i := 9) (N := some 32) (v := .int .i64 rn) (a' := ?_) #[true, true, true, true, true, true, true, true, true, true, false, false, false] rfl rfl (by kernel_rfl) (fun _ _ _ h => h) (Or.inl ⟨by rfl, ?_⟩) ?_ ?_
              · intro w'
                go_simp
                try (with_reducible rfl)
              rotate_left
              · simp only [Act.put, List.setIfInBounds_toArray, List.set_cons_zero, List.set_cons_succ, i64_w, i32_w]
                rfl
              refine pure_ (i := 10) (N := some 33) (v := .int .i64 (s.length : Int)) (a' := ?_) #[true, true, true, true, true, true, true, true, true, true, true, false, false] rfl rfl (by kernel_rfl) (fun _ _ _ h => h) (Or.inl ⟨by rfl, ?_⟩) ?_ ?_
              · intro w'
                go_simp
                try (with_reducible rfl)
              rotate_left
              · simp only [Act.put, List.setIfInBounds_toArray, List.set_cons_zero, List.set_cons_succ, i64_w, i32_w]
                rfl
              refine pure_ (i := 11) (N := some 34) (v := .bool false) (a' := ?_) #[true, true, true, true, true, true, true, true, true, true, true, true, false] rfl rfl (by kernel_rfl) (fun _ _ _ h => h) (Or.inl ⟨by rfl, ?_⟩) ?_ ?_
              · intro w'
                go_simp
                try (with_reducible rfl)
              rotate_left
              · simp only [Act.put, List.setIfInBounds_toArray, List.set_cons_zero, List.set_cons_succ, i64_w, i32_w]
                rfl
              refine pure_ (i := 12) (N := some 35) (v := .bool false) (a' := ?_) #[true, true, true, true, true, true, true, true, true, true, true, true, true] rfl rfl (by kernel_rfl) (fun _ _ _ h => h) (Or.inl ⟨by rfl, ?_⟩) ?_ ?_
              · intro w'
                go_simp
                try (with_reducible rfl)
              rotate_left
              · simp only [Act.put, List.setIfInBounds_toArray, List.set_cons_zero, List.set_cons_succ, i64_w, i32_w]
                rfl
              refine done_ (by kernel_rfl) ?_
              obtain ⟨w3, hw3⟩ : ∃ W, w2.drew = W := ⟨_, rfl⟩
              have hb3 : Below w2.heap.size w2 w3 := by rw [← hw3]; exact below_drew (Below.refl _ _)
              have HBX3 := Lib.hid (boxed_blw HBX2.out hb3)
              have HJ3 := Lib.hid (HJG.out _ _ _ HJ2.out hb3)
              rw [hw3]
              clear hw3 hb3 y2 y3 HBX2 HJ2
              have y2 := HBX3.out.cell
              have y3 := ((HJB.out _ _ HJ3.out).cell (World.block_lt_of_cell? w0 _ HXM.out)).trans HXM.out
              go_wp2_with fail
              refine (HCC.out _ (HJB.out _ _ HJ3.out)).mono ?_
              rintro e w4 ⟨v4, rfl, hv4, hb4⟩
              obtain ⟨Ad, cd, rfl⟩ := Kd.R_slice hv4
              have HBX4 := Lib.hid (boxed_blw HBX3.out hb4)
              have HB4 := Lib.hid hb4
              have HV4 := Lib.hid hv4
              clear y2 y3 hv4 hb4
              have y2 := HBX4.out.cell
              go_upto_region 9 with fail
              obtain ⟨bx, hbx⟩ : ∃ b, w4.heap.size = b := ⟨_, rfl⟩
              obtain ⟨w5, hw5⟩ : ∃ W, w4.alloc (.cells #[.int .i64 x, .slice Ad ys.length cd] 39) = W := ⟨_, rfl⟩
              have hb5 : Below w4.heap.size w4 w5 := by rw [← hw5]; exact below_alloc (Below.refl _ _) _
              have HX5 : Hid (w5.heap[bx]? = some (.cells #[.int .i64 x, .slice Ad ys.length cd] 39 (0, 0))) := by show _ = _; rw [← hw5, ← hbx]; exact blk_new _ _
              have HBX5 := Lib.hid (boxed_blw HBX4.out hb5)
              have HNB : Hid (bx ≠ Bn) := by have := HBX4.out.lt; show _ ≠ _; omega
              have HV5 := Lib.hid (Kd.R_below HV4.out hb5)
              have HO5 := Lib.hid (OneBut.of_below (HB4.out.trans (hb5.mono HB4.out.size)) Bn)
              rw [hw5, hbx]
              clear hw5 hbx hb5 y2 HV4 HB4 HBX4
              have y2 := HBX5.out.cell
              have z2 := HBX5.out.frozen
              go_upto_region 10 with fail
              obtain ⟨w6, hw6⟩ : ∃ W, w5.setCell ⟨Bn, 0, none⟩ (.slice A5 s5.length c5) = W := ⟨_, rfl⟩
              have HBX6 : Hid (Boxed w6 Bn 22 (.slice A5 s5.length c5)) := by show Boxed _ _ _ _; rw [← hw6]; exact HBX5.out.set _
              have HX6 : Hid (w6.heap[bx]? = some (.cells #[.int .i64 x, .slice Ad ys.length cd] 39 (0, 0))) := by show _ = _; rw [← hw6]; exact (Below.heap_setCell _ _ _ _ HNB.out).trans HX5.out
              have HO6 : Hid (OneBut w3 w6 Bn) := by show OneBut _ _ _; rw [← hw6]; exact HO5.out.set _
              have HV6 : Hid ((Kd.int .u8).R 5 w6 w3.heap.size (fun _ => True) (.slice Ad ys.length cd) ys) := by
                show Kd.R _ _ _ _ _ _ _
                rw [← hw6]
                refine Kd.R_mono (Kd.R_move (Kd.R_bound HV5.out) (fun k hk => Below.heap_setCell _ _ _ _ ?_)) (fun _ hk => hk.1)
                have h1 := hk.2.1
                have h2 := HBX3.out.lt
                show k ≠ Bn
                omega
              rw [hw6]
              clear hw6 y2 z2 HV5 HO5 HX5 HBX5
              have y2 := HBX6.out.cell
              have y3 := (blk_cell HX6.out 0).trans rfl
              have y4 := (blk_cell HX6.out 1).trans rfl
              refine (wpIn_wide (n := n + 1)).1 ?_
              obtain ⟨fn, tmps, assign, body, hy, hR⟩ := HY1.out _ _ _ x ys Ad cd A5 s5.length c5 _ HJ3.out ⟨_, HBX3.out⟩ HO6.out HPL.out HYL.out HV6.out HZ0.out HZ1.out HBX6.out
              gi_wp2_with fail
              refine hR.mono ?_
              rintro e W3 ⟨rfl, hJ7, hB7⟩
              gi_wp2_with fail
              go_wp2_with fail
              have HBY5 : Hid (∀ y ∈ s5, 0 ≤ y ∧ y ≤ 255) := fun y hy2 => HBY2.out y (List.mem_cons_of_mem _ (List.mem_of_mem_drop (HS5.out ▸ hy2)))
              have HP5 : Hid (pGo s5 (pre ++ [⟨x, ys⟩]) = pGo b []) := by
                have h1 := HP2.out
                rw [Int.toNat_natCast, ← HYE.out, ← HS5.out] at h1
                exact h1
              go_roundg (s5.length)
              case measure => exact HM5.out
              case rel => exact ⟨s5, A5, c5, pre ++ [⟨x, ys⟩], rfl, HL5, Lib.hid (by have := HLP5.out; simp only [List.length_append, List.length_singleton]; omega), HBY5, HC5, Lib.hid hB7, Lib.hid hJ7, HP5⟩
            · have HR := Lib.hid (HP.out.symm.trans (pGo_stop HZ0.out HZ1.out (by rw [Int.toNat_natCast]; exact hms)))
              have g1 : ((mm : Int) > (s.length : Int)) = True := eq_true (by omega)
              have g2 : (s.length < mm) = True := eq_true (by omega)
              go_wp2_with fail
              try rw [hw2]
              have y2 := HBX2.out.cell
              have y3 := ((HJB.out _ _ HJ2.out).cell (World.block_lt_of_cell? w0 _ HXM.out)).trans HXM.out
              clear y1 z1 x0' hw2 hlb
              refine start_ (n := 13) (S := fun w' => w'.cell? ⟨Bn, 0, none⟩ = some (.slice (some ad2) rn c2) ∧ w'.cell? ad2 = some (.int .u8 (mm : Int))) (ds := []) #[false, false, false, false, false, false, false, false, false, false, false, false, false] (by kernel_rfl) rfl rfl ⟨y2, y3⟩ (fun hHeld => ?_)
              refine take_ (i := 0) (N := some 23) (v := .slice (some ad2) rn c2) (a' := ?_) #[true, false, false, false, false, false, false, false, false, false, false, false, false] rfl rfl (by kernel_rfl) (fun _ _ _ h => h) (Or.inl ⟨by rfl, ?_⟩) hHeld ?_ ?_
              · rintro w' ⟨s0, s1⟩
                go_simp
                try (with_reducible rfl)
              rotate_left
              · simp only [Act.put, List.setIfInBounds_toArray, List.set_cons_zero, List.set_cons_succ, i64_w, i32_w]
                rfl
              refine pure_ (i := 1) (N := some 24) (v := .int .i64 rn) (a' := ?_) #[true, true, false, false, false, false, false, false, false, false, false, false, false] rfl rfl (by kernel_rfl) (fun _ _ _ h => h) (Or.inl ⟨by rfl, ?_⟩) ?_ ?_
              · intro w'
                go_simp
                try (with_reducible rfl)
              rotate_left
              · simp only [Act.put, List.setIfInBounds_toArray, List.set_cons_zero, List.set_cons_succ, i64_w, i32_w]
                rfl
              refine pure_ (i := 2) (N := some 25) (v := .bool false) (a' := ?_) #[true, true, true, false, false, false, false, false, false, false, false, false, false] rfl rfl (by kernel_rfl) (fun _ _ _ h => h) (Or.inl ⟨by rfl, ?_⟩) ?_ ?_
              · intro w'
                go_simp
                try (with_reducible rfl)
              rotate_left
              · simp only [Act.put, List.setIfInBounds_toArray, List.set_cons_zero, List.set_cons_succ, i64_w, i32_w]
                rfl
              refine pure_ (i := 3) (N := some 26) (v := .bool false) (a' := ?_) #[true, true, true, true, false, false, false, false, false, false, false, false, false] rfl rfl (by kernel_rfl) (fun _ _ _ h => h) (Or.inl ⟨by rfl, ?_⟩) ?_ ?_
              · intro w'
                go_simp
                try (with_reducible rfl)
              rotate_left
              · simp only [Act.put, List.setIfInBounds_toArray, List.set_cons_zero, List.set_cons_succ, i64_w, i32_w]
                rfl
              refine take_ (i := 4) (N := some 27) (v := .slice (some ad2) rn c2) (a' := ?_) #[true, true, true, true, true, false, false, false, false, false, false, false, false] rfl rfl (by kernel_rfl) (fun _ _ _ h => h) (Or.inl ⟨by rfl, ?_⟩) hHeld ?_ ?_
              · rintro w' ⟨s0, s1⟩
                go_simp
                try (with_reducible rfl)
              rotate_left
              · simp only [Act.put, List.setIfInBounds_toArray, List.set_cons_zero, List.set_cons_succ, i64_w, i32_w]
                rfl
              refine pure_ (i := 5) (N := some 28) (v := .pointer (some ad2)) (a' := ?_) #[true, true, true, true, true, true, false, false, false, false, false, false, false] rfl rfl (by kernel_rfl) (fun _ _ _ h => h) (Or.inl ⟨by rfl, ?_⟩) ?_ ?_
              · intro w'
                go_simp
                try (with_reducible rfl)
              rotate_left
              · simp only [Act.put, List.setIfInBounds_toArray, List.set_cons_zero, List.set_cons_succ, i64_w, i32_w]
                rfl
              refine take_ (i := 6) (N := some 29) (v := .int .u8 (mm : Int)) (a' := ?_) #[true, true, true, true, true, true, true, false, false, false, false, false, false] rfl rfl (by kernel_rfl) (fun _ _ _ h => h) (Or.inl ⟨by rfl, ?_⟩) hHeld ?_ ?_
              · rintro w' ⟨s0, s1⟩
                go_simp
                try (with_reducible rfl)
              rotate_left
              · simp only [Act.put, List.setIfInBounds_toArray, List.set_cons_zero, List.set_cons_succ, i64_w, i32_w]
                rfl
              refine pure_ (i := 7) (N := some 30) (v := .int .i64 (mm : Int)) (a' := ?_) #[true, true, true, true, true, true, true, true, false, false, false, false, false] rfl rfl (by kernel_rfl) (fun _ _ _ h => h) (Or.inl ⟨by rfl, ?_⟩) ?_ ?_
              · intro w'
                go_simp
                try (with_reducible rfl)
              rotate_left
              · simp only [Act.put, List.setIfInBounds_toArray, List.set_cons_zero, List.set_cons_succ, i64_w, i32_w]
                rfl
              refine take_ (i := 8) (N := some 31) (v := .slice (some ad2) rn c2) (a' := ?_) #[true, true, true, true, true, true, true, true, true, false, false, false, false] rfl rfl (by kernel_rfl) (fun _ _ _ h => h) (Or.inl ⟨by rfl, ?_⟩) hHeld ?_ ?_
              · rintro w' ⟨s0, s1⟩
                go_simp
                try (with_reducible rfl)
              rotate_left
              · simp only [Act.put, List.setIfInBounds_toArray, List.set_cons_zero, List.set_cons_succ, i64_w, i32_w]
                rfl
              refine pure_ (i := 9) (N := some 32) (v := .int .i64 rn) (a' := ?_) #[true, true, true, true, true, true, true, true, true, true, false, false, false] rfl rfl (by kernel_rfl) (fun _ _ _ h => h) (Or.inl ⟨by rfl, ?_⟩) ?_ ?_
              · intro w'
                go_simp
                try (with_reducible rfl)
              rotate_left
              · simp only [Act.put, List.setIfInBounds_toArray, List.set_cons_zero, List.set_cons_succ, i64_w, i32_w]
                rfl
              refine pure_ (i := 10) (N := some 33) (v := .int .i64 (s.length : Int)) (a' := ?_) #[true, true, true, true, true, true, true, true, true, true, true, false, false] rfl rfl (by kernel_rfl) (fun _ _ _ h => h) (Or.inl ⟨by rfl, ?_⟩) ?_ ?_
              · intro w'
                go_simp
                try (with_reducible rfl)
              rotate_left
              · simp only [Act.put, List.setIfInBounds_toArray, List.set_cons_zero, List.set_cons_succ, i64_w, i32_w]
                rfl
              refine pure_ (i := 11) (N := some 34) (v := .bool true) (a' := ?_) #[true, true, true, true, true, true, true, true, true, true, true, true, false] rfl rfl (by kernel_rfl) (fun _ _ _ h => h) (Or.inl ⟨by rfl, ?_⟩) ?_ ?_
              · intro w'
                go_simp
                try (with_reducible rfl)
              rotate_left
              · simp only [Act.put, List.setIfInBounds_toArray, List.set_cons_zero, List.set_cons_succ, i64_w, i32_w]
                rfl
              refine pure_ (i := 12) (N := some 35) (v := .bool true) (a' := ?_) #[true, true, true, true, true, true, true, true, true, true, true, true, true] rfl rfl (by kernel_rfl) (fun _ _ _ h => h) (Or.inl ⟨by rfl, ?_⟩) ?_ ?_
              · intro w'
                go_simp
                try (with_reducible rfl)
              rotate_left
              · simp only [Act.put, List.setIfInBounds_toArray, List.set_cons_zero, List.set_cons_succ, i64_w, i32_w]
                rfl
              refine done_ (by kernel_rfl) ?_
              go_upto_region 11 with fail
              refine (wpIn_wide (n := n + 1)).1 ?_
              obtain ⟨fn, tmps, assign, body, hy, hR⟩ := HY3.out _ _ (HJG.out _ _ _ HJ2.out (below_drew (Below.refl _ _))) HR.out
              gi_wp2_with fail
              refine hR.mono ?_
              rintro e W3 ⟨⟨q, rfl⟩, hE⟩
              gi_wp2_with fail
              go_end0
              exact ⟨⟨_, rfl⟩, hE⟩
end Go.Proofs.YtmbfdmceameghaaDoor
end

section
namespace Go.Proofs.YtmbfdmceameghaaDoor
open Go.RowKit Go.Proofs.YtmbfdmceameghaaDoor.Pr Go.Proofs.YtmbfdmceameghaaDoorW.PrintWords Go.Proofs.YtmbfdmceameghaaDoorW.PrintLast Go.Proofs.YtmbfdmceameghaaDoorW.PrintMore
attribute [local go_sem] max2_int min2_int max_two min_two max_three min_three max_four min_four
set_option linter.unusedVariables false
set_option linter.unusedSimpArgs false

def lenOfT : Value → Nat | .slice _ n _ => n | _ => 0
set_option maxHeartbeats 2000000 in
set_option maxRecDepth 100000 in
theorem triml_calls (A : Option Addr) (c : Nat) (l : List Int) (w : World) (hC : (Kd.int .u8).C w A l.length l) (hc : l.length ≤ c) :
    Calls Tryd.prog 36 #[.slice A l.length c, .int .u8 0] w fun e w' => ∃ A' n' c', e = .returned (.slice A' n' c') ∧ (n' = 0 ↔ ∀ x ∈ l, x = 0) ∧ w' = w := by
  have HC := Lib.hid hC
  have hlen : l.length ≤ 9223372036854775807 := hC.2.1
  clear hC
  obtain ⟨i0, hinf, hzz⟩ := Option.map_eq_some_iff.1 cl_info
  simp only [Prod.mk.injEq] at hzz
  have hone := hzz.2.1
  clear hzz
  have HINF : Hid (Tryd.prog.info? 5 = some i0) := hinf
  have HONE : Hid (i0.size = 1) := hone
  clear hinf hone
  go_enter Tryd.func36, Tryd.ntmps36
  go_wp2_with fail
  go_loopw [0] (fun at_ wr => ∃ (l' : List Int) (A' : Option Addr) (c' : Nat), at_ = .slice A' l'.length c' ∧ l'.length ≤ c' ∧ l'.length ≤ l.length ∧ Hid ((Kd.int .u8).C w A' l'.length l') ∧ Hid ((∀ x ∈ l', x = 0) ↔ ∀ x ∈ l, x = 0) ∧ wr = w) (fun at_ _ => lenOfT at_)
  case atStart => exact ⟨l, A, c, rfl, hc, Nat.le_refl _, HC, Iff.rfl, rfl⟩
  case round =>
    obtain ⟨l', A', c', rfl, hc', hl', HC', HI, rfl⟩ := hrel
    cases l' with
    | nil =>
      go_wp2_with fail
      go_ret
      exact ⟨_, _, _, rfl, ⟨fun _ => HI.out.1 (by simp), fun _ => rfl⟩, rfl⟩
    | cons x l2 =>
      obtain ⟨ad, rfl, x0⟩ := Kd.at_int HC'.out 0 (by omega) (by simp only [List.length_cons]; omega)
      have x0' : wr.cell? ad = some (.int .u8 x) := x0
      have C2 := Kd.C_drop (c := c') (m := 1) HC'.out (by simp) hc'
      rw [show (Kd.int .u8).sz = 1 from rfl, Nat.mul_one] at C2
      change (Kd.int .u8).C wr _ l2.length l2 at C2
      obtain ⟨nn, hnn⟩ : ∃ nn, nn = (x :: l2).length := ⟨_, rfl⟩
      have hn2 : nn = l2.length + 1 := hnn
      rw [← hnn] at hc' hl' ⊢
      have r1 := cut_from (P := Tryd.prog) 22 5 .i64 Tryd.underlying22 HINF.out 1 HONE.out (some ad) nn c' 1 (by omega) (by omega)
      rw [show (1 : Int).toNat = 1 from rfl, Nat.mul_one, show nn - 1 = l2.length from by omega] at r1
      obtain ⟨A2, hA2⟩ : ∃ A2, A2 = (if c' = 1 then some ad else (some ad).map (·.add 1)) := ⟨_, rfl⟩
      obtain ⟨c2, hc2⟩ : ∃ c2, c2 = c' - 1 := ⟨_, rfl⟩
      rw [← hA2] at C2
      rw [← hA2, ← hc2] at r1
      have HC2 := Lib.hid C2
      have hl2 : l2.length ≤ c2 := by omega
      have p0 : ((nn : Int) > 0) = True := eq_true (by omega)
      have p1 : (0 < nn) = True := eq_true (by omega)
      have p2 : ((nn : Int) == 0) = false := beq_eq_false_iff_ne.2 (by omega)
      have p3 : (nn = 0) = False := eq_false (by omega)
      have p4 : (nn == 0) = false := beq_eq_false_iff_ne.2 (by omega)
      have HN := Lib.hid hn2
      clear x0 C2 hA2 hc2 hnn hn2 HC'
      by_cases hx : x = 0
      · subst hx
        go_wp2_with fail
        go_roundw
        case rel =>
          have h2 := HN.out
          have hI : Hid ((∀ x ∈ l2, x = 0) ↔ ∀ x ∈ l, x = 0) := ⟨fun h => HI.out.1 (fun y hy => (List.mem_cons.1 hy).elim (fun e => e) (h y)), fun h y hy => HI.out.2 h y (List.mem_cons_of_mem _ hy)⟩
          first
            | exact ⟨l2, A2, c2, rfl, hl2, by omega, HC2, hI, by first | rfl | trivial⟩
            | ((repeat apply Exists.intro); exact ⟨⟨l2, A2, c2, rfl, hl2, by omega, HC2, hI, by first | rfl | trivial⟩, rfl⟩)
        case measure =>
          have h2 := HN.out
          simp [lenOfT]; omega
      · have q1 : (x == 0) = false := beq_eq_false_iff_ne.2 hx
        have HX := Lib.hid hx
        clear hx
        go_wp2_with fail
        go_ret
        exact ⟨_, _, _, rfl, ⟨fun h => by have := HN.out; omega, fun h => absurd (HI.out.2 h x (by simp)) HX.out⟩, rfl⟩
set_option maxHeartbeats 2000000 in
set_option maxRecDepth 100000 in
theorem trimr_calls (A : Option Addr) (c : Nat) (l : List Int) (w : World) (hC : (Kd.int .u8).C w A l.length l) (hc : l.length ≤ c) :
    Calls Tryd.prog 37 #[.slice A l.length c, .int .u8 0] w fun e w' => ∃ l' : List Int, e = .returned (.slice A l'.length c) ∧ (Kd.int .u8).C w A l'.length l' ∧ l'.length ≤ c ∧ ((∀ x ∈ l', x = 0) ↔ ∀ x ∈ l, x = 0) ∧ w' = w := by
  have HC := Lib.hid hC
  have hlen : l.length ≤ 9223372036854775807 := hC.2.1
  clear hC
  obtain ⟨i0, hinf, hzz⟩ := Option.map_eq_some_iff.1 cl_info
  clear hzz
  have HINF : Hid (Tryd.prog.info? 5 = some i0) := hinf
  clear hinf
  go_enter Tryd.func37, Tryd.ntmps37
  go_wp2_with fail
  go_loopw [0] (fun at_ wr => ∃ (l' : List Int), at_ = .slice A l'.length c ∧ l'.length ≤ c ∧ l'.length ≤ l.length ∧ Hid ((Kd.int .u8).C w A l'.length l') ∧ Hid ((∀ x ∈ l', x = 0) ↔ ∀ x ∈ l, x = 0) ∧ wr = w) (fun at_ _ => lenOfT at_)
  case atStart => exact ⟨l, rfl, hc, Nat.le_refl _, HC, Iff.rfl, rfl⟩
  case round =>
    obtain ⟨l', rfl, hc', hl', HC', HI, rfl⟩ := hrel
    by_cases he : l' = []
    · subst he
      go_wp2_with fail
      go_ret
      exact ⟨[], rfl, HC'.out, by simp, HI.out, rfl⟩
    · have hpos : 0 < l'.length := List.length_pos_iff.2 he
      obtain ⟨j, hj⟩ : ∃ j : Nat, l'.length = j + 1 := ⟨l'.length - 1, by omega⟩
      obtain ⟨ad, rfl, x0⟩ := Kd.at_int HC'.out (j : Int) (by omega) (by omega)
      rw [Int.toNat_natCast] at x0
      obtain ⟨x, hx⟩ : ∃ x, rd l' (j : Int) = x := ⟨_, rfl⟩
      rw [hx] at x0
      have hmem : x ∈ l' := by
        rw [← hx]; unfold rd
        rw [Int.toNat_natCast, List.getD_eq_getElem?_getD, List.getElem?_eq_getElem (by omega)]
        exact List.getElem_mem _
      have hdrop : l'.take j ++ [x] = l' := by
        have : l'[j] = x := by rw [← hx]; unfold rd; rw [Int.toNat_natCast, List.getD_eq_getElem?_getD, List.getElem?_eq_getElem (by omega)]; rfl
        rw [← this, ← List.take_succ_eq_append_getElem (by omega), ← hj, List.take_length]
      have C2 := Kd.C_take (m := j) HC'.out (by omega)
      have htl : (l'.take j).length = j := by rw [List.length_take]; omega
      have r2 := cut_to (P := Tryd.prog) 22 5 .i64 Tryd.underlying22 HINF.out (some ad) l'.length c (j : Int) (by omega) (by omega) hc'
      rw [Int.toNat_natCast] at r2
      have e1 : IntKind.i64.wrap ((l'.length : Int) - 1) = (j : Int) := by rw [hj]; rw [IntWalk.i64_in _ (by omega)]; omega
      obtain ⟨nn, hnn⟩ : ∃ nn, nn = l'.length := ⟨_, rfl⟩
      rw [← hnn] at hc' hl' r2 e1 hj ⊢
      have p0 : ((nn : Int) > 0) = True := eq_true (by omega)
      have p1 : (0 < nn) = True := eq_true (by omega)
      have p2 : (0 ≤ (j : Int)) = True := eq_true (by omega)
      have p3 : ((j : Int) < (nn : Int)) = True := eq_true (by omega)
      have p4 : (j < nn) = True := eq_true (by omega)
      have HC2 := Lib.hid C2
      have HN := Lib.hid hj
      have HM := Lib.hid hmem
      have HDR := Lib.hid hdrop
      have HTL := Lib.hid htl
      have HNN := Lib.hid hnn
      have HCX := Lib.hid HC'.out
      clear C2 hnn hj hmem hdrop htl hx HC' hpos he
      by_cases hx : x = 0
      · subst hx
        go_wp2_with fail
        go_roundw
        case rel =>
          have h2 := HN.out
          have h3 := HTL.out
          have hI : Hid ((∀ x ∈ l'.take j, x = 0) ↔ ∀ x ∈ l, x = 0) := ⟨fun h => HI.out.1 (fun y hy => (List.mem_append.1 (HDR.out.symm ▸ hy)).elim (h y) List.mem_singleton.1), fun h y hy => HI.out.2 h y (List.mem_of_mem_take hy)⟩
          first
            | exact ⟨l'.take j, by rw [h3], by omega, by omega, HC2, hI, by first | rfl | trivial⟩
            | ((repeat apply Exists.intro); exact ⟨⟨l'.take j, by rw [h3], by omega, by omega, HC2, hI, by first | rfl | trivial⟩, rfl⟩)
        case measure =>
          have h2 := HN.out
          simp [lenOfT]; omega
      · have q1 : (x == 0) = false := beq_eq_false_iff_ne.2 hx
        clear hx
        go_wp2_with fail
        go_ret
        exact ⟨l', by rw [HNN.out]; rfl, HCX.out, by rw [← HNN.out]; exact hc', HI.out, rfl⟩
set_option maxHeartbeats 2000000 in
set_option maxRecDepth 100000 in
theorem trim_calls (A : Option Addr) (c : Nat) (l : List Int) (w : World) (hC : (Kd.int .u8).C w A l.length l) (hc : l.length ≤ c) :
    Calls Tryd.prog 28 #[.slice A l.length c, .string ⟨#[0]⟩] w fun e w' => ∃ A' n' c', e = .returned (.slice A' n' c') ∧ (n' = 0 ↔ ∀ x ∈ l, x = 0) ∧ Below w.heap.size w w' := by
  have HC := Lib.hid hC
  have hlen : l.length ≤ 9223372036854775807 := hC.2.1
  clear hC
  by_cases he : l = []
  · subst he
    go_enter Tryd.func28, Tryd.ntmps28
    go_wp2_with fail
    go_ret
    exact ⟨_, _, _, rfl, by simp, Below.refl _ _⟩
  · have hpos : 0 < l.length := List.length_pos_iff.2 he
    have HR := Lib.hid (fun W (hb : Below w.heap.size w W) => trimr_calls A c l W (Kd.C_below HC.out hb) hc)
    obtain ⟨nn, hnn⟩ : ∃ nn, nn = l.length := ⟨_, rfl⟩
    rw [← hnn] at hpos HR ⊢
    have p1 : (nn = 0) = False := eq_false (by omega)
    have p2 : ((nn : Int) == 0) = false := beq_eq_false_iff_ne.2 (by omega)
    have p3 : (nn == 0) = false := beq_eq_false_iff_ne.2 (by omega)
    have hidx : ∀ W : World, (Instr.index 9 (.string ⟨#[0]⟩) (.int .i64 0)).run Tryd.prog W = .ok (.int .u8 0) W := fun _ => by rfl
    clear hnn he hpos hc hlen HC
    go_enter Tryd.func28, Tryd.ntmps28
    go_wp2_with fail
    refine start_ (n := 8) (S := fun w' => True) (ds := []) #[false, false, false, false, false, false, false, false] (by kernel_rfl) rfl rfl trivial (fun hHeld => ?_)
    obtain ⟨W2, hW2⟩ : ∃ W2, w.drew = W2 := ⟨_, rfl⟩
    have HW2 : Hid (Below w.heap.size w W2) := by show Below _ _ _; rw [← hW2]; exact below_drew (Below.refl _ _)
    rw [hW2]
    clear hW2
    refine pure_ (i := 0) (N := some 21) (v := ?_) (a' := ?_) #[true, false, false, false, false, false, false, false] rfl rfl (by kernel_rfl) (fun _ _ _ h => h) (Or.inl ⟨by rfl, ?_⟩) ?_ ?_
    rotate_left
    · intro w'
      go_simp
      with_reducible rfl
    rotate_left
    · simp only [Act.put, List.setIfInBounds_toArray, List.set_cons_zero, List.set_cons_succ, i64_w, i32_w]
      rfl
    refine pure_ (i := 1) (N := some 22) (v := ?_) (a' := ?_) #[true, true, false, false, false, false, false, false] rfl rfl (by kernel_rfl) (fun _ _ _ h => h) (Or.inl ⟨by rfl, ?_⟩) ?_ ?_
    rotate_left
    · intro w'
      go_simp
      with_reducible rfl
    rotate_left
    · simp only [Act.put, List.setIfInBounds_toArray, List.set_cons_zero, List.set_cons_succ, i64_w, i32_w]
      rfl
    refine pure_ (i := 2) (N := some 23) (v := .int .u8 0) (a' := ?_) #[true, true, true, false, false, false, false, false] rfl rfl (by kernel_rfl) (fun _ _ _ h => h) (Or.inl ⟨by rfl, ?_⟩) ?_ ?_
    · intro w'
      go_simp
      try (with_reducible rfl)
    rotate_left
    · simp only [Act.put, List.setIfInBounds_toArray, List.set_cons_zero, List.set_cons_succ, i64_w, i32_w]
      rfl
    refine pure_ (i := 4) (N := some 25) (v := ?_) (a' := ?_) #[true, true, true, false, true, false, false, false] rfl rfl (by kernel_rfl) (fun _ _ _ h => h) (Or.inl ⟨by rfl, ?_⟩) ?_ ?_
    rotate_left
    · intro w'
      go_simp
      with_reducible rfl
    rotate_left
    · simp only [Act.put, List.setIfInBounds_toArray, List.set_cons_zero, List.set_cons_succ, i64_w, i32_w]
      rfl
    refine pure_ (i := 5) (N := some 26) (v := .int .u8 0) (a' := ?_) #[true, true, true, false, true, true, false, false] rfl rfl (by kernel_rfl) (fun _ _ _ h => h) (Or.inl ⟨by rfl, ?_⟩) ?_ ?_
    · intro w'
      go_simp
      try (with_reducible rfl)
    rotate_left
    · simp only [Act.put, List.setIfInBounds_toArray, List.set_cons_zero, List.set_cons_succ, i64_w, i32_w]
      rfl
    refine one_ (i := 3) (N := some 24) #[true, true, true, true, true, true, false, false] rfl rfl (by kernel_rfl) (by decide) (fun K hK => ?_)
    refine goes_ Tryd.func37 (by kernel_rfl) rfl #[.slice A nn c, .int .u8 0] (by rfl) rfl rfl (by (try simp only [List.map_toArray, List.map_cons, List.map_nil]); rfl) ?_
    refine (HR.out _ HW2.out).mono ?_
    rintro e w6 ⟨l2, rfl, hc2, hl2, hi2, rfl⟩
    have HC2 := Lib.hid hc2
    have HI2 := Lib.hid hi2
    clear hc2 hi2 hHeld
    refine ⟨_, rfl, ?_⟩
    refine hK.out _ _ trivial (fun hHeld => ?_)
    clear hK K
    try (refine norm_ (a' := ?_) ?_ ?_; rotate_left; focus (simp only [Act.put, List.setIfInBounds_toArray, List.set_cons_zero, List.set_cons_succ, i64_w, i32_w]; rfl))
    refine one_ (i := 6) (N := some 27) #[true, true, true, true, true, true, true, false] rfl rfl (by kernel_rfl) (by decide) (fun K hK => ?_)
    refine goes_ Tryd.func36 (by kernel_rfl) rfl #[.slice A l2.length c, .int .u8 0] (by rfl) rfl rfl (by (try simp only [List.map_toArray, List.map_cons, List.map_nil]); rfl) ?_
    refine (triml_calls A c l2 _ HC2.out hl2).mono ?_
    rintro e w7 ⟨A7, n7, c7, rfl, hi7, rfl⟩
    have HI7 := Lib.hid (hi7.trans HI2.out)
    clear hi7 hHeld
    refine ⟨_, rfl, ?_⟩
    refine hK.out _ _ trivial (fun hHeld => ?_)
    clear hK K
    try (refine norm_ (a' := ?_) ?_ ?_; rotate_left; focus (simp only [Act.put, List.setIfInBounds_toArray, List.set_cons_zero, List.set_cons_succ, i64_w, i32_w]; rfl))
    refine pure_ (i := 7) (N := some 4) (v := ?_) (a' := ?_) #[true, true, true, true, true, true, true, true] rfl rfl (by kernel_rfl) (fun _ _ _ h => h) (Or.inl ⟨by rfl, ?_⟩) ?_ ?_
    rotate_left
    · intro w'
      go_simp
      with_reducible rfl
    rotate_left
    · simp only [Act.put, List.setIfInBounds_toArray, List.set_cons_zero, List.set_cons_succ, i64_w, i32_w]
      rfl
    refine done_ (by kernel_rfl) ?_
    go_wp2_with fail
    go_ret
    exact ⟨_, _, _, rfl, HI7.out, HW2.out⟩
end Go.Proofs.YtmbfdmceameghaaDoor
end

section
namespace Go.Proofs.YtmbfdmceameghaaDoor
open Go.RowKit Go.Proofs.YtmbfdmceameghaaDoor.Pr Go.Proofs.YtmbfdmceameghaaDoorW.PrintWords Go.Proofs.YtmbfdmceameghaaDoorW.PrintLast Go.Proofs.YtmbfdmceameghaaDoorW.PrintMore
attribute [local go_sem] max2_int min2_int max_two min_two max_three min_three max_four min_four Oper.semAt_some
set_option linter.unusedVariables false
set_option linter.unusedSimpArgs false

theorem parts_calls (A0 : Option Addr) (n c0 : Nat) (w : World) :
    Calls Tryd.prog 43 #[.slice A0 n c0] w fun e w' => e = .returned (.func (.func 49) #[] #[.pointer (some ⟨w.heap.size, 0, none⟩)]) ∧ w' = w.alloc (.cells #[.slice A0 n c0] 22) := by
  go_enter Tryd.func43, Tryd.ntmps43
  go_wp2
  go_ret
  exact ⟨rfl, rfl⟩

/-- A round whose assignment turns the world. -/
theorem rf_roundA {P : Program} {n l : Nat} {W W1 : World} {args : Array Value} (R : Bool → Option Code → World → Prop) {fn : FuncId} {tmps : Array Value} {ps : Array Tmp} {assign body : Code} {dk : Nat} {r : LoopState → Option Code → Loop}
    (hr : r = rfRec fn tmps ps assign body dk) (hl : W.heap[l]? = some (.loop (r .ready none))) (hl1 : W1.heap[l]? = some (.loop (r .ready none))) (hs : args.size = ps.size) (a₁ : Act)
    (hassign : ∀ K : Act → World → Prop, K a₁ W1 → assign.wpIn (Fence.wide.inRound l) n P (Exit.then K (fun _ _ _ => False)) { tmps := (ps.zip args).foldl (fun t (p, v) => t.setIfInBounds p v) tmps, defers := [] } W)
    (hbody : body.wpIn (Fence.wide.inRound l) n P (rfPost r l R) a₁ (W1.putObj l (.loop (r .busy none)))) :
    YieldAt Fence.wide n P l args W fun e W' => ∃ b jump, e = .returned (.bool b) ∧ R b jump W' ∧ (b = true → jump = none) := by
  subst hr
  have hy := run_yield (P := P) (args := args) hl (by simpa [rfRec] using hs)
  refine ⟨fn, _, assign, body, hy, roundIn_of_wpIn trivial (hassign _ ⟨_, run_beginRound hl1 rfl, ?_⟩)⟩
  refine wpIn_mono hbody ?_
  intro e a W3 hp
  cases e with
  | normal =>
    obtain ⟨hb, hr⟩ := hp
    exact ⟨_, _, run_endRound (P := P) none hb, true, none, rfl, hr, fun _ => rfl⟩
  | ret =>
    obtain ⟨hb, hr⟩ := hp
    exact ⟨_, _, run_endRound (P := P) (some .ret) hb, false, some .ret, rfl, hr, fun h => by cases h⟩
  | exit id =>
    obtain ⟨hb, hr⟩ := hp
    exact ⟨_, _, run_endRound (P := P) (some (.exit id)) hb, false, some (.exit id), rfl, hr, fun h => by cases h⟩
  | goto t => exact hp.elim
  | panic ch => exact hp.elim
  | outgrown => exact hp.elim

theorem pinfo : (Tryd.prog.info? 39).map (fun i => (i.zero, i.size, i.bytes)) = some (some (.agg #[.int .i64 0, .slice none 0 0]), 2, 32) := by kernel_rfl
/-! ### what Decode hands back -/
def odR (l : List Int) : List OptP × Int := if 1024 < l.length then ([], 2) else match pGo l [] with | (pre, some r) => if ∀ x ∈ r, x = 0 then (pre, 0) else ([], 2) | (_, none) => ([], 2)
def option_Decode.f (l0 : List Int) : Option (List OptP × Int) := if (∀ x ∈ l0, 0 ≤ x ∧ x ≤ 255) ∧ l0.length < 1099511627776 then some (odR l0) else none

/-- Between two rounds. -/
structure DecJ (w : World) (D : Nat) (r : Loop) (pre : List OptP) (W : World) : Prop where
  b0 : Boxed W w.heap.size 26 (.slice none 0 0)
  b1 : Boxed W (w.heap.size + 1) 29 (.int .i64 0)
  row : ∃ A c, Boxed W (w.heap.size + 2) 26 (.slice A pre.length c) ∧ Kd.S k39 39 W w.heap.size (fun _ => True) (.slice A pre.length c) pre
  below : Below w.heap.size w W
  loop : W.heap[D + 1]? = some (.loop r)
  coll : W.heap[D]? = some (.deferred (some []))
/-- Behind the last. -/
structure DecE (w : World) (D : Nat) (r : Loop) (res : List OptP × Int) (W : World) : Prop where
  row : ∃ A c, Boxed W w.heap.size 26 (.slice A res.1.length c) ∧ Kd.S k39 39 W w.heap.size (fun _ => True) (.slice A res.1.length c) res.1
  b1 : Boxed W (w.heap.size + 1) 29 (.int .i64 res.2)
  below : Below w.heap.size w W
  loop : W.heap[D + 1]? = some (.loop r)
  coll : W.heap[D]? = some (.deferred (some []))
theorem DecJ.grow {w W W' : World} {D : Nat} {r : Loop} {pre : List OptP} (h : DecJ w D r pre W) (hg : Below W.heap.size W W') : DecJ w D r pre W' := by
  obtain ⟨A, c, bo, hs⟩ := h.row
  exact ⟨boxed_below h.b0 hg, boxed_below h.b1 hg, ⟨A, c, boxed_below bo hg, Kd.S_below hs hg⟩, below_then h.below h.below.size hg, below_heap hg h.loop, below_heap hg h.coll⟩
theorem DecJ.one {w W W' : World} {D : Nat} {r : Loop} {pre : List OptP} (h : DecJ w D r pre W) {q : Nat} {v : Value} (hq : Boxed W q 22 v) (hg : OneBut W W' q) (hq3 : w.heap.size + 2 < q) (hqD : q < D) : DecJ w D r pre W' := by
  obtain ⟨A, c, bo, hs⟩ := h.row
  have hm : ∀ k, k < W.heap.size → k ≠ q → W'.heap[k]? = W.heap[k]? := hg.block
  refine ⟨(hm _ h.b0.lt (by omega)).trans h.b0, (hm _ h.b1.lt (by omega)).trans h.b1, ⟨A, c, (hm _ bo.lt (by omega)).trans bo, ?_⟩, ?_, (hm _ (lt_of_heap h.loop) (by omega)).trans h.loop, (hm _ (lt_of_heap h.coll) (by omega)).trans h.coll⟩
  · exact Kd.S_mono (Kd.S_step (Kd.S_types hs hq (by decide)) (fun k hk hlt => hm k hlt hk.2)) (fun _ _ => trivial)
  · refine h.below.trans ⟨hg.os, hg.tape, hg.output, hg.size, fun k hk => hm k ?_ (by omega)⟩
    have := h.below.size; omega

/-- The answer laid, the round left. -/
theorem dec_end {w W : World} {D : Nat} {r : LoopState → Option Code → Loop} {v0 z0 : Value} {A : Option Addr} {c : Nat} {z : Int} {xs : List OptP} (c0 : Boxed W w.heap.size 26 v0) (c1 : Boxed W (w.heap.size + 1) 29 z0)
    (hS : Kd.S k39 39 W w.heap.size (fun _ => True) (.slice A xs.length c) xs) (hB : Below w.heap.size w W) (hl : W.heap[D + 1]? = some (.loop (r .busy none))) (hd : W.heap[D]? = some (.deferred (some []))) (hD : w.heap.size + 4 ≤ D) :
    ((W.setCell ⟨w.heap.size, 0, none⟩ (.slice A xs.length c)).setCell ⟨w.heap.size + 1, 0, none⟩ (.int .i64 z)).heap[D + 1]? = some (.loop (r .busy none)) ∧
      DecE w D (r .done (some .ret)) (xs, z) (((W.setCell ⟨w.heap.size, 0, none⟩ (.slice A xs.length c)).setCell ⟨w.heap.size + 1, 0, none⟩ (.int .i64 z)).putObj (D + 1) (.loop (r .done (some .ret)))) := by
  have d1 := boxed_set_other (B' := w.heap.size) (.slice A xs.length c) c1 (by omega)
  have e0 := boxed_set_other (B' := w.heap.size + 1) (.int .i64 z) (c0.set (.slice A xs.length c)) (by omega)
  have e1 := d1.set (.int .i64 z)
  have eS := Kd.S_set (Kd.S_set hS c0 (by decide) 0 (.slice A xs.length c)) d1 (by decide) 0 (.int .i64 z)
  have el := set_heap (u := .int .i64 z) d1 (set_heap (u := .slice A xs.length c) c0 hl rfl) rfl
  have ed := set_heap (u := .int .i64 z) d1 (set_heap (u := .slice A xs.length c) c0 hd rfl) rfl
  have eB := (hB.setCell (p := ⟨w.heap.size, 0, none⟩) (Nat.le_refl _) (.slice A xs.length c)).setCell (p := ⟨w.heap.size + 1, 0, none⟩) (Nat.le_succ _) (.int .i64 z)
  exact ⟨el, ⟨A, c, boxed_put e0 _ el rfl, S_put eS _ el rfl⟩, boxed_put e1 _ el rfl, below_put eB _ (by omega), put_same _ el, put_other _ (by omega) ed⟩
theorem dec_results {tmps : Array Value} {W : World} {bl be : Nat} {A : Option Addr} {n c : Nat} {z : Int} (h2 : tmps[2]? = some (.pointer (some ⟨bl, 0, none⟩))) (h3 : tmps[3]? = some (.pointer (some ⟨be, 0, none⟩)))
    (hl : Boxed W bl 26 (.slice A n c)) (hf : Boxed W be 29 (.int .i64 z)) : (results Tryd.f29 tmps).run Tryd.prog W = .ok (.tuple #[.slice A n c, .int .i64 z]) W := by
  have y1 := hl.cell
  have y2 := hf.cell
  simp [results, Tryd.results29, go_sem, h2, h3, y1, y2]

set_option maxHeartbeats 4000000 in
set_option maxRecDepth 100000 in
theorem option_Decode.calls (A0 : Option Addr) (c0 : Nat) (l0 : List Int) (r1 : List OptP) (r2 : Int) (w : World) (hr0 : Kd.C (Kd.int .u8) w A0 l0.length l0) (hc0 : l0.length ≤ c0) (h : option_Decode.f l0 = some (r1, r2)) :
    Calls Tryd.prog 29 #[.slice A0 l0.length c0] w fun e w' => ∃ v0_ : Value, e = .returned (.tuple #[v0_, .int .i64 r2]) ∧ Kd.S k39 39 w' w.heap.size (fun _ => True) v0_ r1 ∧ Below w.heap.size w w' := by
  unfold option_Decode.f at h
  split at h
  case isFalse => cases h
  rename_i hcond
  obtain ⟨hbytes, hlen⟩ := hcond
  have HRES : Hid (odR l0 = (r1, r2)) := Option.some.inj h
  clear h
  have HC := Lib.hid hr0
  have HBY := Lib.hid hbytes
  clear hr0 hbytes
  by_cases hl : 1024 < l0.length
  · have e : odR l0 = ([], 2) := by unfold odR; rw [if_pos hl]
    obtain ⟨rfl, rfl⟩ := Prod.mk.inj (e.symm.trans HRES.out)
    clear e HRES
    have p1 : ((l0.length : Int) > 1024) = True := eq_true (by omega)
    go_enter Tryd.func29, Tryd.ntmps29
    go_wp2_with fail
    refine bodyPost_ret (v := .tuple #[.slice none 0 0, .int .i64 2]) (by simp [results, Tryd.results29, go_sem]) rfl ⟨_, rfl, Kd.S_nil _ _ _ _ _, below_alloc (below_alloc (Below.refl _ _) _) _⟩
  · have p1 : ((l0.length : Int) > 1024) = False := eq_false (by omega)
    have p2 : (1024 < l0.length) = False := eq_false hl
    refine (callsIn_wide (n := 3)).1 (callsIn_of_wp_marks Tryd.func29 rfl trivial ?_ rfl)
    simp only [Tryd.ntmps29, List.size_toArray, List.length_cons, List.length_nil, Nat.reduceAdd, Nat.reduceSub, Array.replicate_succ, Array.replicate_zero, List.push_toArray, List.append_toArray, List.nil_append, List.cons_append]
    gi_wp2_with (refine ⟨trivial, ?_⟩; gi_at_call 43; refine callsIn_wide.2 ((parts_calls _ _ _ _).mono ?_); rintro e w' ⟨rfl, rfl⟩)
    obtain ⟨W0, hW0⟩ : ∃ W0, ((((w.alloc (Obj.cells #[Value.slice none 0 0] 26)).alloc (Obj.cells #[Value.int IntKind.i64 0] 29)).alloc (Obj.cells #[Value.slice none 0 0] 26)).alloc (Obj.cells #[Value.slice A0 l0.length c0] 22)) = W0 := ⟨_, rfl⟩
    have hsz : W0.heap.size = w.heap.size + 4 := by rw [← hW0]; simp
    have HSZ := Lib.hid hsz
    clear hsz
    have b0 : Boxed W0 w.heap.size 26 (.slice none 0 0) := by rw [← hW0]; exact (((Boxed.new _ _ _).alloc _).alloc _).alloc _
    have b1 : Boxed W0 (w.heap.size + 1) 29 (.int .i64 0) := by
      rw [← hW0]
      have := ((Boxed.new (w.alloc (Obj.cells #[Value.slice none 0 0] 26)) 29 (.int .i64 0)).alloc (Obj.cells #[Value.slice none 0 0] 26)).alloc (Obj.cells #[Value.slice A0 l0.length c0] 22)
      rwa [World.size_alloc] at this
    have bo : Boxed W0 (w.heap.size + 2) 26 (.slice none 0 0) := by
      rw [← hW0]
      have := (Boxed.new ((w.alloc (Obj.cells #[Value.slice none 0 0] 26)).alloc (Obj.cells #[Value.int IntKind.i64 0] 29)) 26 (.slice none 0 0)).alloc (Obj.cells #[Value.slice A0 l0.length c0] 22)
      rwa [World.size_alloc, World.size_alloc] at this
    have bB : Boxed W0 (w.heap.size + 1 + 1 + 1) 22 (.slice A0 l0.length c0) := by
      rw [← hW0]
      have := Boxed.new (((w.alloc (Obj.cells #[Value.slice none 0 0] 26)).alloc (Obj.cells #[Value.int IntKind.i64 0] 29)).alloc (Obj.cells #[Value.slice none 0 0] 26)) 22 (.slice A0 l0.length c0)
      rwa [World.size_alloc, World.size_alloc, World.size_alloc] at this
    have hB0 : Below w.heap.size w W0 := by rw [← hW0]; exact below_alloc (below_alloc (below_alloc (below_alloc (Below.refl _ _) _) _) _) _
    rw [hW0]
    clear hW0
    have hgs := fun r => rfStart_below W0 r
    refine rf_wide (gf := 49) (lb := #[.pointer (some ⟨w.heap.size + 1 + 1 + 1, 0, none⟩)]) rfl (fun args w => enters_ Tryd.func49 (by kernel_rfl) rfl args w) ?_
    intro fn r hr
    have HRR := Lib.hid hr
    clear hr
    refine (parts1_calls l0 w HBY.out hlen 3 (W0.heap.size + 1) (w.heap.size + 1 + 1 + 1) (DecJ w W0.heap.size (r .ready none)) (DecE w W0.heap.size (r .done (some .ret)) (r1, r2)) (by omega) ?hJb ?hJg ?hJs ?hY1 ?hY2 ?hY3 _ ?h0 A0 c0 HC.out hc0 (boxed_below bB (hgs _))).mono ?post
    case hJb => exact fun pre W h => h.below
    case hJg => exact fun pre W W' h hg => h.grow hg
    case hJs => exact fun pre W v u h hq => h.one hq ((OneBut.of_below (Below.refl _ _) _).set u) (by omega) (by have := HSZ.out; omega)
    case h0 => exact ⟨boxed_below b0 (hgs _), boxed_below b1 (hgs _), ⟨none, 0, boxed_below bo (hgs _), Kd.S_nil _ _ _ _ _⟩, below_then hB0 hB0.size (hgs _), rfStart_loop _ _, rfStart_def _ _⟩
    case hY1 =>
      rintro pre Wa Wb x d Ad cd As ns cs bv hJ ⟨bv0, hq⟩ hO hpl hdl hR hx0 hx1 hB
      have hJ2 := hJ.one hq hO (by omega) (by have := HSZ.out; omega)
      obtain ⟨Av, cv, bo1, hs1⟩ := hJ.row
      have hsB : Kd.S k39 39 Wb w.heap.size (fun k => k < Wa.heap.size) (.slice Av pre.length cv) pre :=
        Kd.S_mono (Kd.S_step (Kd.S_types (Kd.S_bound hs1) hq (by decide)) (fun k hk hlt => hO.block k hlt hk.2)) (fun k hk => hk.1.2.2.1)
      have bo2 : Boxed Wb (w.heap.size + 2) 26 (.slice Av pre.length cv) := (hO.block _ bo1.lt (by omega)).trans bo1
      clear hJ bo1 hs1
      have ga := below_alloc (Below.refl Wb.heap.size Wb) (.cells #[.int .i64 x, .slice Ad d.length cd] 39)
      have hJ3 := hJ2.grow ga
      have hsC := Kd.S_below hsB ga
      have bo3 := boxed_below bo2 ga
      have hR3 := Kd.R_below hR ga
      have hB3 := boxed_below hB ga
      have hX3 := blk_new Wb (.cells #[.int .i64 x, .slice Ad d.length cd] 39)
      have hla := hO.size
      have hwa : w.heap.size ≤ Wa.heap.size := by have := hq.lt; omega
      refine yieldAt_mono (rf_roundA (n := 3) (W1 := Wb.alloc (.cells #[.int .i64 x, .slice Ad d.length cd] 39)) (fun b _ W' => b = true ∧ DecJ w W0.heap.size (r .ready none) (pre ++ [⟨x, d⟩]) W' ∧ Boxed W' (w.heap.size + 1 + 1 + 1) 22 bv) HRR.out hJ2.loop hJ3.loop rfl
        { tmps := #[.slice A0 l0.length c0, undef, .pointer (some ⟨w.heap.size, 0, none⟩), .pointer (some ⟨w.heap.size + 1, 0, none⟩), .pointer (some ⟨w.heap.size + 1 + 1, 0, none⟩), .pointer (some ⟨Wb.heap.size, 0, none⟩), .slice As ns cs, .slice A0 l0.length c0, .int .i64 l0.length, .bool false, .slice A0 l0.length c0, .func (.func 49) #[] #[.pointer (some ⟨w.heap.size + 1 + 1 + 1, 0, none⟩)], .agg #[.int .i64 x, .slice Ad d.length cd], .slice As ns cs, undef, undef, undef, undef, undef, undef, undef, undef, undef, undef, undef, undef, undef, undef, undef], defers := [] } ?asg ?bdy) ?_
      case asg =>
        intro K hK
        gi_wp2
        exact hK
      case bdy =>
        clear hJ2 hsB bo2 hR hB ga
        obtain ⟨bx, hbx⟩ : ∃ b, Wb.heap.size = b := ⟨_, rfl⟩
        obtain ⟨W1, hW1⟩ : ∃ W, Wb.alloc (.cells #[.int .i64 x, .slice Ad d.length cd] 39) = W := ⟨_, rfl⟩
        rw [hbx] at hX3 hla ⊢
        rw [hW1] at hX3 hJ3 hsC bo3 hR3 hB3 ⊢
        clear hW1 hbx
        obtain ⟨Wc, hWc⟩ : ∃ Wc, W1.putObj (W0.heap.size + 1) (.loop (r .busy none)) = Wc := ⟨_, rfl⟩
        have c0' := boxed_put hJ3.b0 (.loop (r .busy none)) hJ3.loop rfl
        have c1 := boxed_put hJ3.b1 (.loop (r .busy none)) hJ3.loop rfl
        have co := boxed_put bo3 (.loop (r .busy none)) hJ3.loop rfl
        have cb := boxed_put hB3 (.loop (r .busy none)) hJ3.loop rfl
        have cS := S_put hsC (.loop (r .busy none)) hJ3.loop rfl
        have cR := R_put hR3 (.loop (r .busy none)) hJ3.loop rfl
        have cB := below_put hJ3.below (.loop (r .busy none)) (l := W0.heap.size + 1) (by have := HSZ.out; omega)
        have cl := put_same (.loop (r .busy none)) hJ3.loop
        have cd' := put_other (.loop (r .busy none)) (k := W0.heap.size) (l := W0.heap.size + 1) (by omega) hJ3.coll
        have cX := put_other (.loop (r .busy none)) (k := bx) (l := W0.heap.size + 1) (by rintro rfl; have h := hJ3.loop; rw [hX3] at h; cases h) hX3
        rw [hWc] at c0' c1 co cb cS cR cB cl cd' cX ⊢
        clear hWc hJ3 bo3 hB3 hsC hR3 hX3
        have hv0 := Kd.R_base cR
        have hu0 : ∀ k, (Value.slice Av pre.length cv).ownBlock = some k → k < Wa.heap.size := fun k hk => (Kd.S_R cS).1 k hk
        have x1 : Wc.cell? ⟨w.heap.size + 1 + 1, 0, none⟩ = _ := co.cell
        have x2 := (blk_cell cX 0).trans rfl
        have x3 := (blk_cell cX 1).trans rfl
        have q0 : (x == 0) = false := beq_eq_false_iff_ne.2 hx0
        have q1 : (x == 255) = false := beq_eq_false_iff_ne.2 hx1
        gi_wp2_with (gi_at_builtin; refine wpListIn_of_one (by intro c hc; cases hc) (fun _ _ h => h) ?_; refine Kd.S_append k39 (w0 := w) w.heap.size rfl (.tmp 25) (.tmp 27) 26 39 (.agg #[.int .i64 0, .slice none 0 0]) 32 rfl Tryd.underlying26 pinfo rfl (by decide) (by decide) (.slice Av pre.length cv) pre (⟨x, d⟩ : OptP) [.int .i64 x, .slice Ad d.length cd] (fun _ => True) (fun k => some k = (Value.slice Ad d.length cd).ownBlock) rfl rfl ?aP ?aK ?aF ?aO ?aB ?aS ?aL ?_; (case aP => exact k39_mkM _ _ _ (⟨x, d⟩ : OptP) (Kd.R_tight rfl (Kd.R_lower cR hwa))); (case aK => exact fun k hk => ⟨trivial, fun e => by have h1 := hv0 k hk.symm; have h2 := hu0 k e.symm; omega⟩); (case aF => exact fun _ _ => trivial); (case aO => exact Kd.S_mono cS (fun k hk => ⟨trivial, fun e => by have h1 := hv0 k e.symm; omega⟩)); (case aB => exact cB); (case aS => exact cB.size); (case aL => omega); intro v1 w1 ho hb hg1 hat; obtain ⟨A1, c1', rfl⟩ := Kd.S_slice ho; have d0 := c0'.kept hg1 (Kd.S_ne cS c0' (by decide)); have d1 := c1.kept hg1 (Kd.S_ne cS c1 (by decide)); have do1 := co.kept hg1 (Kd.S_ne cS co (by decide)); have db1 := cb.kept hg1 (Kd.S_ne cS cb (by decide)); have dl1 := grown_heap cS hg1 cl rfl; have dd1 := grown_heap cS hg1 cd' rfl; clear c0' c1 co cb cl cd' cS cR cB cX x1 x2 x3 hat hg1 hv0 hu0; have x1 : w1.cell? ⟨w.heap.size + 1 + 1, 0, none⟩ = _ := do1.cell; have x2 : w1.frozen? ⟨w.heap.size + 1 + 1, 0, none⟩ = _ := do1.frozen; refine wpList_back ?_)
        rw [show (pre ++ [(⟨x, d⟩ : OptP)]).length = pre.length + 1 from by simp] at ho
        have e0 := boxed_set_other (B' := w.heap.size + 2) (.slice A1 (pre.length + 1) c1') d0 (by omega)
        have e1 := boxed_set_other (B' := w.heap.size + 2) (.slice A1 (pre.length + 1) c1') d1 (by omega)
        have eo := do1.set (.slice A1 (pre.length + 1) c1')
        have eb := boxed_set_other (B' := w.heap.size + 2) (.slice A1 (pre.length + 1) c1') db1 (by omega)
        have eS := Kd.S_set ho do1 (by decide) 0 (.slice A1 (pre.length + 1) c1')
        have el := set_heap (u := .slice A1 (pre.length + 1) c1') do1 dl1 rfl
        have ed := set_heap (u := .slice A1 (pre.length + 1) c1') do1 dd1 rfl
        have eB := hb.setCell (p := ⟨w.heap.size + 2, 0, none⟩) (show w.heap.size ≤ w.heap.size + 2 by omega) (.slice A1 (pre.length + 1) c1')
        refine ⟨el, rfl, ⟨boxed_put e0 _ el rfl, boxed_put e1 _ el rfl, ⟨A1, c1', ?_, ?_⟩, below_put eB _ (by have := HSZ.out; omega), put_same _ el, put_other _ (by omega) ed⟩, boxed_put eb _ el rfl⟩
        · rw [show (pre ++ [(⟨x, d⟩ : OptP)]).length = pre.length + 1 from by simp]; exact boxed_put eo _ el rfl
        · rw [show (pre ++ [(⟨x, d⟩ : OptP)]).length = pre.length + 1 from by simp]; exact S_put eS _ el rfl
      rintro e W' ⟨b, j, rfl, ⟨rfl, hJ4, hB4⟩, _⟩
      exact ⟨rfl, hJ4, hB4⟩
    case hY2 =>
      intro pre Wb rs As cs hJ hCr hcr hgo
      have ga := below_alloc (Below.refl Wb.heap.size Wb) (.cells #[.int .i64 255, .slice none 0 0] 39)
      have hJ3 := hJ.grow ga
      have hX3 := blk_new Wb (.cells #[.int .i64 255, .slice none 0 0] 39)
      refine yieldAt_mono (rf_roundA (n := 3) (W1 := Wb.alloc (.cells #[.int .i64 255, .slice none 0 0] 39)) (fun b _ W' => b = false ∧ DecE w W0.heap.size (r .done (some .ret)) (r1, r2) W') HRR.out hJ.loop hJ3.loop rfl
        { tmps := #[.slice A0 l0.length c0, undef, .pointer (some ⟨w.heap.size, 0, none⟩), .pointer (some ⟨w.heap.size + 1, 0, none⟩), .pointer (some ⟨w.heap.size + 1 + 1, 0, none⟩), .pointer (some ⟨Wb.heap.size, 0, none⟩), .slice As rs.length cs, .slice A0 l0.length c0, .int .i64 l0.length, .bool false, .slice A0 l0.length c0, .func (.func 49) #[] #[.pointer (some ⟨w.heap.size + 1 + 1 + 1, 0, none⟩)], .agg #[.int .i64 255, .slice none 0 0], .slice As rs.length cs, undef, undef, undef, undef, undef, undef, undef, undef, undef, undef, undef, undef, undef, undef, undef], defers := [] } ?asg2 ?bdy2) ?_
      case asg2 =>
        intro K hK
        gi_wp2
        exact hK
      case bdy2 =>
        obtain ⟨bx, hbx⟩ : ∃ b, Wb.heap.size = b := ⟨_, rfl⟩
        obtain ⟨W1, hW1⟩ : ∃ W, Wb.alloc (.cells #[.int .i64 255, .slice none 0 0] 39) = W := ⟨_, rfl⟩
        rw [hbx] at hX3 ⊢
        rw [hW1] at hX3 hJ3 ⊢
        clear hW1 hbx ga hJ
        obtain ⟨Wc, hWc⟩ : ∃ Wc, W1.putObj (W0.heap.size + 1) (.loop (r .busy none)) = Wc := ⟨_, rfl⟩
        obtain ⟨Av, cv, bo3, hs3⟩ := hJ3.row
        have c0' := boxed_put hJ3.b0 (.loop (r .busy none)) hJ3.loop rfl
        have c1 := boxed_put hJ3.b1 (.loop (r .busy none)) hJ3.loop rfl
        have co := boxed_put bo3 (.loop (r .busy none)) hJ3.loop rfl
        have cS := S_put hs3 (.loop (r .busy none)) hJ3.loop rfl
        have cB := below_put hJ3.below (.loop (r .busy none)) (l := W0.heap.size + 1) (by have := HSZ.out; omega)
        have cl := put_same (.loop (r .busy none)) hJ3.loop
        have cd' := put_other (.loop (r .busy none)) (k := W0.heap.size) (l := W0.heap.size + 1) (by omega) hJ3.coll
        have cX := put_other (.loop (r .busy none)) (k := bx) (l := W0.heap.size + 1) (by rintro rfl; have h := hJ3.loop; rw [hX3] at h; cases h) hX3
        rw [hWc] at c0' c1 co cS cB cl cd' cX ⊢
        clear hWc hJ3 bo3 hs3 hX3
        have x2 := (blk_cell cX 0).trans rfl
        have x4 := c0'.cell
        have x5 := c0'.frozen
        have x6 : ∀ u, (Wc.setCell ⟨w.heap.size, 0, none⟩ u).cell? ⟨w.heap.size + 1, 0, none⟩ = some (.int .i64 0) := fun u => (boxed_set_other (B' := w.heap.size) u c1 (by omega)).cell
        have x7 : ∀ u, (Wc.setCell ⟨w.heap.size, 0, none⟩ u).frozen? ⟨w.heap.size + 1, 0, none⟩ = false := fun u => (boxed_set_other (B' := w.heap.size) u c1 (by omega)).frozen
        gi_wp2_with fail
        refine ⟨trivial, CallsIn.inRound _ (callsIn_wide.2 ((trim_calls As cs rs Wc (Kd.C_below hCr cB) hcr).mono ?_))⟩
        rintro e W4 ⟨A', n', c', rfl, hn, hb4⟩
        have e0 := boxed_below c0' hb4
        have e1 := boxed_below c1 hb4
        have eo := boxed_below co hb4
        have eS := Kd.S_below cS hb4
        have eB := below_then cB cB.size hb4
        have el := below_heap hb4 cl
        have ed := below_heap hb4 cd'
        clear x2 x4 x5 x6 x7 c0' c1 co cS cB cl cd' cX hb4
        have x1 : W4.cell? ⟨w.heap.size + 1 + 1, 0, none⟩ = _ := eo.cell
        have x4 := e0.cell
        have x5 := e0.frozen
        have x6 : ∀ u, (W4.setCell ⟨w.heap.size, 0, none⟩ u).cell? ⟨w.heap.size + 1, 0, none⟩ = some (.int .i64 0) := fun u => (boxed_set_other (B' := w.heap.size) u e1 (by omega)).cell
        have x7 : ∀ u, (W4.setCell ⟨w.heap.size, 0, none⟩ u).frozen? ⟨w.heap.size + 1, 0, none⟩ = false := fun u => (boxed_set_other (B' := w.heap.size) u e1 (by omega)).frozen
        by_cases hn0 : n' = 0
        · subst hn0
          have e : odR l0 = (pre, 0) := by unfold odR; rw [if_neg hl, hgo]; simp only; rw [if_pos (hn.1 rfl)]
          obtain ⟨rfl, rfl⟩ := Prod.mk.inj (e.symm.trans HRES.out)
          have hE := dec_end (r := r) (D := W0.heap.size) (z := 0) e0 e1 eS eB el ed (by have := HSZ.out; omega)
          have HE := Lib.hid hE
          clear e hE hn hgo
          gi_wp2_with fail
          exact ⟨HE.out.1, rfl, HE.out.2⟩
        · have e : odR l0 = ([], 2) := by unfold odR; rw [if_neg hl, hgo]; simp only; rw [if_neg (fun h => hn0 (hn.2 h))]
          obtain ⟨rfl, rfl⟩ := Prod.mk.inj (e.symm.trans HRES.out)
          have hE := dec_end (r := r) (D := W0.heap.size) (z := 2) (xs := []) e0 e1 (Kd.S_nil k39 39 W4 w.heap.size (fun _ => True)) eB el ed (by have := HSZ.out; omega)
          have HE := Lib.hid hE
          have g1 : ((n' : Int) > 0) = True := eq_true (by omega)
          have g2 : (0 < n') = True := eq_true (by omega)
          clear e hE hn hgo hn0
          gi_wp2_with fail
          exact ⟨HE.out.1, rfl, HE.out.2⟩
      rintro e W' ⟨b, j, rfl, ⟨rfl, hE⟩, _⟩
      exact ⟨⟨_, rfl⟩, hE⟩
    case hY3 =>
      intro pre Wb hJ hgo
      have ga := below_alloc (Below.refl Wb.heap.size Wb) (.cells #[.int .i64 0, .slice none 0 0] 39)
      have hJ3 := hJ.grow ga
      have hX3 := blk_new Wb (.cells #[.int .i64 0, .slice none 0 0] 39)
      refine yieldAt_mono (rf_roundA (n := 3) (W1 := Wb.alloc (.cells #[.int .i64 0, .slice none 0 0] 39)) (fun b _ W' => b = false ∧ DecE w W0.heap.size (r .done (some .ret)) (r1, r2) W') HRR.out hJ.loop hJ3.loop rfl
        { tmps := #[.slice A0 l0.length c0, undef, .pointer (some ⟨w.heap.size, 0, none⟩), .pointer (some ⟨w.heap.size + 1, 0, none⟩), .pointer (some ⟨w.heap.size + 1 + 1, 0, none⟩), .pointer (some ⟨Wb.heap.size, 0, none⟩), .slice none 0 0, .slice A0 l0.length c0, .int .i64 l0.length, .bool false, .slice A0 l0.length c0, .func (.func 49) #[] #[.pointer (some ⟨w.heap.size + 1 + 1 + 1, 0, none⟩)], .agg #[.int .i64 0, .slice none 0 0], .slice none 0 0, undef, undef, undef, undef, undef, undef, undef, undef, undef, undef, undef, undef, undef, undef, undef], defers := [] } ?asg3 ?bdy3) ?_
      case asg3 =>
        intro K hK
        gi_wp2
        exact hK
      case bdy3 =>
        obtain ⟨bx, hbx⟩ : ∃ b, Wb.heap.size = b := ⟨_, rfl⟩
        obtain ⟨W1, hW1⟩ : ∃ W, Wb.alloc (.cells #[.int .i64 0, .slice none 0 0] 39) = W := ⟨_, rfl⟩
        rw [hbx] at hX3 ⊢
        rw [hW1] at hX3 hJ3 ⊢
        clear hW1 hbx ga hJ
        obtain ⟨Wc, hWc⟩ : ∃ Wc, W1.putObj (W0.heap.size + 1) (.loop (r .busy none)) = Wc := ⟨_, rfl⟩
        obtain ⟨Av, cv, bo3, hs3⟩ := hJ3.row
        have c0' := boxed_put hJ3.b0 (.loop (r .busy none)) hJ3.loop rfl
        have c1 := boxed_put hJ3.b1 (.loop (r .busy none)) hJ3.loop rfl
        have co := boxed_put bo3 (.loop (r .busy none)) hJ3.loop rfl
        have cS := S_put hs3 (.loop (r .busy none)) hJ3.loop rfl
        have cB := below_put hJ3.below (.loop (r .busy none)) (l := W0.heap.size + 1) (by have := HSZ.out; omega)
        have cl := put_same (.loop (r .busy none)) hJ3.loop
        have cd' := put_other (.loop (r .busy none)) (k := W0.heap.size) (l := W0.heap.size + 1) (by omega) hJ3.coll
        have cX := put_other (.loop (r .busy none)) (k := bx) (l := W0.heap.size + 1) (by rintro rfl; have h := hJ3.loop; rw [hX3] at h; cases h) hX3
        rw [hWc] at c0' c1 co cS cB cl cd' cX ⊢
        clear hWc hJ3 bo3 hs3 hX3
        have x2 := (blk_cell cX 0).trans rfl
        have x4 := c0'.cell
        have x5 := c0'.frozen
        have x6 : ∀ u, (Wc.setCell ⟨w.heap.size, 0, none⟩ u).cell? ⟨w.heap.size + 1, 0, none⟩ = some (.int .i64 0) := fun u => (boxed_set_other (B' := w.heap.size) u c1 (by omega)).cell
        have x7 : ∀ u, (Wc.setCell ⟨w.heap.size, 0, none⟩ u).frozen? ⟨w.heap.size + 1, 0, none⟩ = false := fun u => (boxed_set_other (B' := w.heap.size) u c1 (by omega)).frozen
        have e : odR l0 = ([], 2) := by unfold odR; rw [if_neg hl, hgo]
        obtain ⟨rfl, rfl⟩ := Prod.mk.inj (e.symm.trans HRES.out)
        gi_wp2_with fail
        have hE := dec_end (r := r) (D := W0.heap.size) (z := 2) (xs := []) c0' c1 (Kd.S_nil k39 39 Wc w.heap.size (fun _ => True)) cB cl cd' (by have := HSZ.out; omega)
        exact ⟨hE.1, rfl, hE.2⟩
      rintro e W' ⟨b, j, rfl, ⟨rfl, hE⟩, _⟩
      exact ⟨⟨_, rfl⟩, hE⟩
    case post =>
      rintro e W ⟨⟨v, rfl⟩, hE⟩
      refine ⟨⟨v, rfl⟩, .inr ⟨.ret, hE.loop, ?_⟩⟩
      obtain ⟨Av, cv, bo3, hs3⟩ := hE.row
      have c0' := boxed_put bo3 (.loop (r .exhausted (some .ret))) hE.loop rfl
      have c1 := boxed_put hE.b1 (.loop (r .exhausted (some .ret))) hE.loop rfl
      have cS := S_put hs3 (.loop (r .exhausted (some .ret))) hE.loop rfl
      have cB := below_put hE.below (.loop (r .exhausted (some .ret))) (l := W0.heap.size + 1) (by have := HSZ.out; omega)
      have cd' := put_other (.loop (r .exhausted (some .ret))) (k := W0.heap.size) (l := W0.heap.size + 1) (by omega) hE.coll
      obtain ⟨Wc, hWc⟩ : ∃ Wc, W.putObj (W0.heap.size + 1) (.loop (r .exhausted (some .ret))) = Wc := ⟨_, rfl⟩
      rw [hWc] at c0' c1 cS cB cd' ⊢
      clear hWc hE bo3 hs3
      gi_wp2
      refine ⟨by simp, .inl ⟨_, _, rfl, run_takeDeferred cd', ?_⟩⟩
      exact ⟨_, dec_results rfl rfl (boxed_put c0' _ cd' rfl) (boxed_put c1 _ cd' rfl), _, rfl, S_put cS _ cd' rfl, below_put cB _ (by have := HSZ.out; omega)⟩
end Go.Proofs.YtmbfdmceameghaaDoor
end

section
-- written by a program of this session (wip/tools/gen.py) over the kit's print
namespace Go.Proofs.YtmbfdmceameghaaDoor.Pr
open Go.RowKit Go.Proofs.YtmbfdmceameghaaDoorW.PrintWords Go.Proofs.YtmbfdmceameghaaDoorW.PrintLast Go.Proofs.YtmbfdmceameghaaDoorW.PrintMore
attribute [local go_sem] max2_int min2_int max_two min_two max_three min_three max_four min_four   -- for this text's walks alone
set_option linter.unusedVariables false
set_option linter.unusedSimpArgs false

/-! ### lessorref02_Few: function 17 -/
def lessorref02_Few.l0 : Nat → List (S39) → Int → Option (Bool)
 | 0, _, _ => none
 | k + 1, x0, x3 => if x3 < (x0.length : Int) then (if 0 ≤ x3 then (if (((rd_T39 x0 x3).f1).length : Int) > 1000 then (some false) else (lessorref02_Few.l0 k x0 (wrap64 (x3 + 1)))) else (none)) else (some true)
def lessorref02_Few.f (k : Nat) (l0 : List (S39)) : Option (Bool) := if (l0.length : Int) > 100 then (some false) else (lessorref02_Few.l0 k l0 0)
theorem lessorref02_Few.mono_l : ∀ k, (∀ y0 y1, LeO (lessorref02_Few.l0 k y0 y1) (lessorref02_Few.l0 (k + 1) y0 y1))
 | 0 => fun _ _ r h => by simp [lessorref02_Few.l0] at h
 | k + 1 => by
  have ih0 := lessorref02_Few.mono_l k
  ·intro y0 y1
   unfold lessorref02_Few.l0
   repeat' first
   | (with_reducible exact ih0 _ _)
   | (with_reducible exact LeO.refl _)
   | (with_reducible exact LeO.none _)
   | (with_reducible refine LeO.ite ?_ ?_)
   | (with_reducible refine LeO.bind ?_ (fun _ => ?_))
   | exact ih0 _ _
   | exact LeO.none _
   | refine LeO.ite ?_ ?_
   | refine LeO.bind ?_ (fun _ => ?_)
theorem lessorref02_Few.mono : ∀ a0 k, LeO (lessorref02_Few.f k a0) (lessorref02_Few.f (k + 1) a0) := by
 intro a0 k
 have ih0 := lessorref02_Few.mono_l k
 unfold lessorref02_Few.f
 repeat' first
   | (with_reducible exact ih0 _ _)
   | (with_reducible exact LeO.refl _)
   | (with_reducible exact LeO.none _)
   | (with_reducible refine LeO.ite ?_ ?_)
   | (with_reducible refine LeO.bind ?_ (fun _ => ?_))
   | exact ih0 _ _
   | exact LeO.none _
   | refine LeO.ite ?_ ?_
   | refine LeO.bind ?_ (fun _ => ?_)
set_option maxHeartbeats 8000000 in
set_option maxRecDepth 100000 in
theorem lessorref02_Few.calls (k : Nat) (A0 : Option Addr) (c0 : Nat) (l0 : List (S39)) (r : Bool) (w : World) (hr0 : Kd.C k39 w A0 l0.length l0) (hc0 : l0.length ≤ c0) (h : lessorref02_Few.f k l0 = some r) :
  Calls Tryd.prog 17 #[.slice A0 l0.length c0] w fun e w' => e = .returned (.bool r) ∧ Drawn0 w w' := by
 have HR0 := Aside0.mk hr0
 have HC0 := Aside0.mk hc0
 clear hr0 hc0
 have H : (if (l0.length : Int) > 100 then (some false) else (lessorref02_Few.l0 k l0 0)) = some r := h
 clear h
 by_cases c2 : (l0.length : Int) > 100
 ·rw [if_pos c2] at H
  have c2b0 : decide (100 < (l0.length : Int)) = true := decide_eq_true c2
  have c2b1 : decide (100 < l0.length) = true := decide_eq_true (by omega)
  clear c2
  obtain rfl := Option.some.inj H
  go_enter Tryd.func17, Tryd.ntmps17
  go_wp2
  go_ret
  exact ⟨by first | rfl | (simp; done) | (simp [*]; done), by repeat (first | exact Drawn0.refl _ | apply Drawn0.step)⟩
 ·rw [if_neg c2] at H
  have c2b0 : decide (100 < (l0.length : Int)) = false := decide_eq_false c2
  have c2b1 : decide (100 < l0.length) = false := decide_eq_false (by omega)
  clear c2
  have H' := Aside0.mk H
  clear H
  go_enter Tryd.func17, Tryd.ntmps17
  go_wp2
  go_loopg [3] k (fun kq v3 w' => ∃ (x3_1 : Int), v3 = .int .i64 x3_1 ∧ Aside0 (lessorref02_Few.l0 kq l0 x3_1 = some r) ∧ Aside0 (kq ≤ k) ∧ Drawn0 w w')
  case atStart => exact ⟨(0), (by first | rfl | (simp; done) | (simp [*]; done)), H', ⟨Nat.le_refl _⟩, by repeat (first | exact Drawn0.refl _ | apply Drawn0.step)⟩
  case round =>
   clear H'
   try clear c1
   try clear c2
   try clear c2b0
   try clear c2b1
   try clear p2
   obtain ⟨x3_1, rfl, HA, HK1, ⟨m1, rfl⟩⟩ := hrel
   cases gk with
   | zero => exact absurd HA.out (by simp [lessorref02_Few.l0])
   | succ k1 =>
    have H := HA.out
    clear HA
    simp only [lessorref02_Few.l0] at H
    by_cases c3 : x3_1 < (l0.length : Int)
    ·rw [if_pos c3] at H
     have c3b0 : decide (x3_1 < (l0.length : Int)) = true := decide_eq_true c3
     clear c3
     by_cases c4 : 0 ≤ x3_1
     ·rw [if_pos c4] at H
      have c4b0 : decide (0 ≤ x3_1) = true := decide_eq_true c4
      clear c4
      by_cases c5 : (((rd_T39 l0 x3_1).f1).length : Int) > 1000
      ·rw [if_pos c5] at H
       have c5b0 : decide (1000 < (((rd_T39 l0 x3_1).f1).length : Int)) = true := decide_eq_true c5
       have c5b1 : decide (1000 < ((rd_T39 l0 x3_1).f1).length) = true := decide_eq_true (by omega)
       clear c5
       obtain rfl := Option.some.inj H
       have p317 : 0 ≤ (x3_1 : Int) := of_decide_eq_true (by first | (with_reducible assumption) | assumption)
       have q317 : x3_1 < (l0.length : Int) := of_decide_eq_true (by first | (with_reducible assumption) | assumption)
       obtain ⟨ad317, A317_1, c317_1, e317, hx317_0, hx317_1, hl317_1, hi317_1⟩ := at_T39 HR0.out x3_1 p317 q317
       cases e317
       have HR317_1 := Aside0.mk hi317_1
       have HC317_1 := Aside0.mk hl317_1
       clear hi317_1 hl317_1
       replace p317 := eq_true p317
       replace q317 := eq_true q317
       go_wp2
       go_ret
       exact ⟨by first | rfl | (simp; done) | (simp [*]; done), by repeat (first | exact Drawn0.refl _ | apply Drawn0.step)⟩
      ·rw [if_neg c5] at H
       have c5b0 : decide (1000 < (((rd_T39 l0 x3_1).f1).length : Int)) = false := decide_eq_false c5
       have c5b1 : decide (1000 < ((rd_T39 l0 x3_1).f1).length) = false := decide_eq_false (by omega)
       clear c5
       have H' := Aside0.mk H
       clear H
       have p317 : 0 ≤ (x3_1 : Int) := of_decide_eq_true (by first | (with_reducible assumption) | assumption)
       have q317 : x3_1 < (l0.length : Int) := of_decide_eq_true (by first | (with_reducible assumption) | assumption)
       obtain ⟨ad317, A317_1, c317_1, e317, hx317_0, hx317_1, hl317_1, hi317_1⟩ := at_T39 HR0.out x3_1 p317 q317
       cases e317
       have HR317_1 := Aside0.mk hi317_1
       have HC317_1 := Aside0.mk hl317_1
       clear hi317_1 hl317_1
       replace p317 := eq_true p317
       replace q317 := eq_true q317
       go_wp2
       go_roundg k1
       case measure => have := HK1.out; omega
       case rel => exact ⟨(wrap64 (x3_1 + 1)), (by first | rfl | (simp; done) | (simp [*]; done)), H', ⟨by have := HK1.out; omega⟩, by repeat (first | exact Drawn0.refl _ | apply Drawn0.step)⟩
     ·rw [if_neg c4] at H
      exact absurd H (by simp)
    ·rw [if_neg c3] at H
     have c3b0 : decide (x3_1 < (l0.length : Int)) = false := decide_eq_false c3
     clear c3
     obtain rfl := Option.some.inj H
     go_wp2
     go_ret
     exact ⟨by first | rfl | (simp; done) | (simp [*]; done), by repeat (first | exact Drawn0.refl _ | apply Drawn0.step)⟩

end Go.Proofs.YtmbfdmceameghaaDoor.Pr
end

section
namespace Go.Proofs.YtmbfdmceameghaaDoor.PD
open Go.RowKit Go.Proofs.YtmbfdmceameghaaDoor Go.Proofs.YtmbfdmceameghaaDoor.Pr Go.Proofs.YtmbfdmceameghaaDoorW.PrintWords Go.Proofs.YtmbfdmceameghaaDoorW.PrintLast Go.Proofs.YtmbfdmceameghaaDoorW.PrintMore
set_option linter.unusedVariables false
set_option linter.unusedSimpArgs false

abbrev Opt := S39
theorem wrapO {x : Int} (h0 : 0 ≤ x) (h1 : x < 9223372036854775808) : wrap64 x = x := by unfold wrap64; omega
theorem rd_at (l : List Opt) {i : Nat} (h : i < l.length) : rd_T39 l (i : Int) = l[i] := by
  unfold rd_T39
  rw [Int.toNat_natCast, List.getD_eq_getElem?_getD, List.getElem?_eq_getElem h]
  rfl

def okOpt (x : Opt) : Prop := 1 ≤ x.f0 ∧ x.f0 ≤ 254 ∧ x.f1.length ≤ 255
instance (x : Opt) : Decidable (okOpt x) := by unfold okOpt; infer_instance
def enc1 (x : Opt) : List Int := [x.f0 % 256, (x.f1.length : Int) % 256] ++ x.f1
def enc (l : List Opt) : List Int := (l.map enc1).flatten
def encR (l : List Opt) : List Int × Int := if ∀ x ∈ l, okOpt x then (if 1024 ≤ (enc l).length then ([], 3) else (enc l ++ [255], 0)) else ([], 1)
def few (l : List Opt) : Prop := l.length ≤ 100 ∧ ∀ x ∈ l, x.f1.length ≤ 1000
theorem enc_append (l m : List Opt) : enc (l ++ m) = enc l ++ enc m := by simp [enc]
theorem enc_one (x : Opt) : enc [x] = enc1 x := by simp [enc]
theorem enc1_len (x : Opt) : (enc1 x).length = x.f1.length + 2 := by simp [enc1]
theorem enc_len_le : ∀ (l : List Opt), (∀ x ∈ l, x.f1.length ≤ 1000) → (enc l).length ≤ l.length * 1002 := by
  intro l
  induction l with
  | nil => intro _; simp [enc]
  | cons x l ih =>
    intro h
    have h1 := ih (fun y hy => h y (by simp [hy]))
    have h2 := h x (by simp)
    have e : enc (x :: l) = enc1 x ++ enc l := by simp [enc]
    rw [e, List.length_append, enc1_len, List.length_cons]
    omega
theorem enc_take_le (l : List Opt) (i : Nat) : (enc (l.take i)).length ≤ (enc l).length := by
  have : enc l = enc (l.take i) ++ enc (l.drop i) := by rw [← enc_append, List.take_append_drop]
  rw [this, List.length_append]; omega

/-! ### option.Encode -/
theorem odd_eq (x : Opt) : option_Encode_1.f x.f0 x.f1 = some (!decide (okOpt x)) := by
  unfold option_Encode_1.f
  by_cases ok : okOpt x
  · rw [decide_eq_true ok]
    unfold okOpt at ok
    rw [if_neg (by omega), if_neg (by omega), decide_eq_false (by omega)]
    rfl
  · rw [decide_eq_false ok]
    unfold okOpt at ok
    split
    · rfl
    · split
      · rfl
      · rw [decide_eq_true (by omega)]
        rfl
theorem index_spec (l : List Opt) (hl : l.length ≤ 1000000) : ∀ (d i k : Nat), l.length ≤ i + d → i ≤ l.length → d < k →
    ∃ r : Int, slices_IndexFunc.l0 k l (l.length : Int) (i : Int) = some r ∧ ((0 ≤ r ∧ ∃ x ∈ l.drop i, ¬ okOpt x) ∨ (r < 0 ∧ ∀ x ∈ l.drop i, okOpt x)) := by
  intro d
  induction d with
  | zero =>
    intro i k h1 h2 hk
    obtain ⟨k, rfl⟩ : ∃ m, k = m + 1 := ⟨k - 1, by omega⟩
    refine ⟨-1, ?_, .inr ⟨by omega, ?_⟩⟩
    · simp only [slices_IndexFunc.l0]; rw [if_neg (by omega)]
    · rw [List.drop_of_length_le (by omega)]; simp
  | succ d ih =>
    intro i k h1 h2 hk
    obtain ⟨k, rfl⟩ : ∃ m, k = m + 1 := ⟨k - 1, by omega⟩
    by_cases h : i < l.length
    · simp only [slices_IndexFunc.l0]
      rw [if_pos (by omega), if_pos (by omega), if_pos (by omega), rd_at l h, odd_eq]
      simp only [Option.bind_some]
      rw [List.drop_eq_getElem_cons h]
      by_cases ok : okOpt l[i]
      · rw [decide_eq_true ok, wrapO (by omega) (by omega)]
        obtain ⟨r, hr, hs⟩ := ih (i + 1) k (by omega) (by omega) (by omega)
        refine ⟨r, by simpa using (show slices_IndexFunc.l0 k l (l.length : Int) ((i : Int) + 1) = some r from hr), ?_⟩
        rcases hs with ⟨a, x, hx, b⟩ | ⟨a, b⟩
        · exact .inl ⟨a, x, List.mem_cons_of_mem _ hx, b⟩
        · exact .inr ⟨a, fun x hx => by
            rcases List.mem_cons.1 hx with rfl | hx
            · exact ok
            · exact b x hx⟩
      · rw [decide_eq_false ok]
        exact ⟨i, by simp, .inl ⟨by omega, l[i], List.mem_cons_self, ok⟩⟩
    · refine ⟨-1, ?_, .inr ⟨by omega, ?_⟩⟩
      · simp only [slices_IndexFunc.l0]; rw [if_neg (by omega)]
      · rw [List.drop_of_length_le (by omega)]; simp
theorem contains_eq (l : List Opt) (hl : l.length ≤ 1000000) (a : Int) (k : Nat) (hk : l.length < k) : slices_ContainsFunc.f k l a = some (!decide (∀ x ∈ l, okOpt x)) := by
  obtain ⟨r, hr, hs⟩ := index_spec l hl l.length 0 k (by omega) (by omega) hk
  unfold slices_ContainsFunc.f slices_IndexFunc.f
  rw [show ((0 : Nat) : Int) = 0 from rfl] at hr
  rw [hr]
  simp only [Option.bind_some]
  rw [List.drop_zero] at hs
  rcases hs with ⟨h1, x, hx, h2⟩ | ⟨h1, h2⟩
  · rw [decide_eq_true (by omega), decide_eq_false (fun h => h2 (h x hx))]; rfl
  · rw [decide_eq_false (by omega), decide_eq_true h2]; rfl
theorem encode_loop (l : List Opt) (hf : few l) : ∀ (d i k : Nat), l.length ≤ i + d → i ≤ l.length → d < k →
    option_Encode.l0 k (enc (l.take i)) l (l.length : Int) (i : Int) = some (if 1024 ≤ (enc l).length then ([], 3) else (enc l ++ [255], 0)) := by
  obtain ⟨hn, hx⟩ := hf
  have hel := enc_len_le l hx
  have hel' : (enc l).length ≤ 100200 := by omega
  intro d
  induction d with
  | zero =>
    intro i k h1 h2 hk
    obtain ⟨k, rfl⟩ : ∃ m, k = m + 1 := ⟨k - 1, by omega⟩
    simp only [option_Encode.l0]
    rw [if_neg (by omega), List.take_of_length_le (by omega), if_pos (by omega)]
    simp only [Option.bind_some]
    by_cases c : 1024 ≤ (enc l).length
    · rw [if_pos (by simp; omega), if_pos c]
    · rw [if_neg (by simp; omega), if_neg c]
  | succ d ih =>
    intro i k h1 h2 hk
    obtain ⟨k, rfl⟩ : ∃ m, k = m + 1 := ⟨k - 1, by omega⟩
    by_cases h : i < l.length
    · simp only [option_Encode.l0]
      have ht := enc_take_le l i
      have ht1 := enc_take_le l (i + 1)
      have hx1 := hx l[i] (List.getElem_mem h)
      rw [if_pos (by omega), if_pos (by omega), if_pos (by omega), rd_at l h]
      simp only [Option.bind_some]
      rw [if_pos (by simp; omega), if_pos (by simp; omega), wrapO (by omega) (by omega)]
      have e : enc (l.take i) ++ [l[i].f0 % 256, (l[i].f1.length : Int) % 256] ++ l[i].f1 = enc (l.take (i + 1)) := by
        rw [List.take_succ_eq_append_getElem h, enc_append, enc_one, enc1, List.append_assoc]
      rw [e]
      exact ih (i + 1) k (by omega) (by omega) (by omega)
    · obtain rfl : i = l.length := by omega
      simp only [option_Encode.l0]
      rw [if_neg (by omega), List.take_of_length_le (by omega), if_pos (by omega)]
      simp only [Option.bind_some]
      by_cases c : 1024 ≤ (enc l).length
      · rw [if_pos (by simp; omega), if_pos c]
      · rw [if_neg (by simp; omega), if_neg c]
theorem encode_eq (l : List Opt) (hf : few l) (k : Nat) (hk : 101 ≤ k) : option_Encode.f k l = some (encR l) := by
  have hn := hf.1
  unfold option_Encode.f encR
  rw [contains_eq l (by omega) _ k (by omega)]
  simp only [Option.bind_some]
  by_cases ok : ∀ x ∈ l, okOpt x
  · rw [decide_eq_true ok, if_neg (by decide), if_pos ok]
    exact encode_loop l hf l.length 0 k (by omega) (by omega) (by omega)
  · rw [decide_eq_false ok, if_pos (by decide), if_neg ok]

/-! ### few -/
/-! ### the same lists -/
theorem same_loop (l : List Opt) (hl : l.length ≤ 1000000) : ∀ (d i k : Nat), l.length ≤ i + d → i ≤ l.length → d < k → lessorref02_Same.l0 k l l (i : Int) = some true := by
  intro d
  induction d with
  | zero =>
    intro i k h1 h2 hk
    obtain ⟨k, rfl⟩ : ∃ m, k = m + 1 := ⟨k - 1, by omega⟩
    simp only [lessorref02_Same.l0]
    rw [if_neg (by omega)]
  | succ d ih =>
    intro i k h1 h2 hk
    obtain ⟨k, rfl⟩ : ∃ m, k = m + 1 := ⟨k - 1, by omega⟩
    by_cases h : i < l.length
    · simp only [lessorref02_Same.l0]
      rw [if_pos (by omega), if_pos (by omega), if_pos (by omega)]
      simp only [if_true]
      rw [show wrap64 ((i : Int) + 1) = ((i + 1 : Nat) : Int) from by unfold wrap64; omega]
      exact ih (i + 1) k (by omega) (by omega) (by omega)
    · obtain rfl : i = l.length := by omega
      simp only [lessorref02_Same.l0]
      rw [if_neg (by omega)]
theorem same_refl (l : List Opt) (hl : l.length ≤ 1000000) (k : Nat) (hk : l.length < k) : lessorref02_Same.f k l l = some true := by
  unfold lessorref02_Same.f
  rw [if_pos rfl]
  exact same_loop l hl l.length 0 k (by omega) (by omega) hk
/-! ### Decode -/
theorem rd_of {l : List Int} {i : Nat} (h : i < l.length) : rd l (i : Int) = l[i] := by
  unfold rd
  rw [Int.toNat_natCast, List.getD_eq_getElem?_getD, List.getElem?_eq_getElem h]
  rfl
theorem wf_byte {x : Int} (h : (Lit.int .u8 x).wf = true) : 0 ≤ x ∧ x ≤ 255 := by
  simp only [Lit.wf, IntKind.min, IntKind.max, IntKind.signed, IntKind.bits, Bool.and_eq_true, decide_eq_true_eq] at h
  have h1 : (IntKind.u8.min : Int) = 0 := rfl
  have h2 : (IntKind.u8.max : Int) = 255 := rfl
  first | exact h | (simp_all; done) | (simp_all; omega)
theorem zero_loop (l : List Int) (hl : l.length ≤ 1000000) : ∀ (d i k : Nat), l.length ≤ i + d → i ≤ l.length → d < k → lessorref02_zero.l0 k l (i : Int) = some (decide (∀ x ∈ l.drop i, x = 0)) := by
  intro d
  induction d with
  | zero =>
    intro i k h1 h2 hk
    obtain ⟨k, rfl⟩ : ∃ m, k = m + 1 := ⟨k - 1, by omega⟩
    simp only [lessorref02_zero.l0]
    rw [if_neg (by omega), List.drop_of_length_le (by omega)]
    simp
  | succ d ih =>
    intro i k h1 h2 hk
    obtain ⟨k, rfl⟩ : ∃ m, k = m + 1 := ⟨k - 1, by omega⟩
    by_cases h : i < l.length
    · simp only [lessorref02_zero.l0]
      rw [if_pos (by omega), if_pos (by omega), rd_of h, List.drop_eq_getElem_cons h, wrapO (by omega) (by omega)]
      by_cases c : l[i] = 0
      · rw [if_pos c]
        have := ih (i + 1) k (by omega) (by omega) (by omega)
        rw [show ((i : Int) + 1) = ((i + 1 : Nat) : Int) from rfl, this]
        congr 1
        rw [decide_eq_decide]
        constructor
        · intro hh x hx
          rcases List.mem_cons.1 hx with rfl | hx
          · exact c
          · exact hh x hx
        · intro hh x hx; exact hh x (List.mem_cons_of_mem _ hx)
      · rw [if_neg c, decide_eq_false (fun hh => c (hh _ List.mem_cons_self))]
    · simp only [lessorref02_zero.l0]
      rw [if_neg (by omega), List.drop_of_length_le (by omega)]
      simp
theorem zero_eq (l : List Int) (hl : l.length ≤ 1000000) (k : Nat) (hk : l.length < k) : lessorref02_zero.f k l = some (decide (∀ x ∈ l, x = 0)) := by
  unfold lessorref02_zero.f
  have := zero_loop l hl l.length 0 k (by omega) (by omega) hk
  rwa [show ((0 : Nat) : Int) = 0 from rfl, List.drop_zero] at this
def odOf (q : List Opt × Option (List Int)) : List Opt × Int := match q with | (pre, some r) => if ∀ x ∈ r, x = 0 then (pre, 0) else ([], 2) | (_, none) => ([], 2)
theorem odR_eq (l : List Int) : odR l = if 1024 < l.length then ([], 2) else odOf (pGo l []) := by
  unfold odR odOf
  split
  · rfl
  · rfl
theorem decode_eq (l : List Int) (hb : ∀ x ∈ l, 0 ≤ x ∧ x ≤ 255) (hl : l.length < 1099511627776) : option_Decode.f l = some (odR l) := by
  unfold option_Decode.f
  rw [if_pos ⟨hb, hl⟩]
theorem ref_decode_loop (l : List Int) (hb : ∀ x ∈ l, 0 ≤ x ∧ x ≤ 255) (hl : l.length ≤ 1024) : ∀ (d i k : Nat) (acc : List Opt), l.length ≤ i + d → i ≤ l.length → d + 1025 < k → acc.length ≤ i →
    lessorref02_Decode.l0 k l acc (i : Int) = some (odOf (pGo (l.drop i) acc)) := by
  have fin : ∀ k acc, lessorref02_Decode.l0 (k + 1) l acc (l.length : Int) = some (odOf (pGo (l.drop l.length) acc)) := by
    intro k acc
    simp only [lessorref02_Decode.l0]
    rw [if_neg (by omega), List.drop_length, pGo_nil]
    rfl
  intro d
  induction d with
  | zero =>
    intro i k acc h1 h2 hk ha
    obtain ⟨k, rfl⟩ : ∃ m, k = m + 1 := ⟨k - 1, by omega⟩
    obtain rfl : i = l.length := by omega
    exact fin k acc
  | succ d ih =>
    intro i k acc h1 h2 hk ha
    obtain ⟨k, rfl⟩ : ∃ m, k = m + 1 := ⟨k - 1, by omega⟩
    by_cases h : i < l.length
    · simp only [lessorref02_Decode.l0]
      rw [if_pos (by omega), if_pos (by omega), rd_of h, List.drop_eq_getElem_cons h, wrapO (x := (i : Int) + 1) (by omega) (by omega)]
      have hx := hb l[i] (List.getElem_mem h)
      obtain ⟨x, ex⟩ : ∃ x, l[i] = x := ⟨_, rfl⟩
      rw [ex] at hx ⊢
      by_cases c0 : x = 0
      · subst c0
        rw [if_pos rfl, pGo_zero]
        exact ih (i + 1) k acc (by omega) (by omega) (by omega) (by omega)
      · rw [if_neg c0]
        by_cases c5 : x = 255
        · subst c5
          rw [if_pos rfl, if_pos (by omega), if_pos (by omega), pGo_end, show ((i : Int) + 1).toNat = i + 1 from by omega, zero_eq _ (by rw [List.length_drop]; omega) k (by rw [List.length_drop]; omega)]
          simp only [Option.bind_some, odOf]
          by_cases z : ∀ x ∈ l.drop (i + 1), x = 0
          · rw [decide_eq_true z, if_pos rfl, if_pos z]
          · rw [decide_eq_false z, if_neg (by decide), if_neg z]
        · rw [if_neg c5]
          by_cases h3 : i + 1 < l.length
          · rw [List.drop_eq_getElem_cons h3]
            have hm := hb l[i + 1] (List.getElem_mem h3)
            have e3 : rd l ((i : Int) + 1) = l[i + 1] := rd_of h3
            rw [if_neg (by omega), if_pos (by omega), if_pos (by omega), e3, wrapO (x := (i : Int) + 2) (by omega) (by omega), wrapO (x := l[i + 1]) (by omega) (by omega), wrapO (x := x) (by omega) (by omega)]
            obtain ⟨m, em⟩ : ∃ m : Nat, l[i + 1] = m := Int.eq_ofNat_of_zero_le hm.1
            rw [em] at hm ⊢
            rw [wrapO (x := (i : Int) + 2 + m) (by omega) (by omega)]
            by_cases c2 : i + 2 + m ≤ l.length
            · rw [if_neg (by omega), pGo_step c0 c5 (by rw [List.length_drop, Int.toNat_natCast]; omega)]
              simp only [Option.bind_some]
              rw [if_pos (by omega), if_pos (by omega), if_pos (by omega), if_pos (by simp; omega), if_pos (by omega)]
              have e4 : ([] : List Int) ++ (l.take ((i : Int) + 2 + m).toNat).drop ((i : Int) + 2).toNat = (l.drop (i + 1 + 1)).take (m : Int).toNat := by
                rw [show ((i : Int) + 2 + m).toNat = (i + 1 + 1) + m from by omega, show ((i : Int) + 2).toNat = i + 1 + 1 from by omega, Int.toNat_natCast, List.nil_append, List.drop_take]
                congr 1
                omega
              rw [e4]
              have := ih (i + 2 + m) k (acc ++ [⟨x, (l.drop (i + 1 + 1)).take (m : Int).toNat⟩]) (by omega) (by omega) (by omega) (by simp; omega)
              rw [List.drop_drop, Int.toNat_natCast, show i + 1 + 1 + m = i + 2 + m from by omega]
              rw [Int.toNat_natCast] at this
              exact this
            · rw [if_pos (by omega), pGo_stop c0 c5 (by rw [List.length_drop, Int.toNat_natCast]; omega)]
              rfl
          · have hli : l.length = i + 1 := by omega
            have hz : l.drop (i + 1) = [] := List.drop_of_length_le (by omega)
            rw [hz, pGo_lone c0 c5, if_pos (by omega)]
            rfl
    · obtain rfl : i = l.length := by omega
      exact fin k acc
theorem ref_decode_eq (l : List Int) (hb : ∀ x ∈ l, 0 ≤ x ∧ x ≤ 255) (k : Nat) (hk : 2100 ≤ k) : lessorref02_Decode.f k l = some (odR l) := by
  unfold lessorref02_Decode.f
  rw [odR_eq]
  by_cases c : 1024 < l.length
  · rw [if_pos (by omega), if_pos c]
  · rw [if_neg (by omega), if_neg c]
    have := ref_decode_loop l hb (by omega) l.length 0 k [] (by omega) (by omega) (by omega) (by simp)
    rw [List.drop_zero] at this
    exact this
theorem pGo_len : ∀ (n : Nat) (l : List Int) (acc : List Opt), l.length ≤ n → (pGo l acc).1.length ≤ acc.length + l.length := by
  intro n
  induction n with
  | zero =>
    intro l acc hl
    obtain rfl : l = [] := List.eq_nil_of_length_eq_zero (by omega)
    rw [pGo_nil]; simp
  | succ n ih =>
    intro l acc hl
    match l, hl with
    | [], _ => rw [pGo_nil]; simp
    | x :: r, hl =>
      simp only [List.length_cons] at hl ⊢
      by_cases c0 : x = 0
      · subst c0; rw [pGo_zero]; have := ih r acc (by omega); omega
      · by_cases c5 : x = 255
        · subst c5; rw [pGo_end]; simp only; omega
        · match r, hl with
          | [], _ => rw [pGo_lone c0 c5]; simp
          | m :: s, hl =>
            simp only [List.length_cons] at hl ⊢
            by_cases c : m.toNat ≤ s.length
            · rw [pGo_step c0 c5 c]
              have := ih (s.drop m.toNat) (acc ++ [⟨x, s.take m.toNat⟩]) (by rw [List.length_drop]; omega)
              simp only [List.length_append, List.length_cons, List.length_nil, List.length_drop] at this
              omega
            · rw [pGo_stop c0 c5 c]; simp only; omega
theorem odR_len (l : List Int) : (odR l).1.length ≤ 1024 := by
  rw [odR_eq]
  split
  · simp
  · have := pGo_len _ l [] (Nat.le_refl _)
    unfold odOf
    simp only [List.length_nil] at this
    split
    · rename_i pre r e
      rw [e] at this
      split
      · simp only at this ⊢; omega
      · simp
    · simp

end Go.Proofs.YtmbfdmceameghaaDoor.PD
end

section
namespace Go.Proofs.YtmbfdmceameghaaDoor
open Go.RowKit Go.Proofs.YtmbfdmceameghaaDoor.Pr Go.Proofs.YtmbfdmceameghaaDoorW.PrintWords Go.Proofs.YtmbfdmceameghaaDoorW.PrintLast Go.Proofs.YtmbfdmceameghaaDoorW.PrintMore
attribute [local go_sem] max2_int min2_int max_two min_two max_three min_three max_four min_four
set_option linter.unusedVariables false
set_option linter.unusedSimpArgs false

theorem drawn_below {w w' : World} (h : Drawn0 w w') : Below w.heap.size w w' := by
  obtain ⟨n, rfl⟩ := h.out
  exact pw_below_drewN (Below.refl _ _) n
theorem str_s3 {w W : World} {A : Option Addr} {n c : Nat} {xs : List Int} (h : (Kd.int .u8).C w A n xs) (hb : Below w.heap.size w W) : (convert 22 9 (.slice A n c)).run Tryd.prog W = .ok (.string (strOfNums xs)) W := Kd.C_string Tryd.underlying22 Tryd.underlying5 Tryd.underlying9 (Kd.C_below h hb)
set_option maxHeartbeats 4000000 in
set_option maxRecDepth 100000 in
theorem same3C (a0 a1 a2 a3 a4 a5 a6 a7 : Int) (A8 : Option Addr) (c8 : Nat) (l8 : List Int) (A9 : Option Addr) (c9 : Nat) (l9 : List S39) (B8 : Option Addr) (d8 : Nat) (B9 : Option Addr) (d9 : Nat) (w : World) (h8 : (Kd.int .u8).C w A8 l8.length l8) (h9 : Kd.C k39 w A9 l9.length l9) (hc9 : l9.length ≤ c9) (g8 : (Kd.int .u8).C w B8 l8.length l8) (g9 : Kd.C k39 w B9 l9.length l9) (hd9 : l9.length ≤ d9) (hl : l9.length ≤ 1000000) :
    Calls Tryd.prog 8 #[.agg #[.int .i64 a0, .int .u32 a1, .int .i64 a2, .int .i64 a3, .int .u32 a4, .int .u32 a5, .int .u32 a6, .int .u32 a7, .slice A8 l8.length c8, .slice A9 l9.length c9], .agg #[.int .i64 a0, .int .u32 a1, .int .i64 a2, .int .i64 a3, .int .u32 a4, .int .u32 a5, .int .u32 a6, .int .u32 a7, .slice B8 l8.length d8, .slice B9 l9.length d9]] w fun e w' => e = .returned (.bool true) ∧ Below w.heap.size w w' := by
  have HS := Lib.hid (fun W (hb : Below w.heap.size w W) => lessorref02_Same.calls 1000001 A9 c9 l9 B9 d9 l9 true W (Kd.C_below h9 hb) hc9 (Kd.C_below g9 hb) hd9 (PD.same_refl l9 hl 1000001 (by omega)))
  have H8 := Lib.hid h8
  have G8 := Lib.hid g8
  clear h8 h9 hc9 g8 g9 hd9 hl
  go_enter Tryd.func8, Tryd.ntmps8
  go_upto_region 1 with fail
  obtain ⟨ba, hba⟩ : ∃ b, w.heap.size = b := ⟨_, rfl⟩
  obtain ⟨bb, hbb⟩ : ∃ b, ba + 1 = b := ⟨_, rfl⟩
  obtain ⟨w1, hw1⟩ : ∃ W, (w.alloc (.cells #[.int .i64 a0, .int .u32 a1, .int .i64 a2, .int .i64 a3, .int .u32 a4, .int .u32 a5, .int .u32 a6, .int .u32 a7, .slice A8 l8.length c8, .slice A9 l9.length c9] 28)).alloc (.cells #[.int .i64 a0, .int .u32 a1, .int .i64 a2, .int .i64 a3, .int .u32 a4, .int .u32 a5, .int .u32 a6, .int .u32 a7, .slice B8 l8.length d8, .slice B9 l9.length d9] 28) = W := ⟨_, rfl⟩
  have HA : Hid (w1.heap[ba]? = some (.cells #[.int .i64 a0, .int .u32 a1, .int .i64 a2, .int .i64 a3, .int .u32 a4, .int .u32 a5, .int .u32 a6, .int .u32 a7, .slice A8 l8.length c8, .slice A9 l9.length c9] 28 (0, 0))) := by show _ = _; rw [← hw1, ← hba]; exact (Below.heap_alloc _ _ _ (by simp)).trans (blk_new _ _)
  have HB : Hid (w1.heap[bb]? = some (.cells #[.int .i64 a0, .int .u32 a1, .int .i64 a2, .int .i64 a3, .int .u32 a4, .int .u32 a5, .int .u32 a6, .int .u32 a7, .slice B8 l8.length d8, .slice B9 l9.length d9] 28 (0, 0))) := by
    show _ = _
    rw [← hw1, ← hbb, ← hba]
    have := blk_new (w.alloc (.cells #[.int .i64 a0, .int .u32 a1, .int .i64 a2, .int .i64 a3, .int .u32 a4, .int .u32 a5, .int .u32 a6, .int .u32 a7, .slice A8 l8.length c8, .slice A9 l9.length c9] 28)) (.cells #[.int .i64 a0, .int .u32 a1, .int .i64 a2, .int .i64 a3, .int .u32 a4, .int .u32 a5, .int .u32 a6, .int .u32 a7, .slice B8 l8.length d8, .slice B9 l9.length d9] 28)
    rwa [World.size_alloc] at this
  have HW : Hid (Below w.heap.size w w1) := by show Below _ _ _; rw [← hw1]; exact below_alloc (below_alloc (Below.refl _ _) _) _
  rw [hba, hbb]
  try rw [hw1]
  clear hw1 hba hbb
  have y9 := (blk_cell HA.out 9).trans rfl
  have z9 := (blk_cell HB.out 9).trans rfl
  go_wp2_with fail
  refine (HS.out _ HW.out).mono ?_
  rintro e w2 ⟨rfl, hd2⟩
  have hb2 := drawn_below hd2
  clear hd2
  have HA2 : Hid (_ = some _) := (hb2.block ba (blk_lt HA.out)).trans HA.out
  have HB2 : Hid (_ = some _) := (hb2.block bb (blk_lt HB.out)).trans HB.out
  have HW2 := Lib.hid (HW.out.trans (hb2.mono HW.out.size))
  clear y9 z9 hb2 HA HB HW HS
  have y0 := (blk_cell HA2.out 0).trans rfl
  have y1 := (blk_cell HA2.out 1).trans rfl
  have y2 := (blk_cell HA2.out 2).trans rfl
  have y3 := (blk_cell HA2.out 3).trans rfl
  have y4 := (blk_cell HA2.out 4).trans rfl
  have y5 := (blk_cell HA2.out 5).trans rfl
  have y6 := (blk_cell HA2.out 6).trans rfl
  have y7 := (blk_cell HA2.out 7).trans rfl
  have y8 := (blk_cell HA2.out 8).trans rfl
  have y9 := (blk_cell HA2.out 9).trans rfl
  have z0 := (blk_cell HB2.out 0).trans rfl
  have z1 := (blk_cell HB2.out 1).trans rfl
  have z2 := (blk_cell HB2.out 2).trans rfl
  have z3 := (blk_cell HB2.out 3).trans rfl
  have z4 := (blk_cell HB2.out 4).trans rfl
  have z5 := (blk_cell HB2.out 5).trans rfl
  have z6 := (blk_cell HB2.out 6).trans rfl
  have z7 := (blk_cell HB2.out 7).trans rfl
  have z8 := (blk_cell HB2.out 8).trans rfl
  have z9 := (blk_cell HB2.out 9).trans rfl
  have s1 := str_s3 (c := c8) H8.out HW2.out
  have s2 := str_s3 (c := d8) G8.out HW2.out
  go_wp2_with fail
  go_ret
  exact ⟨rfl, HW2.out⟩
end Go.Proofs.YtmbfdmceameghaaDoor
end
