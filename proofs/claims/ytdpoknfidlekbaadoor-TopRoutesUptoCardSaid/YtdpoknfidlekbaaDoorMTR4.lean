/-
  Packets as bytes, over lists: what packet.Right, packet.Encode and the reference's compute of few options.
  bytes.Clone hands back a slice of its own that holds the same bytes; nothing that was there turns. Condition: fewer than 2^47 bytes.
  option.parts: the options of bytes, handed on one by one. Condition: bytes, fewer than 2^40.
  bytes.Trim by the byte 0: nothing is left just where all bytes are 0. Condition: fewer than 2^47 bytes.
  option.Decode in the print's form. Condition: bytes, fewer than 2^40.
  Options and bytes, over lists: option.Encode, option.Decode and the reference's Decode. No condition of their own.
  packet's reader (take, byte, short, long) and must: what each does. Condition: the bytes are such.
-/
import Derived.Test.YtdpoknfidlekbaaDoorMTR3
import Derived.Test.YtdpoknfidlekbaaDoorMTR1
import Derived.WalkSpells
import Derived.Lib.Hide
import Derived.Deep.Slices
import Derived.Deep.QuietTactic
import Derived.Defers
import Derived.Recover
import Derived.Laws.BitsLemmas

section
namespace Go.Proofs.YtdpoknfidlekbaaDoor.PP
open Go.RowKit Go.Proofs.YtdpoknfidlekbaaDoor Go.Proofs.YtdpoknfidlekbaaDoor.Pr Go.Proofs.YtdpoknfidlekbaaDoor.PO Go.Proofs.YtdpoknfidlekbaaDoorW.PrintWords Go.Proofs.YtdpoknfidlekbaaDoorW.PrintLast Go.Proofs.YtdpoknfidlekbaaDoorW.PrintMore
set_option linter.unusedVariables false
set_option linter.unusedSimpArgs false

theorem wrapP {x : Int} (h0 : 0 ≤ x) (h1 : x < 9223372036854775808) : wrap64 x = x := by unfold wrap64; omega
def okPk (a0 a2 a3 : Int) (l8 : List Int) (l9 : List Opt) : Prop := (a0 = 1 ∨ a0 = 2) ∧ (1 ≤ l8.length ∧ l8.length ≤ 16) ∧ (0 ≤ a2 ∧ a2 ≤ 65535) ∧ (0 ≤ a3 ∧ a3 ≤ 65535) ∧ (encR l9).2 = 0
instance (a0 a2 a3 : Int) (l8 : List Int) (l9 : List Opt) : Decidable (okPk a0 a2 a3 l8 l9) := by unfold okPk; infer_instance
theorem right_eq (a0 a1 a2 a3 a4 a5 a6 a7 : Int) (l8 : List Int) (l9 : List Opt) (hf : few l9) (k : Nat) (hk : 1048600 ≤ k) : packet_Right.f k a0 a1 a2 a3 a4 a5 a6 a7 l8 l9 = some (decide (okPk a0 a2 a3 l8 l9)) := by
  obtain ⟨k, rfl⟩ : ∃ m, k = m + 1 := ⟨k - 1, by omega⟩
  unfold packet_Right.f
  rw [encode_eq l9 hf _ (by omega)]
  simp only [Option.bind_some, packet_Right.j0]
  by_cases c0 : a0 = 1 ∨ a0 = 2
  · have e : (if a0 = 1 then false else (a0 != 2)) = false := by
      rcases c0 with rfl | rfl <;> decide
    have e2 : ∀ (f : Bool → Option Bool), (if a0 = 1 then f false else f (a0 != 2)) = f false := by
      intro f
      rcases c0 with rfl | rfl
      · rfl
      · rfl
    rw [e2 (fun b => if b = true then some false else (if (l8.length : Int) < 1 then (some false) else (if (l8.length : Int) > 16 then (some false) else (if a2 ≥ 0 then (if a2 ≤ 65535 then (if a3 ≥ 0 then (if a3 ≤ 65535 then (some ((encR l9).2 == 0)) else (some false)) else (some false)) else (some false)) else (some false)))))]
    simp only [Bool.false_eq_true, if_false]
    by_cases c : (1 ≤ l8.length ∧ l8.length ≤ 16) ∧ (0 ≤ a2 ∧ a2 ≤ 65535) ∧ (0 ≤ a3 ∧ a3 ≤ 65535)
    · obtain ⟨⟨x1, x2⟩, ⟨x3, x4⟩, x5, x6⟩ := c
      rw [if_neg (by omega), if_neg (by omega), if_pos x3, if_pos x4, if_pos x5, if_pos x6]
      congr 1
      rw [Bool.eq_iff_iff, beq_iff_eq, decide_eq_true_iff]
      unfold okPk
      exact ⟨fun h => ⟨c0, ⟨x1, x2⟩, ⟨x3, x4⟩, ⟨x5, x6⟩, h⟩, fun h => h.2.2.2.2⟩
    · rw [decide_eq_false (fun h => c ⟨h.2.1, h.2.2.1, h.2.2.2.1⟩)]
      repeat' split
      all_goals first | rfl | (exfalso; omega)
  · have n1 : ¬ a0 = 1 := fun h => c0 (.inl h)
    have n2 : ¬ a0 = 2 := fun h => c0 (.inr h)
    rw [if_neg n1, show (a0 != 2) = true from bne_iff_ne.2 n2, decide_eq_false (fun h => c0 h.1)]
    rfl
/-! ### numbers -/
/-! ### Encode -/
def encPk (a0 a1 a2 a3 a4 a5 a6 a7 : Int) (l8 : List Int) (l9 : List Opt) : List Int × Int := if okPk a0 a2 a3 l8 l9 then (pkHead a0 a1 a2 a3 a4 a5 a6 a7 l8 ++ (encR l9).1, 0) else ([], 1)
theorem encR_len (l : List Opt) : (encR l).1.length ≤ 1024 := by
  unfold encR
  split
  · split
    · simp
    · simp; omega
  · simp
theorem pk_encode_eq (a0 a1 a2 a3 a4 a5 a6 a7 : Int) (hu : pkOk a1 a4 a5 a6 a7) (l8 : List Int) (l9 : List Opt) (hf : few l9) (k : Nat) (hk : 1048600 ≤ k) : packet_Encode.f k a0 a1 a2 a3 a4 a5 a6 a7 l8 l9 = some (encPk a0 a1 a2 a3 a4 a5 a6 a7 l8 l9) := by
  unfold packet_Encode.f encPk
  rw [right_eq _ _ _ _ _ _ _ _ _ _ hf k hk]
  simp only [Option.bind_some]
  by_cases c : okPk a0 a2 a3 l8 l9
  · rw [decide_eq_true c, if_pos rfl, if_pos c, encode_eq l9 hf k (by omega)]
    simp only [Option.bind_some]
    rw [if_pos ⟨by have := encR_len l9; omega, c.2.1.2, hu⟩]
  · rw [decide_eq_false c, if_neg (by decide), if_neg c]
end Go.Proofs.YtdpoknfidlekbaaDoor.PP
end

section
namespace Go.Proofs.YtdpoknfidlekbaaDoor
open Go.RowKit Go.Proofs.YtdpoknfidlekbaaDoorW.PrintWords Go.Proofs.YtdpoknfidlekbaaDoorW.PrintLast Go.Proofs.YtdpoknfidlekbaaDoorW.PrintMore Go.Proofs.YtdpoknfidlekbaaDoor.Pr
set_option linter.unusedVariables false
set_option linter.unusedSimpArgs false

theorem cl_info : (Tryd.prog.info? 5).map (fun i => (i.zero, i.size, i.bytes)) = some (some (.int .u8 0), 1, 1) := by kernel_rfl
set_option maxHeartbeats 1000000 in
set_option maxRecDepth 100000 in
theorem clone_calls (A0 : Option Addr) (c0 : Nat) (l0 : List Int) (w : World) (hr0 : Kd.C (Kd.int .u8) w A0 l0.length l0) (hc0 : l0.length ≤ c0) (hl : l0.length < 140737488355328) :
    Calls Tryd.prog 17 #[.slice A0 l0.length c0] w fun e w' => ∃ v0_ : Value, e = .returned v0_ ∧ Kd.R (Kd.int .u8) 5 w' w.heap.size (fun _ => True) v0_ l0 ∧ Below w.heap.size w w' := by
  have HR0 := Aside0.mk hr0
  have HC0 := Aside0.mk hc0
  have HL := Aside0.mk hl
  clear hc0 hl
  have HB := Aside0.mk (Below.refl w.heap.size w)
  have hq := Lib.run_eql_slice_nil (P := Tryd.prog) w 24 5 A0 l0.length c0 0 0 Tryd.underlying24
  cases A0 with
  | none =>
    obtain rfl : l0 = [] := by
      cases l0 with
      | nil => rfl
      | cons x xs =>
        obtain ⟨ad, h, _⟩ := hr0.2.2 (by simp)
        cases h
    clear hr0 HR0
    simp only [List.length_nil] at hq ⊢
    go_enter Tryd.func17, Tryd.ntmps17
    go_wp2
    go_ret
    exact ⟨_, rfl, Kd.R_nil _ _ _ _ _, HB.out⟩
  | some ad =>
    clear hr0
    go_enter Tryd.func17, Tryd.ntmps17
    go_wp2_with (first | ((with_reducible refine gate_dst (N := 5) rfl ?_); (try (refine gate_guard (by rfl) ?_; dsimp only)); refine Kd.R_lit (Kd.int .u8) _ 5 ?hg (N := 5) ?hd (xs := ([] : List Int)) (inner := []) (ok := fun _ => True) (okp := fun _ => True) ?hr ?hp (fun _ hk => hk) trivial (Below.refl _ _) (Nat.le_refl _) (by simp) ?_; (case hd => rfl); (case hg => rfl); (case hr => first | (go_simp; done) | (go_simp; rfl)); (case hp => exact (Reps.none _ _)); intro v102 w6 ho7 hb hg_ hnew_; clear hg_ hnew_; have HO := Aside0.mk ho7; have n1_ := Aside0.mk (below_step HB.out hb); clear HB; have HB := n1_; clear n1_ hb ho7) | ((with_reducible refine gate_builtin (b := .append) (xs := #[.tmp 5, .tmp 6]) rfl ?_); (try (refine gate_guard (by rfl) ?_; dsimp only)); at_builtin; refine Kd.R_append_rows (Kd.int .u8) (w0 := w) w.heap.size rfl (.tmp 5) (.tmp 6) 24 5 (.int .u8 0) 1 rfl Tryd.underlying24 cl_info rfl (by decide) (by omega) v102 [] l0 _ _ _ (fun _ => True) (fun _ => False) rfl rfl ?aO ?aR (fun _ _ h => h) (fun _ h => h.elim) ?aF ?aB ?aS ?aL ?_; (case aR => exact (Kd.C_below HR0.out HB.out)); (case aB => exact HB.out); (case aF => exact (fun _ _ => trivial)); (case aO => exact HO.out); (case aS => exact (below_size HB.out)); (case aL => have := HL.out; simp; omega); intro v128 w8 ho hb hg hat; have HB2 := Aside0.mk hb; have HO2 := Aside0.mk ho; clear HB; have HB := HB2; clear HB2; clear ho hb hg hat))
    go_ret
    exact ⟨_, rfl, by have := HO2.out; simpa using this, HB.out⟩

end Go.Proofs.YtdpoknfidlekbaaDoor
end

section
namespace Go.Proofs.YtdpoknfidlekbaaDoor
open Go.RowKit Go.Proofs.YtdpoknfidlekbaaDoor.Pr Go.Proofs.YtdpoknfidlekbaaDoorW.PrintWords Go.Proofs.YtdpoknfidlekbaaDoorW.PrintLast Go.Proofs.YtdpoknfidlekbaaDoorW.PrintMore
attribute [local go_sem] max2_int min2_int max_two min_two max_three min_three max_four min_four
set_option linter.unusedVariables false
set_option linter.unusedSimpArgs false

abbrev OptP := S53
/-! ### what is handed on -/
def pGo (l : List Int) (pre : List OptP) : List OptP × Option (List Int) :=
  match l with
  | [] => (pre, none)
  | x :: r => if x = 0 then pGo r pre else if x = 255 then (pre, some r) else
    match r with
    | [] => (pre, none)
    | n :: s => if n.toNat ≤ s.length then pGo (s.drop n.toNat) (pre ++ [⟨x, s.take n.toNat⟩]) else (pre, none)
termination_by l.length
decreasing_by
  · simp
  · simp only [List.length_cons, List.length_drop]; omega
theorem pGo_nil {pre : List OptP} : pGo [] pre = (pre, none) := by rw [pGo.eq_def]
theorem pGo_zero {r : List Int} {pre : List OptP} : pGo (0 :: r) pre = pGo r pre := by rw [pGo.eq_def]; dsimp only; rw [if_pos rfl]
theorem pGo_end {r : List Int} {pre : List OptP} : pGo (255 :: r) pre = (pre, some r) := by rw [pGo.eq_def]; dsimp only; rw [if_neg (by decide), if_pos rfl]
theorem pGo_lone {x : Int} {pre : List OptP} (h0 : x ≠ 0) (h1 : x ≠ 255) : pGo [x] pre = (pre, none) := by rw [pGo.eq_def]; dsimp only; rw [if_neg h0, if_neg h1]
theorem pGo_step {x n : Int} {s : List Int} {pre : List OptP} (h0 : x ≠ 0) (h1 : x ≠ 255) (h : n.toNat ≤ s.length) : pGo (x :: n :: s) pre = pGo (s.drop n.toNat) (pre ++ [⟨x, s.take n.toNat⟩]) := by
  rw [pGo.eq_def]; dsimp only; rw [if_neg h0, if_neg h1, if_pos h]
theorem pGo_stop {x n : Int} {s : List Int} {pre : List OptP} (h0 : x ≠ 0) (h1 : x ≠ 255) (h : ¬ n.toNat ≤ s.length) : pGo (x :: n :: s) pre = (pre, none) := by
  rw [pGo.eq_def]; dsimp only; rw [if_neg h0, if_neg h1, if_neg h]

/-- All but one block is as it was. -/
structure OneBut (w W : World) (q : Nat) : Prop where
  os : W.os = w.os
  tape : W.tape = w.tape
  output : W.output = w.output
  size : w.heap.size ≤ W.heap.size
  block : ∀ k, k < w.heap.size → k ≠ q → W.heap[k]? = w.heap[k]?
theorem OneBut.of_below {w W : World} (h : Below w.heap.size w W) (q : Nat) : OneBut w W q := ⟨h.os, h.tape, h.output, h.size, fun k hk _ => h.block k hk⟩
theorem OneBut.set {w W : World} {q : Nat} (h : OneBut w W q) (u : Value) : OneBut w (W.setCell ⟨q, 0, none⟩ u) q := by
  have hb : Below q W (W.setCell ⟨q, 0, none⟩ u) := (Below.refl q W).setCell (p := ⟨q, 0, none⟩) (Nat.le_refl _) u
  exact ⟨hb.os.trans h.os, hb.tape.trans h.tape, hb.output.trans h.output, Nat.le_trans h.size hb.size, fun k hk hn => (Below.heap_setCell W ⟨q, 0, none⟩ u k hn).trans (h.block k hk hn)⟩
theorem boxed_blw {W W' : World} {B : Nat} {t : TypeId} {v : Value} (h : Boxed W B t v) (hb : Below W.heap.size W W') : Boxed W' B t v := (hb.block B h.lt).trans h
theorem mid_kp {α : Type} {P : Program} (k : Kd α) (t e : TypeId) {i : TypeInfo} (ht : P.underlying t = some (.slice e)) (hi : P.info? e = some i) (hsz : i.size = k.sz) (A : Option Addr) (c : Nat) (xs : List α) (a b : Int) (h0 : 0 ≤ a) (h1 : a ≤ b) (hm : b ≤ xs.length) (hc : xs.length ≤ c) (w : World) (h : k.C w A xs.length xs) :
    ∃ (A' : Option Addr) (c' : Nat) (ys : List α), Hid (ys = (xs.take b.toNat).drop a.toNat) ∧ (∀ W : World, (Instr.slice t (.slice A xs.length c) (some (.int .i64 a)) (some (.int .i64 b)) none).run P W = .ok (.slice A' ys.length c') W) ∧ k.C w A' ys.length ys ∧ ys.length ≤ c' := by
  have hl : ((xs.take b.toNat).drop a.toNat).length = b.toNat - a.toNat := by rw [List.length_drop, List.length_take]; omega
  refine ⟨_, c - a.toNat, _, rfl, ?_, Kd.C_mid h (lo := a.toNat) (hi := b.toNat) (by omega) (by omega) hc, by rw [hl]; omega⟩
  intro W
  rw [hl]
  exact cut_mid t e .i64 .i64 ht hi k.sz hsz A xs.length c a b h0 h1 hm hc W

set_option maxHeartbeats 4000000 in
set_option maxRecDepth 100000 in
theorem parts1_calls (b : List Int) (w0 : World) (hbytes : ∀ x ∈ b, 0 ≤ x ∧ x ≤ 255) (hlen : b.length < 1099511627776) (n l Bn : Nat) (J : List OptP → World → Prop) (End : World → Prop) (hBn : w0.heap.size ≤ Bn)
    (hJb : ∀ pre W, J pre W → Below w0.heap.size w0 W)
    (hJg : ∀ pre W W', J pre W → Below W.heap.size W W' → J pre W')
    (hJs : ∀ pre W v u, J pre W → Boxed W Bn 24 v → J pre (W.setCell ⟨Bn, 0, none⟩ u))
    (hY1 : ∀ pre W0 W x d Ad cd As ns cs bv, J pre W0 → (∃ bv0, Boxed W0 Bn 24 bv0) → OneBut W0 W Bn → pre.length < b.length → d.length ≤ b.length → Kd.R (Kd.int .u8) 5 W W0.heap.size (fun _ => True) (.slice Ad d.length cd) d → x ≠ 0 → x ≠ 255 → Boxed W Bn 24 bv →
      YieldAt Fence.wide n Tryd.prog l #[.agg #[.int .i64 x, .slice Ad d.length cd], .slice As ns cs] W fun e W' => e = .returned (.bool true) ∧ J (pre ++ [⟨x, d⟩]) W' ∧ Boxed W' Bn 24 bv)
    (hY2 : ∀ pre W r As cs, J pre W → (Kd.int .u8).C w0 As r.length r → r.length ≤ cs → pGo b [] = (pre, some r) →
      YieldAt Fence.wide n Tryd.prog l #[.agg #[.int .i64 255, .slice none 0 0], .slice As r.length cs] W fun e W' => (∃ q, e = .returned (.bool q)) ∧ End W')
    (hY3 : ∀ pre W, J pre W → pGo b [] = (pre, none) →
      YieldAt Fence.wide n Tryd.prog l #[.agg #[.int .i64 0, .slice none 0 0], .slice none 0 0] W fun e W' => (∃ q, e = .returned (.bool q)) ∧ End W')
    (W : World) (h0 : J [] W) (A0 : Option Addr) (c : Nat) (hC : (Kd.int .u8).C w0 A0 b.length b) (hc : b.length ≤ c) (hBx : Boxed W Bn 24 (.slice A0 b.length c)) :
    Calls Tryd.prog 54 #[.func (.yield l) #[] #[], .pointer (some ⟨Bn, 0, none⟩)] W fun e W' => (∃ v, e = .returned v) ∧ End W' := by
  have HC := Lib.hid hC
  have HBY := Lib.hid hbytes
  have HY1 := Lib.hid hY1
  have HY2 := Lib.hid hY2
  have HY3 := Lib.hid hY3
  have HJB := Lib.hid hJb
  have HJG := Lib.hid hJg
  have HJS := Lib.hid hJs
  have HJ0 := Lib.hid h0
  have HBX0 := Lib.hid hBx
  clear hC hbytes hY1 hY2 hY3 hJb hJg hJs h0 hBx
  go_enter Tryd.func54, Tryd.ntmps54
  go_wp2_with fail
  go_loopg [] (b.length) (fun kq wr => ∃ (l' : List Int) (A' : Option Addr) (c' : Nat) (pre : List OptP), Hid (l'.length = kq) ∧ Hid (l'.length ≤ c') ∧ Hid (l'.length + pre.length ≤ b.length) ∧ Hid (∀ x ∈ l', 0 ≤ x ∧ x ≤ 255) ∧ Hid ((Kd.int .u8).C w0 A' l'.length l') ∧
      Hid (Boxed wr Bn 24 (.slice A' l'.length c')) ∧ Hid (J pre wr) ∧ Hid (pGo l' pre = pGo b []))
  case atStart => exact ⟨b, A0, c, [], rfl, hc, Lib.hid (by simp), HBY, HC, HBX0, HJ0, rfl⟩
  case round =>
    obtain ⟨l', A', c', pre, HK, HCL, HLP, HBY', HC', HBX, HJ, HP⟩ := hrel
    clear HC HBX0 HJ0
    have y1 := HBX.out.cell
    have z1 := HBX.out.frozen
    cases l' with
    | nil =>
      have HR := Lib.hid (HP.out.symm.trans pGo_nil)
      go_upto_region 11 with fail
      refine (wpIn_wide (n := n + 1)).1 ?_
      obtain ⟨fn, tmps, assign, body, hy, hR⟩ := HY3.out _ _ HJ.out HR.out
      gi_wp2_with fail
      refine hR.mono ?_
      rintro e W3 ⟨⟨q, rfl⟩, hE⟩
      gi_wp2_with fail
      go_end0
      exact ⟨⟨_, rfl⟩, hE⟩
    | cons x r =>
      have hx := HBY'.out x (by simp)
      obtain ⟨ad, rfl, x0⟩ := Kd.at_int HC'.out 0 (by omega) (by simp only [List.length_cons]; omega)
      have x0w : w0.cell? ad = some (.int .u8 x) := x0
      have HX0 := Lib.hid x0w
      have x0' := ((HJB.out _ _ HJ.out).cell (World.block_lt_of_cell? w0 _ x0w)).trans x0w
      have C2 := Kd.C_drop (c := c') (m := 1) HC'.out (by simp) HCL.out
      rw [show (Kd.int .u8).sz = 1 from rfl, Nat.mul_one] at C2
      change (Kd.int .u8).C w0 _ r.length r at C2
      obtain ⟨i0, hinf, hzz⟩ := Option.map_eq_some_iff.1 cl_info
      simp only [Prod.mk.injEq] at hzz
      obtain ⟨nn, hnn⟩ : ∃ nn, nn = (x :: r).length := ⟨_, rfl⟩
      have hn2 : nn = r.length + 1 := hnn
      have hcl := HCL.out
      have hlp := HLP.out
      have hk := HK.out
      rw [← hnn] at hcl hlp hk y1
      have r1 := cut_from (P := Tryd.prog) 24 5 .i64 Tryd.underlying24 hinf 1 hzz.2.1 (some ad) nn c' 1 (by omega) (by omega)
      rw [show (1 : Int).toNat = 1 from rfl, Nat.mul_one, show nn - 1 = r.length from by omega] at r1
      obtain ⟨A2, hA2⟩ : ∃ A2, A2 = (if c' = 1 then some ad else (some ad).map (·.add 1)) := ⟨_, rfl⟩
      obtain ⟨c2, hc2⟩ : ∃ c2, c2 = c' - 1 := ⟨_, rfl⟩
      rw [← hA2] at C2
      rw [← hA2, ← hc2] at r1
      have HC2 := Lib.hid C2
      have HL2 : Hid (r.length ≤ c2) := by show _ ≤ _; omega
      have HGK : Hid (r.length + 1 = gk) := by show _ = _; omega
      have HLP2 : Hid (r.length + 1 + pre.length ≤ b.length) := by show _ ≤ _; omega
      have p0 : ((nn : Int) > 0) = True := eq_true (by omega)
      have p1 : (0 < nn) = True := eq_true (by omega)
      have e6 : IntKind.i64.wrap x = x := IntWalk.i64_in _ (by omega)
      have HBY2 : Hid (∀ y ∈ r, 0 ≤ y ∧ y ≤ 255) := fun y hy => HBY'.out y (List.mem_cons_of_mem _ hy)
      have HBX2 : Hid (Boxed (wr.setCell ⟨Bn, 0, none⟩ (.slice A2 r.length c2)) Bn 24 (.slice A2 r.length c2)) := HBX.out.set _
      have HJ2 := Lib.hid (HJS.out _ _ _ (.slice A2 r.length c2) HJ.out HBX.out)
      have HINF : Hid (Tryd.prog.info? 5 = some i0) := hinf
      have HONE : Hid (i0.size = 1) := hzz.2.1
      clear x0 x0w C2 hA2 hc2 hnn hn2 hcl hlp hk HC' HK HCL HLP HBY' hinf hzz HBX HJ
      by_cases hz0 : x = 0
      · subst hz0
        have HP2 := Lib.hid (pGo_zero.symm.trans HP.out)
        go_wp2_with fail
        go_roundg (r.length)
        case measure => have := HGK.out; omega
        case rel => exact ⟨r, A2, c2, pre, rfl, HL2, Lib.hid (by have := HLP2.out; omega), HBY2, HC2, HBX2, HJ2, HP2⟩
      · have q0 : (x == 0) = false := beq_eq_false_iff_ne.2 hz0
        have HZ0 := Lib.hid hz0
        clear hz0
        by_cases hz1 : x = 255
        · subst hz1
          have HR := Lib.hid (HP.out.symm.trans pGo_end)
          go_upto_region 5 with fail
          have y2 := HBX2.out.cell
          refine (wpIn_wide (n := n + 1)).1 ?_
          obtain ⟨fn, tmps, assign, body, hy, hR⟩ := HY2.out _ _ _ _ _ HJ2.out HC2.out HL2.out HR.out
          gi_wp2_with fail
          refine hR.mono ?_
          rintro e W3 ⟨⟨q, rfl⟩, hE⟩
          gi_wp2_with fail
          go_wp2_with fail
          refine bodyPost_ret (results_none rfl _ _ _) rfl ⟨⟨_, rfl⟩, hE⟩
        · have q1 : (x == 255) = false := beq_eq_false_iff_ne.2 hz1
          have HZ1 := Lib.hid hz1
          clear hz1
          obtain ⟨rn, hrn⟩ : ∃ rn, rn = r.length := ⟨_, rfl⟩
          obtain ⟨w2, hw2⟩ : ∃ W, wr.setCell ⟨Bn, 0, none⟩ (.slice A2 r.length c2) = W := ⟨_, rfl⟩
          rw [hw2] at HBX2 HJ2
          rw [← hrn] at r1 HBX2 hw2
          have HRN := Lib.hid hrn
          cases r with
          | nil =>
            have HR := Lib.hid (HP.out.symm.trans (pGo_lone HZ0.out HZ1.out))
            obtain rfl : rn = 0 := hrn
            go_wp2_with fail
            try rw [hw2]
            have y2 := HBX2.out.cell
            clear y1 z1 x0' hw2
            refine start_ (n := 13) (S := fun w' => w'.cell? ⟨Bn, 0, none⟩ = some (.slice A2 0 c2)) (ds := []) #[false, false, false, false, false, false, false, false, false, false, false, false, false] (by kernel_rfl) rfl rfl y2 (fun hHeld => ?_)
            refine take_ (i := 0) (N := some 23) (v := .slice A2 0 c2) (a' := ?_) #[true, false, false, false, false, false, false, false, false, false, false, false, false] rfl rfl (by kernel_rfl) (fun _ _ _ h => h) (Or.inl ⟨by rfl, ?_⟩) hHeld ?_ ?_
            · rintro w' s0
              go_simp
              try (with_reducible rfl)
            rotate_left
            · simp only [Act.put, List.setIfInBounds_toArray, List.set_cons_zero, List.set_cons_succ, i64_w, i32_w]
              rfl
            refine pure_ (i := 1) (N := some 24) (v := .int .i64 0) (a' := ?_) #[true, true, false, false, false, false, false, false, false, false, false, false, false] rfl rfl (by kernel_rfl) (fun _ _ _ h => h) (Or.inl ⟨by rfl, ?_⟩) ?_ ?_
            · intro w'
              go_simp
              try (with_reducible rfl)
            rotate_left
            · simp only [Act.put, List.setIfInBounds_toArray, List.set_cons_zero, List.set_cons_succ, i64_w, i32_w]
              rfl
            refine pure_ (i := 2) (N := some 25) (v := .bool true) (a' := ?_) #[true, true, true, false, false, false, false, false, false, false, false, false, false] rfl rfl (by kernel_rfl) (fun _ _ _ h => h) (Or.inl ⟨by rfl, ?_⟩) ?_ ?_
            · intro w'
              go_simp
              try (with_reducible rfl)
            rotate_left
            · simp only [Act.put, List.setIfInBounds_toArray, List.set_cons_zero, List.set_cons_succ, i64_w, i32_w]
              rfl
            refine pure_ (i := 3) (N := some 26) (v := .bool true) (a' := ?_) #[true, true, true, true, false, false, false, false, false, false, false, false, false] rfl rfl (by kernel_rfl) (fun _ _ _ h => h) (Or.inl ⟨by rfl, ?_⟩) ?_ ?_
            · intro w'
              go_simp
              try (with_reducible rfl)
            rotate_left
            · simp only [Act.put, List.setIfInBounds_toArray, List.set_cons_zero, List.set_cons_succ, i64_w, i32_w]
              rfl
            refine pure_ (i := 4) (N := some 27) (v := undef) (a' := ?_) #[true, true, true, true, true, false, false, false, false, false, false, false, false] rfl rfl (by kernel_rfl) (fun _ _ _ h => h) (Or.inr ⟨by rfl, rfl⟩) ?_ ?_
            rotate_left
            · simp only [Act.put, List.setIfInBounds_toArray, List.set_cons_zero, List.set_cons_succ, i64_w, i32_w]
              rfl
            refine pure_ (i := 5) (N := some 28) (v := undef) (a' := ?_) #[true, true, true, true, true, true, false, false, false, false, false, false, false] rfl rfl (by kernel_rfl) (fun _ _ _ h => h) (Or.inr ⟨by rfl, rfl⟩) ?_ ?_
            rotate_left
            · simp only [Act.put, List.setIfInBounds_toArray, List.set_cons_zero, List.set_cons_succ, i64_w, i32_w]
              rfl
            refine pure_ (i := 6) (N := some 29) (v := undef) (a' := ?_) #[true, true, true, true, true, true, true, false, false, false, false, false, false] rfl rfl (by kernel_rfl) (fun _ _ _ h => h) (Or.inr ⟨by rfl, rfl⟩) ?_ ?_
            rotate_left
            · simp only [Act.put, List.setIfInBounds_toArray, List.set_cons_zero, List.set_cons_succ, i64_w, i32_w]
              rfl
            refine pure_ (i := 7) (N := some 30) (v := undef) (a' := ?_) #[true, true, true, true, true, true, true, true, false, false, false, false, false] rfl rfl (by kernel_rfl) (fun _ _ _ h => h) (Or.inr ⟨by rfl, rfl⟩) ?_ ?_
            rotate_left
            · simp only [Act.put, List.setIfInBounds_toArray, List.set_cons_zero, List.set_cons_succ, i64_w, i32_w]
              rfl
            refine pure_ (i := 8) (N := some 31) (v := undef) (a' := ?_) #[true, true, true, true, true, true, true, true, true, false, false, false, false] rfl rfl (by kernel_rfl) (fun _ _ _ h => h) (Or.inr ⟨by rfl, rfl⟩) ?_ ?_
            rotate_left
            · simp only [Act.put, List.setIfInBounds_toArray, List.set_cons_zero, List.set_cons_succ, i64_w, i32_w]
              rfl
            refine pure_ (i := 9) (N := some 32) (v := undef) (a' := ?_) #[true, true, true, true, true, true, true, true, true, true, false, false, false] rfl rfl (by kernel_rfl) (fun _ _ _ h => h) (Or.inr ⟨by rfl, rfl⟩) ?_ ?_
            rotate_left
            · simp only [Act.put, List.setIfInBounds_toArray, List.set_cons_zero, List.set_cons_succ, i64_w, i32_w]
              rfl
            refine pure_ (i := 10) (N := some 33) (v := undef) (a' := ?_) #[true, true, true, true, true, true, true, true, true, true, true, false, false] rfl rfl (by kernel_rfl) (fun _ _ _ h => h) (Or.inr ⟨by rfl, rfl⟩) ?_ ?_
            rotate_left
            · simp only [Act.put, List.setIfInBounds_toArray, List.set_cons_zero, List.set_cons_succ, i64_w, i32_w]
              rfl
            refine pure_ (i := 11) (N := some 34) (v := undef) (a' := ?_) #[true, true, true, true, true, true, true, true, true, true, true, true, false] rfl rfl (by kernel_rfl) (fun _ _ _ h => h) (Or.inr ⟨by rfl, rfl⟩) ?_ ?_
            rotate_left
            · simp only [Act.put, List.setIfInBounds_toArray, List.set_cons_zero, List.set_cons_succ, i64_w, i32_w]
              rfl
            refine pure_ (i := 12) (N := some 35) (v := .bool true) (a' := ?_) #[true, true, true, true, true, true, true, true, true, true, true, true, true] rfl rfl (by kernel_rfl) (fun _ _ _ h => h) (Or.inl ⟨by rfl, ?_⟩) ?_ ?_
            · intro w'
              go_simp
              try (with_reducible rfl)
            rotate_left
            · simp only [Act.put, List.setIfInBounds_toArray, List.set_cons_zero, List.set_cons_succ, i64_w, i32_w]
              rfl
            refine done_ (by kernel_rfl) ?_
            go_upto_region 11 with fail
            refine (wpIn_wide (n := n + 1)).1 ?_
            obtain ⟨fn, tmps, assign, body, hy, hR⟩ := HY3.out _ _ (HJG.out _ _ _ HJ2.out (below_drew (Below.refl _ _))) HR.out
            gi_wp2_with fail
            refine hR.mono ?_
            rintro e W3 ⟨⟨q, rfl⟩, hE⟩
            gi_wp2_with fail
            go_end0
            exact ⟨⟨_, rfl⟩, hE⟩
          | cons m s =>
            obtain ⟨mm, rfl⟩ : ∃ mm : Nat, m = mm := Int.eq_ofNat_of_zero_le (HBY2.out m (by simp)).1
            have hm255 : (mm : Int) ≤ 255 := (HBY2.out mm (by simp)).2
            obtain ⟨ad2, rfl, xm⟩ := Kd.at_int HC2.out 0 (by omega) (by simp only [List.length_cons]; omega)
            have xm0 : w0.cell? ad2 = some (.int .u8 (mm : Int)) := xm
            have HXM := Lib.hid xm0
            have hrs : rn = s.length + 1 := hrn
            have hlb := HLP2.out
            have hl2 := HL2.out
            rw [← hrn] at hlb hl2
            have e7 : IntKind.i64.wrap (mm : Int) = (mm : Int) := IntWalk.i64_in _ (by omega)
            have e8 : IntKind.i64.wrap ((rn : Int) - 1) = (s.length : Int) := by rw [IntWalk.i64_in _ (by omega)]; omega
            have q2 : ((rn : Int) == 0) = false := beq_eq_false_iff_ne.2 (by omega)
            have q3 : (rn == 0) = false := beq_eq_false_iff_ne.2 (by omega)
            have q4 : (rn = 0) = False := eq_false (by omega)
            have p2 : ((0 : Int) < (rn : Int)) = True := eq_true (by omega)
            have p3 : (0 < rn) = True := eq_true (by omega)
            have HRS := Lib.hid hrs
            have HLB := Lib.hid hlb
            clear xm xm0 hrs hrn
            by_cases hms : mm ≤ s.length
            · have HP2 := Lib.hid ((pGo_step HZ0.out HZ1.out (by rw [Int.toNat_natCast]; exact hms)).symm.trans HP.out)
              obtain ⟨m1, hm1⟩ : ∃ m1 : Int, (mm : Int) + 1 = m1 := ⟨_, rfl⟩
              have g1 : ((mm : Int) > (s.length : Int)) = False := eq_false (by omega)
              have g2 : (s.length < mm) = False := eq_false (by omega)
              have e9 : IntKind.i64.wrap ((mm : Int) + 1) = m1 := by rw [IntWalk.i64_in _ (by omega)]; exact hm1
              have hrs := HRS.out
              have hrl : ((mm : Int) :: s).length = rn := HRS.out.symm
              have hC2 := HC2.out
              obtain ⟨A4, c4, ys, HYS, hrun, hC4, hcl4⟩ := mid_kp (P := Tryd.prog) (Kd.int .u8) 24 5 Tryd.underlying24 HINF.out HONE.out (some ad2) c2 ((mm : Int) :: s) 1 m1 (by omega) (by omega) (by rw [hrl]; omega) (by rw [hrl]; exact hl2) w0 hC2
              rw [hrl] at hrun
              have HYE : Hid (ys = s.take mm) := by
                show _ = _
                rw [HYS.out, ← hm1, show ((mm : Int) + 1).toNat = mm + 1 from by omega]
                rfl
              have hyl : ys.length = mm := by rw [HYE.out, List.length_take]; omega
              have HCC := Lib.hid (fun W9 (hW9 : Below w0.heap.size w0 W9) => clone_calls A4 c4 ys W9 (Kd.C_below hC4 hW9) hcl4 (by omega))
              have r3 := cut_from (P := Tryd.prog) 24 5 .i64 Tryd.underlying24 HINF.out 1 HONE.out (some ad2) rn c2 m1 (by omega) (by omega)
              have C5 := Kd.C_drop (c := c2) (m := mm + 1) hC2 (by rw [hrl]; omega) (by rw [hrl]; exact hl2)
              rw [show (Kd.int .u8).sz = 1 from rfl, Nat.mul_one] at C5
              change (Kd.int .u8).C w0 _ (s.drop mm).length (s.drop mm) at C5
              obtain ⟨s5, hs5⟩ : ∃ s5, s5 = s.drop mm := ⟨_, rfl⟩
              have hs5l : s5.length = s.length - mm := by rw [hs5, List.length_drop]
              rw [← hs5] at C5
              rw [show m1.toNat = mm + 1 from by omega, Nat.mul_one, show rn - (mm + 1) = s5.length from by omega] at r3
              obtain ⟨A5, hA5⟩ : ∃ A5, A5 = (if c2 = mm + 1 then some ad2 else (some ad2).map (·.add (mm + 1))) := ⟨_, rfl⟩
              obtain ⟨c5, hc5⟩ : ∃ c5, c5 = c2 - (mm + 1) := ⟨_, rfl⟩
              rw [← hA5, ← hc5] at r3
              rw [← hA5] at C5
              have HC5 := Lib.hid C5
              have HL5 : Hid (s5.length ≤ c5) := by show _ ≤ _; omega
              have HLP5 : Hid (s5.length + (pre.length + 1) ≤ b.length) := by show _ ≤ _; omega
              have HPL : Hid (pre.length < b.length) := by show _ < _; omega
              have HYL : Hid (ys.length ≤ b.length) := by show _ ≤ _; omega
              have HS5 := Lib.hid hs5
              have HM5 : Hid (s5.length < gk) := by have h1 := HGK.out; have h2 := HRS.out; show _ < _; simp only [List.length_cons] at h1; omega
              clear hA5 hc5 hs5 hs5l C5 hC4 hcl4 hyl hC2 hrl hm1 hrs
              go_wp2_with fail
              try rw [hw2]
              have y2 := HBX2.out.cell
              have y3 := ((HJB.out _ _ HJ2.out).cell (World.block_lt_of_cell? w0 _ HXM.out)).trans HXM.out
              clear y1 z1 x0' hw2 hlb
              refine start_ (n := 13) (S := fun w' => w'.cell? ⟨Bn, 0, none⟩ = some (.slice (some ad2) rn c2) ∧ w'.cell? ad2 = some (.int .u8 (mm : Int))) (ds := []) #[false, false, false, false, false, false, false, false, false, false, false, false, false] (by kernel_rfl) rfl rfl ⟨y2, y3⟩ (fun hHeld => ?_)
              refine take_ (i := 0) (N := some 23) (v := .slice (some ad2) rn c2) (a' := ?_) #[true, false, false, false, false, false, false, false, false, false, false, false, false] rfl rfl (by kernel_rfl) (fun _ _ _ h => h) (Or.inl ⟨by rfl, ?_⟩) hHeld ?_ ?_
              · rintro w' ⟨s0, s1⟩
                go_simp
                try (with_reducible rfl)
              rotate_left
              · simp only [Act.put, List.setIfInBounds_toArray, List.set_cons_zero, List.set_cons_succ, i64_w, i32_w]
                rfl
              refine pure_ (i := 1) (N := some 24) (v := .int .i64 rn) (a' := ?_) #[true, true, false, false, false, false, false, false, false, false, false, false, false] rfl rfl (by kernel_rfl) (fun _ _ _ h => h) (Or.inl ⟨by rfl, ?_⟩) ?_ ?_
              · intro w'
                go_simp
                try (with_reducible rfl)
              rotate_left
              · simp only [Act.put, List.setIfInBounds_toArray, List.set_cons_zero, List.set_cons_succ, i64_w, i32_w]
                rfl
              refine pure_ (i := 2) (N := some 25) (v := .bool false) (a' := ?_) #[true, true, true, false, false, false, false, false, false, false, false, false, false] rfl rfl (by kernel_rfl) (fun _ _ _ h => h) (Or.inl ⟨by rfl, ?_⟩) ?_ ?_
              · intro w'
                go_simp
                try (with_reducible rfl)
              rotate_left
              · simp only [Act.put, List.setIfInBounds_toArray, List.set_cons_zero, List.set_cons_succ, i64_w, i32_w]
                rfl
              refine pure_ (i := 3) (N := some 26) (v := .bool false) (a' := ?_) #[true, true, true, true, false, false, false, false, false, false, false, false, false] rfl rfl (by kernel_rfl) (fun _ _ _ h => h) (Or.inl ⟨by rfl, ?_⟩) ?_ ?_
              · intro w'
                go_simp
                try (with_reducible rfl)
              rotate_left
              · simp only [Act.put, List.setIfInBounds_toArray, List.set_cons_zero, List.set_cons_succ, i64_w, i32_w]
                rfl
              refine take_ (i := 4) (N := some 27) (v := .slice (some ad2) rn c2) (a' := ?_) #[true, true, true, true, true, false, false, false, false, false, false, false, false] rfl rfl (by kernel_rfl) (fun _ _ _ h => h) (Or.inl ⟨by rfl, ?_⟩) hHeld ?_ ?_
              · rintro w' ⟨s0, s1⟩
                go_simp
                try (with_reducible rfl)
              rotate_left
              · simp only [Act.put, List.setIfInBounds_toArray, List.set_cons_zero, List.set_cons_succ, i64_w, i32_w]
                rfl
              refine pure_ (i := 5) (N := some 28) (v := .pointer (some ad2)) (a' := ?_) #[true, true, true, true, true, true, false, false, false, false, false, false, false] rfl rfl (by kernel_rfl) (fun _ _ _ h => h) (Or.inl ⟨by rfl, ?_⟩) ?_ ?_
              · intro w'
                go_simp
                try (with_reducible rfl)
              rotate_left
              · simp only [Act.put, List.setIfInBounds_toArray, List.set_cons_zero, List.set_cons_succ, i64_w, i32_w]
                rfl
              refine take_ (i := 6) (N := some 29) (v := .int .u8 (mm : Int)) (a' := ?_) #[true, true, true, true, true, true, true, false, false, false, false, false, false] rfl rfl (by kernel_rfl) (fun _ _ _ h => h) (Or.inl ⟨by rfl, ?_⟩) hHeld ?_ ?_
              · rintro w' ⟨s0, s1⟩
                go_simp
                try (with_reducible rfl)
              rotate_left
              · simp only [Act.put, List.setIfInBounds_toArray, List.set_cons_zero, List.set_cons_succ, i64_w, i32_w]
                rfl
              refine pure_ (i := 7) (N := some 30) (v := .int .i64 (mm : Int)) (a' := ?_) #[true, true, true, true, true, true, true, true, false, false, false, false, false] rfl rfl (by kernel_rfl) (fun _ _ _ h => h) (Or.inl ⟨by rfl, ?_⟩) ?_ ?_
              · intro w'
                go_simp
                try (with_reducible rfl)
              rotate_left
              · simp only [Act.put, List.setIfInBounds_toArray, List.set_cons_zero, List.set_cons_succ, i64_w, i32_w]
                rfl
              refine take_ (i := 8) (N := some 31) (v := .slice (some ad2) rn c2) (a' := ?_) #[true, true, true, true, true, true, true, true, true, false, false, false, false] rfl rfl (by kernel_rfl) (fun _ _ _ h => h) (Or.inl ⟨by rfl, ?_⟩) hHeld ?_ ?_
              · rintro w' ⟨s0, s1⟩
                go_simp
                try (with_reducible rfl)
              rotate_left
              · simp only [Act.put, List.setIfInBounds_toArray, List.set_cons_zero, List.set_cons_succ, i64_w, i32_w]
                rfl
              refine pure_ (i := 9) (N := some 32) (v := .int .i64 rn) (a' := ?_) #[true, true, true, true, true, true, true, true, true, true, false, false, false] rfl rfl (by kernel_rfl) (fun _ _ _ h => h) (Or.inl ⟨by rfl, ?_⟩) ?_ ?_
              · intro w'
                go_simp
                try (with_reducible rfl)
              rotate_left
              · simp only [Act.put, List.setIfInBounds_toArray, List.set_cons_zero, List.set_cons_succ, i64_w, i32_w]
                rfl
              refine pure_ (i := 10) (N := some 33) (v := .int .i64 (s.length : Int)) (a' := ?_) #[true, true, true, true, true, true, true, true, true, true, true, false, false] rfl rfl (by kernel_rfl) (fun _ _ _ h => h) (Or.inl ⟨by rfl, ?_⟩) ?_ ?_
              · intro w'
                go_simp
                try (with_reducible rfl)
              rotate_left
              · simp only [Act.put, List.setIfInBounds_toArray, List.set_cons_zero, List.set_cons_succ, i64_w, i32_w]
                rfl
              refine pure_ (i := 11) (N := some 34) (v := .bool false) (a' := ?_) #[true, true, true, true, true, true, true, true, true, true, true, true, false] rfl rfl (by kernel_rfl) (fun _ _ _ h => h) (Or.inl ⟨by rfl, ?_⟩) ?_ ?_
              · intro w'
                go_simp
                try (with_reducible rfl)
              rotate_left
              · simp only [Act.put, List.setIfInBounds_toArray, List.set_cons_zero, List.set_cons_succ, i64_w, i32_w]
                rfl
              refine pure_ (i := 12) (N := some 35) (v := .bool false) (a' := ?_) #[true, true, true, true, true, true, true, true, true, true, true, true, true] rfl rfl (by kernel_rfl) (fun _ _ _ h => h) (Or.inl ⟨by rfl, ?_⟩) ?_ ?_
              · intro w'
                go_simp
                try (with_reducible rfl)
              rotate_left
              · simp only [Act.put, List.setIfInBounds_toArray, List.set_cons_zero, List.set_cons_succ, i64_w, i32_w]
                rfl
              refine done_ (by kernel_rfl) ?_
              obtain ⟨w3, hw3⟩ : ∃ W, w2.drew = W := ⟨_, rfl⟩
              have hb3 : Below w2.heap.size w2 w3 := by rw [← hw3]; exact below_drew (Below.refl _ _)
              have HBX3 := Lib.hid (boxed_blw HBX2.out hb3)
              have HJ3 := Lib.hid (HJG.out _ _ _ HJ2.out hb3)
              rw [hw3]
              clear hw3 hb3 y2 y3 HBX2 HJ2
              have y2 := HBX3.out.cell
              have y3 := ((HJB.out _ _ HJ3.out).cell (World.block_lt_of_cell? w0 _ HXM.out)).trans HXM.out
              go_wp2_with fail
              refine (HCC.out _ (HJB.out _ _ HJ3.out)).mono ?_
              rintro e w4 ⟨v4, rfl, hv4, hb4⟩
              obtain ⟨Ad, cd, rfl⟩ := Kd.R_slice hv4
              have HBX4 := Lib.hid (boxed_blw HBX3.out hb4)
              have HB4 := Lib.hid hb4
              have HV4 := Lib.hid hv4
              clear y2 y3 hv4 hb4
              have y2 := HBX4.out.cell
              go_upto_region 9 with fail
              obtain ⟨bx, hbx⟩ : ∃ b, w4.heap.size = b := ⟨_, rfl⟩
              obtain ⟨w5, hw5⟩ : ∃ W, w4.alloc (.cells #[.int .i64 x, .slice Ad ys.length cd] 53) = W := ⟨_, rfl⟩
              have hb5 : Below w4.heap.size w4 w5 := by rw [← hw5]; exact below_alloc (Below.refl _ _) _
              have HX5 : Hid (w5.heap[bx]? = some (.cells #[.int .i64 x, .slice Ad ys.length cd] 53 (0, 0))) := by show _ = _; rw [← hw5, ← hbx]; exact blk_new _ _
              have HBX5 := Lib.hid (boxed_blw HBX4.out hb5)
              have HNB : Hid (bx ≠ Bn) := by have := HBX4.out.lt; show _ ≠ _; omega
              have HV5 := Lib.hid (Kd.R_below HV4.out hb5)
              have HO5 := Lib.hid (OneBut.of_below (HB4.out.trans (hb5.mono HB4.out.size)) Bn)
              rw [hw5, hbx]
              clear hw5 hbx hb5 y2 HV4 HB4 HBX4
              have y2 := HBX5.out.cell
              have z2 := HBX5.out.frozen
              go_upto_region 10 with fail
              obtain ⟨w6, hw6⟩ : ∃ W, w5.setCell ⟨Bn, 0, none⟩ (.slice A5 s5.length c5) = W := ⟨_, rfl⟩
              have HBX6 : Hid (Boxed w6 Bn 24 (.slice A5 s5.length c5)) := by show Boxed _ _ _ _; rw [← hw6]; exact HBX5.out.set _
              have HX6 : Hid (w6.heap[bx]? = some (.cells #[.int .i64 x, .slice Ad ys.length cd] 53 (0, 0))) := by show _ = _; rw [← hw6]; exact (Below.heap_setCell _ _ _ _ HNB.out).trans HX5.out
              have HO6 : Hid (OneBut w3 w6 Bn) := by show OneBut _ _ _; rw [← hw6]; exact HO5.out.set _
              have HV6 : Hid ((Kd.int .u8).R 5 w6 w3.heap.size (fun _ => True) (.slice Ad ys.length cd) ys) := by
                show Kd.R _ _ _ _ _ _ _
                rw [← hw6]
                refine Kd.R_mono (Kd.R_move (Kd.R_bound HV5.out) (fun k hk => Below.heap_setCell _ _ _ _ ?_)) (fun _ hk => hk.1)
                have h1 := hk.2.1
                have h2 := HBX3.out.lt
                show k ≠ Bn
                omega
              rw [hw6]
              clear hw6 y2 z2 HV5 HO5 HX5 HBX5
              have y2 := HBX6.out.cell
              have y3 := (blk_cell HX6.out 0).trans rfl
              have y4 := (blk_cell HX6.out 1).trans rfl
              refine (wpIn_wide (n := n + 1)).1 ?_
              obtain ⟨fn, tmps, assign, body, hy, hR⟩ := HY1.out _ _ _ x ys Ad cd A5 s5.length c5 _ HJ3.out ⟨_, HBX3.out⟩ HO6.out HPL.out HYL.out HV6.out HZ0.out HZ1.out HBX6.out
              gi_wp2_with fail
              refine hR.mono ?_
              rintro e W3 ⟨rfl, hJ7, hB7⟩
              gi_wp2_with fail
              go_wp2_with fail
              have HBY5 : Hid (∀ y ∈ s5, 0 ≤ y ∧ y ≤ 255) := fun y hy2 => HBY2.out y (List.mem_cons_of_mem _ (List.mem_of_mem_drop (HS5.out ▸ hy2)))
              have HP5 : Hid (pGo s5 (pre ++ [⟨x, ys⟩]) = pGo b []) := by
                have h1 := HP2.out
                rw [Int.toNat_natCast, ← HYE.out, ← HS5.out] at h1
                exact h1
              go_roundg (s5.length)
              case measure => exact HM5.out
              case rel => exact ⟨s5, A5, c5, pre ++ [⟨x, ys⟩], rfl, HL5, Lib.hid (by have := HLP5.out; simp only [List.length_append, List.length_singleton]; omega), HBY5, HC5, Lib.hid hB7, Lib.hid hJ7, HP5⟩
            · have HR := Lib.hid (HP.out.symm.trans (pGo_stop HZ0.out HZ1.out (by rw [Int.toNat_natCast]; exact hms)))
              have g1 : ((mm : Int) > (s.length : Int)) = True := eq_true (by omega)
              have g2 : (s.length < mm) = True := eq_true (by omega)
              go_wp2_with fail
              try rw [hw2]
              have y2 := HBX2.out.cell
              have y3 := ((HJB.out _ _ HJ2.out).cell (World.block_lt_of_cell? w0 _ HXM.out)).trans HXM.out
              clear y1 z1 x0' hw2 hlb
              refine start_ (n := 13) (S := fun w' => w'.cell? ⟨Bn, 0, none⟩ = some (.slice (some ad2) rn c2) ∧ w'.cell? ad2 = some (.int .u8 (mm : Int))) (ds := []) #[false, false, false, false, false, false, false, false, false, false, false, false, false] (by kernel_rfl) rfl rfl ⟨y2, y3⟩ (fun hHeld => ?_)
              refine take_ (i := 0) (N := some 23) (v := .slice (some ad2) rn c2) (a' := ?_) #[true, false, false, false, false, false, false, false, false, false, false, false, false] rfl rfl (by kernel_rfl) (fun _ _ _ h => h) (Or.inl ⟨by rfl, ?_⟩) hHeld ?_ ?_
              · rintro w' ⟨s0, s1⟩
                go_simp
                try (with_reducible rfl)
              rotate_left
              · simp only [Act.put, List.setIfInBounds_toArray, List.set_cons_zero, List.set_cons_succ, i64_w, i32_w]
                rfl
              refine pure_ (i := 1) (N := some 24) (v := .int .i64 rn) (a' := ?_) #[true, true, false, false, false, false, false, false, false, false, false, false, false] rfl rfl (by kernel_rfl) (fun _ _ _ h => h) (Or.inl ⟨by rfl, ?_⟩) ?_ ?_
              · intro w'
                go_simp
                try (with_reducible rfl)
              rotate_left
              · simp only [Act.put, List.setIfInBounds_toArray, List.set_cons_zero, List.set_cons_succ, i64_w, i32_w]
                rfl
              refine pure_ (i := 2) (N := some 25) (v := .bool false) (a' := ?_) #[true, true, true, false, false, false, false, false, false, false, false, false, false] rfl rfl (by kernel_rfl) (fun _ _ _ h => h) (Or.inl ⟨by rfl, ?_⟩) ?_ ?_
              · intro w'
                go_simp
                try (with_reducible rfl)
              rotate_left
              · simp only [Act.put, List.setIfInBounds_toArray, List.set_cons_zero, List.set_cons_succ, i64_w, i32_w]
                rfl
              refine pure_ (i := 3) (N := some 26) (v := .bool false) (a' := ?_) #[true, true, true, true, false, false, false, false, false, false, false, false, false] rfl rfl (by kernel_rfl) (fun _ _ _ h => h) (Or.inl ⟨by rfl, ?_⟩) ?_ ?_
              · intro w'
                go_simp
                try (with_reducible rfl)
              rotate_left
              · simp only [Act.put, List.setIfInBounds_toArray, List.set_cons_zero, List.set_cons_succ, i64_w, i32_w]
                rfl
              refine take_ (i := 4) (N := some 27) (v := .slice (some ad2) rn c2) (a' := ?_) #[true, true, true, true, true, false, false, false, false, false, false, false, false] rfl rfl (by kernel_rfl) (fun _ _ _ h => h) (Or.inl ⟨by rfl, ?_⟩) hHeld ?_ ?_
              · rintro w' ⟨s0, s1⟩
                go_simp
                try (with_reducible rfl)
              rotate_left
              · simp only [Act.put, List.setIfInBounds_toArray, List.set_cons_zero, List.set_cons_succ, i64_w, i32_w]
                rfl
              refine pure_ (i := 5) (N := some 28) (v := .pointer (some ad2)) (a' := ?_) #[true, true, true, true, true, true, false, false, false, false, false, false, false] rfl rfl (by kernel_rfl) (fun _ _ _ h => h) (Or.inl ⟨by rfl, ?_⟩) ?_ ?_
              · intro w'
                go_simp
                try (with_reducible rfl)
              rotate_left
              · simp only [Act.put, List.setIfInBounds_toArray, List.set_cons_zero, List.set_cons_succ, i64_w, i32_w]
                rfl
              refine take_ (i := 6) (N := some 29) (v := .int .u8 (mm : Int)) (a' := ?_) #[true, true, true, true, true, true, true, false, false, false, false, false, false] rfl rfl (by kernel_rfl) (fun _ _ _ h => h) (Or.inl ⟨by rfl, ?_⟩) hHeld ?_ ?_
              · rintro w' ⟨s0, s1⟩
                go_simp
                try (with_reducible rfl)
              rotate_left
              · simp only [Act.put, List.setIfInBounds_toArray, List.set_cons_zero, List.set_cons_succ, i64_w, i32_w]
                rfl
              refine pure_ (i := 7) (N := some 30) (v := .int .i64 (mm : Int)) (a' := ?_) #[true, true, true, true, true, true, true, true, false, false, false, false, false] rfl rfl (by kernel_rfl) (fun _ _ _ h => h) (Or.inl ⟨by rfl, ?_⟩) ?_ ?_
              · intro w'
                go_simp
                try (with_reducible rfl)
              rotate_left
              · simp only [Act.put, List.setIfInBounds_toArray, List.set_cons_zero, List.set_cons_succ, i64_w, i32_w]
                rfl
              refine take_ (i := 8) (N := some 31) (v := .slice (some ad2) rn c2) (a' := ?_) #[true, true, true, true, true, true, true, true, true, false, false, false, false] rfl rfl (by kernel_rfl) (fun _ _ _ h => h) (Or.inl ⟨by rfl, ?_⟩) hHeld ?_ ?_
              · rintro w' ⟨s0, s1⟩
                go_simp
                try (with_reducible rfl)
              rotate_left
              · simp only [Act.put, List.setIfInBounds_toArray, List.set_cons_zero, List.set_cons_succ, i64_w, i32_w]
                rfl
              refine pure_ (i := 9) (N := some 32) (v := .int .i64 rn) (a' := ?_) #[true, true, true, true, true, true, true, true, true, true, false, false, false] rfl rfl (by kernel_rfl) (fun _ _ _ h => h) (Or.inl ⟨by rfl, ?_⟩) ?_ ?_
              · intro w'
                go_simp
                try (with_reducible rfl)
              rotate_left
              · simp only [Act.put, List.setIfInBounds_toArray, List.set_cons_zero, List.set_cons_succ, i64_w, i32_w]
                rfl
              refine pure_ (i := 10) (N := some 33) (v := .int .i64 (s.length : Int)) (a' := ?_) #[true, true, true, true, true, true, true, true, true, true, true, false, false] rfl rfl (by kernel_rfl) (fun _ _ _ h => h) (Or.inl ⟨by rfl, ?_⟩) ?_ ?_
              · intro w'
                go_simp
                try (with_reducible rfl)
              rotate_left
              · simp only [Act.put, List.setIfInBounds_toArray, List.set_cons_zero, List.set_cons_succ, i64_w, i32_w]
                rfl
              refine pure_ (i := 11) (N := some 34) (v := .bool true) (a' := ?_) #[true, true, true, true, true, true, true, true, true, true, true, true, false] rfl rfl (by kernel_rfl) (fun _ _ _ h => h) (Or.inl ⟨by rfl, ?_⟩) ?_ ?_
              · intro w'
                go_simp
                try (with_reducible rfl)
              rotate_left
              · simp only [Act.put, List.setIfInBounds_toArray, List.set_cons_zero, List.set_cons_succ, i64_w, i32_w]
                rfl
              refine pure_ (i := 12) (N := some 35) (v := .bool true) (a' := ?_) #[true, true, true, true, true, true, true, true, true, true, true, true, true] rfl rfl (by kernel_rfl) (fun _ _ _ h => h) (Or.inl ⟨by rfl, ?_⟩) ?_ ?_
              · intro w'
                go_simp
                try (with_reducible rfl)
              rotate_left
              · simp only [Act.put, List.setIfInBounds_toArray, List.set_cons_zero, List.set_cons_succ, i64_w, i32_w]
                rfl
              refine done_ (by kernel_rfl) ?_
              go_upto_region 11 with fail
              refine (wpIn_wide (n := n + 1)).1 ?_
              obtain ⟨fn, tmps, assign, body, hy, hR⟩ := HY3.out _ _ (HJG.out _ _ _ HJ2.out (below_drew (Below.refl _ _))) HR.out
              gi_wp2_with fail
              refine hR.mono ?_
              rintro e W3 ⟨⟨q, rfl⟩, hE⟩
              gi_wp2_with fail
              go_end0
              exact ⟨⟨_, rfl⟩, hE⟩
end Go.Proofs.YtdpoknfidlekbaaDoor
end

section
namespace Go.Proofs.YtdpoknfidlekbaaDoor
open Go.RowKit Go.Proofs.YtdpoknfidlekbaaDoor.Pr Go.Proofs.YtdpoknfidlekbaaDoorW.PrintWords Go.Proofs.YtdpoknfidlekbaaDoorW.PrintLast Go.Proofs.YtdpoknfidlekbaaDoorW.PrintMore
attribute [local go_sem] max2_int min2_int max_two min_two max_three min_three max_four min_four
set_option linter.unusedVariables false
set_option linter.unusedSimpArgs false

def lenOfT : Value → Nat | .slice _ n _ => n | _ => 0
set_option maxHeartbeats 2000000 in
set_option maxRecDepth 100000 in
theorem triml_calls (A : Option Addr) (c : Nat) (l : List Int) (w : World) (hC : (Kd.int .u8).C w A l.length l) (hc : l.length ≤ c) :
    Calls Tryd.prog 42 #[.slice A l.length c, .int .u8 0] w fun e w' => ∃ A' n' c', e = .returned (.slice A' n' c') ∧ (n' = 0 ↔ ∀ x ∈ l, x = 0) ∧ w' = w := by
  have HC := Lib.hid hC
  have hlen : l.length ≤ 9223372036854775807 := hC.2.1
  clear hC
  obtain ⟨i0, hinf, hzz⟩ := Option.map_eq_some_iff.1 cl_info
  simp only [Prod.mk.injEq] at hzz
  have hone := hzz.2.1
  clear hzz
  have HINF : Hid (Tryd.prog.info? 5 = some i0) := hinf
  have HONE : Hid (i0.size = 1) := hone
  clear hinf hone
  go_enter Tryd.func42, Tryd.ntmps42
  go_wp2_with fail
  go_loopw [0] (fun at_ wr => ∃ (l' : List Int) (A' : Option Addr) (c' : Nat), at_ = .slice A' l'.length c' ∧ l'.length ≤ c' ∧ l'.length ≤ l.length ∧ Hid ((Kd.int .u8).C w A' l'.length l') ∧ Hid ((∀ x ∈ l', x = 0) ↔ ∀ x ∈ l, x = 0) ∧ wr = w) (fun at_ _ => lenOfT at_)
  case atStart => exact ⟨l, A, c, rfl, hc, Nat.le_refl _, HC, Iff.rfl, rfl⟩
  case round =>
    obtain ⟨l', A', c', rfl, hc', hl', HC', HI, rfl⟩ := hrel
    cases l' with
    | nil =>
      go_wp2_with fail
      go_ret
      exact ⟨_, _, _, rfl, ⟨fun _ => HI.out.1 (by simp), fun _ => rfl⟩, rfl⟩
    | cons x l2 =>
      obtain ⟨ad, rfl, x0⟩ := Kd.at_int HC'.out 0 (by omega) (by simp only [List.length_cons]; omega)
      have x0' : wr.cell? ad = some (.int .u8 x) := x0
      have C2 := Kd.C_drop (c := c') (m := 1) HC'.out (by simp) hc'
      rw [show (Kd.int .u8).sz = 1 from rfl, Nat.mul_one] at C2
      change (Kd.int .u8).C wr _ l2.length l2 at C2
      obtain ⟨nn, hnn⟩ : ∃ nn, nn = (x :: l2).length := ⟨_, rfl⟩
      have hn2 : nn = l2.length + 1 := hnn
      rw [← hnn] at hc' hl' ⊢
      have r1 := cut_from (P := Tryd.prog) 24 5 .i64 Tryd.underlying24 HINF.out 1 HONE.out (some ad) nn c' 1 (by omega) (by omega)
      rw [show (1 : Int).toNat = 1 from rfl, Nat.mul_one, show nn - 1 = l2.length from by omega] at r1
      obtain ⟨A2, hA2⟩ : ∃ A2, A2 = (if c' = 1 then some ad else (some ad).map (·.add 1)) := ⟨_, rfl⟩
      obtain ⟨c2, hc2⟩ : ∃ c2, c2 = c' - 1 := ⟨_, rfl⟩
      rw [← hA2] at C2
      rw [← hA2, ← hc2] at r1
      have HC2 := Lib.hid C2
      have hl2 : l2.length ≤ c2 := by omega
      have p0 : ((nn : Int) > 0) = True := eq_true (by omega)
      have p1 : (0 < nn) = True := eq_true (by omega)
      have p2 : ((nn : Int) == 0) = false := beq_eq_false_iff_ne.2 (by omega)
      have p3 : (nn = 0) = False := eq_false (by omega)
      have p4 : (nn == 0) = false := beq_eq_false_iff_ne.2 (by omega)
      have HN := Lib.hid hn2
      clear x0 C2 hA2 hc2 hnn hn2 HC'
      by_cases hx : x = 0
      · subst hx
        go_wp2_with fail
        go_roundw
        case rel =>
          have h2 := HN.out
          have hI : Hid ((∀ x ∈ l2, x = 0) ↔ ∀ x ∈ l, x = 0) := ⟨fun h => HI.out.1 (fun y hy => (List.mem_cons.1 hy).elim (fun e => e) (h y)), fun h y hy => HI.out.2 h y (List.mem_cons_of_mem _ hy)⟩
          first
            | exact ⟨l2, A2, c2, rfl, hl2, by omega, HC2, hI, by first | rfl | trivial⟩
            | ((repeat apply Exists.intro); exact ⟨⟨l2, A2, c2, rfl, hl2, by omega, HC2, hI, by first | rfl | trivial⟩, rfl⟩)
        case measure =>
          have h2 := HN.out
          simp [lenOfT]; omega
      · have q1 : (x == 0) = false := beq_eq_false_iff_ne.2 hx
        have HX := Lib.hid hx
        clear hx
        go_wp2_with fail
        go_ret
        exact ⟨_, _, _, rfl, ⟨fun h => by have := HN.out; omega, fun h => absurd (HI.out.2 h x (by simp)) HX.out⟩, rfl⟩
set_option maxHeartbeats 2000000 in
set_option maxRecDepth 100000 in
theorem trimr_calls (A : Option Addr) (c : Nat) (l : List Int) (w : World) (hC : (Kd.int .u8).C w A l.length l) (hc : l.length ≤ c) :
    Calls Tryd.prog 43 #[.slice A l.length c, .int .u8 0] w fun e w' => ∃ l' : List Int, e = .returned (.slice A l'.length c) ∧ (Kd.int .u8).C w A l'.length l' ∧ l'.length ≤ c ∧ ((∀ x ∈ l', x = 0) ↔ ∀ x ∈ l, x = 0) ∧ w' = w := by
  have HC := Lib.hid hC
  have hlen : l.length ≤ 9223372036854775807 := hC.2.1
  clear hC
  obtain ⟨i0, hinf, hzz⟩ := Option.map_eq_some_iff.1 cl_info
  clear hzz
  have HINF : Hid (Tryd.prog.info? 5 = some i0) := hinf
  clear hinf
  go_enter Tryd.func43, Tryd.ntmps43
  go_wp2_with fail
  go_loopw [0] (fun at_ wr => ∃ (l' : List Int), at_ = .slice A l'.length c ∧ l'.length ≤ c ∧ l'.length ≤ l.length ∧ Hid ((Kd.int .u8).C w A l'.length l') ∧ Hid ((∀ x ∈ l', x = 0) ↔ ∀ x ∈ l, x = 0) ∧ wr = w) (fun at_ _ => lenOfT at_)
  case atStart => exact ⟨l, rfl, hc, Nat.le_refl _, HC, Iff.rfl, rfl⟩
  case round =>
    obtain ⟨l', rfl, hc', hl', HC', HI, rfl⟩ := hrel
    by_cases he : l' = []
    · subst he
      go_wp2_with fail
      go_ret
      exact ⟨[], rfl, HC'.out, by simp, HI.out, rfl⟩
    · have hpos : 0 < l'.length := List.length_pos_iff.2 he
      obtain ⟨j, hj⟩ : ∃ j : Nat, l'.length = j + 1 := ⟨l'.length - 1, by omega⟩
      obtain ⟨ad, rfl, x0⟩ := Kd.at_int HC'.out (j : Int) (by omega) (by omega)
      rw [Int.toNat_natCast] at x0
      obtain ⟨x, hx⟩ : ∃ x, rd l' (j : Int) = x := ⟨_, rfl⟩
      rw [hx] at x0
      have hmem : x ∈ l' := by
        rw [← hx]; unfold rd
        rw [Int.toNat_natCast, List.getD_eq_getElem?_getD, List.getElem?_eq_getElem (by omega)]
        exact List.getElem_mem _
      have hdrop : l'.take j ++ [x] = l' := by
        have : l'[j] = x := by rw [← hx]; unfold rd; rw [Int.toNat_natCast, List.getD_eq_getElem?_getD, List.getElem?_eq_getElem (by omega)]; rfl
        rw [← this, ← List.take_succ_eq_append_getElem (by omega), ← hj, List.take_length]
      have C2 := Kd.C_take (m := j) HC'.out (by omega)
      have htl : (l'.take j).length = j := by rw [List.length_take]; omega
      have r2 := cut_to (P := Tryd.prog) 24 5 .i64 Tryd.underlying24 HINF.out (some ad) l'.length c (j : Int) (by omega) (by omega) hc'
      rw [Int.toNat_natCast] at r2
      have e1 : IntKind.i64.wrap ((l'.length : Int) - 1) = (j : Int) := by rw [hj]; rw [IntWalk.i64_in _ (by omega)]; omega
      obtain ⟨nn, hnn⟩ : ∃ nn, nn = l'.length := ⟨_, rfl⟩
      rw [← hnn] at hc' hl' r2 e1 hj ⊢
      have p0 : ((nn : Int) > 0) = True := eq_true (by omega)
      have p1 : (0 < nn) = True := eq_true (by omega)
      have p2 : (0 ≤ (j : Int)) = True := eq_true (by omega)
      have p3 : ((j : Int) < (nn : Int)) = True := eq_true (by omega)
      have p4 : (j < nn) = True := eq_true (by omega)
      have HC2 := Lib.hid C2
      have HN := Lib.hid hj
      have HM := Lib.hid hmem
      have HDR := Lib.hid hdrop
      have HTL := Lib.hid htl
      have HNN := Lib.hid hnn
      have HCX := Lib.hid HC'.out
      clear C2 hnn hj hmem hdrop htl hx HC' hpos he
      by_cases hx : x = 0
      · subst hx
        go_wp2_with fail
        go_roundw
        case rel =>
          have h2 := HN.out
          have h3 := HTL.out
          have hI : Hid ((∀ x ∈ l'.take j, x = 0) ↔ ∀ x ∈ l, x = 0) := ⟨fun h => HI.out.1 (fun y hy => (List.mem_append.1 (HDR.out.symm ▸ hy)).elim (h y) List.mem_singleton.1), fun h y hy => HI.out.2 h y (List.mem_of_mem_take hy)⟩
          first
            | exact ⟨l'.take j, by rw [h3], by omega, by omega, HC2, hI, by first | rfl | trivial⟩
            | ((repeat apply Exists.intro); exact ⟨⟨l'.take j, by rw [h3], by omega, by omega, HC2, hI, by first | rfl | trivial⟩, rfl⟩)
        case measure =>
          have h2 := HN.out
          simp [lenOfT]; omega
      · have q1 : (x == 0) = false := beq_eq_false_iff_ne.2 hx
        clear hx
        go_wp2_with fail
        go_ret
        exact ⟨l', by rw [HNN.out]; rfl, HCX.out, by rw [← HNN.out]; exact hc', HI.out, rfl⟩
set_option maxHeartbeats 2000000 in
set_option maxRecDepth 100000 in
theorem trim_calls (A : Option Addr) (c : Nat) (l : List Int) (w : World) (hC : (Kd.int .u8).C w A l.length l) (hc : l.length ≤ c) :
    Calls Tryd.prog 38 #[.slice A l.length c, .string ⟨#[0]⟩] w fun e w' => ∃ A' n' c', e = .returned (.slice A' n' c') ∧ (n' = 0 ↔ ∀ x ∈ l, x = 0) ∧ Below w.heap.size w w' := by
  have HC := Lib.hid hC
  have hlen : l.length ≤ 9223372036854775807 := hC.2.1
  clear hC
  by_cases he : l = []
  · subst he
    go_enter Tryd.func38, Tryd.ntmps38
    go_wp2_with fail
    go_ret
    exact ⟨_, _, _, rfl, by simp, Below.refl _ _⟩
  · have hpos : 0 < l.length := List.length_pos_iff.2 he
    have HR := Lib.hid (fun W (hb : Below w.heap.size w W) => trimr_calls A c l W (Kd.C_below HC.out hb) hc)
    obtain ⟨nn, hnn⟩ : ∃ nn, nn = l.length := ⟨_, rfl⟩
    rw [← hnn] at hpos HR ⊢
    have p1 : (nn = 0) = False := eq_false (by omega)
    have p2 : ((nn : Int) == 0) = false := beq_eq_false_iff_ne.2 (by omega)
    have p3 : (nn == 0) = false := beq_eq_false_iff_ne.2 (by omega)
    have hidx : ∀ W : World, (Instr.index 9 (.string ⟨#[0]⟩) (.int .i64 0)).run Tryd.prog W = .ok (.int .u8 0) W := fun _ => by rfl
    clear hnn he hpos hc hlen HC
    go_enter Tryd.func38, Tryd.ntmps38
    go_wp2_with fail
    refine start_ (n := 8) (S := fun w' => True) (ds := []) #[false, false, false, false, false, false, false, false] (by kernel_rfl) rfl rfl trivial (fun hHeld => ?_)
    obtain ⟨W2, hW2⟩ : ∃ W2, w.drew = W2 := ⟨_, rfl⟩
    have HW2 : Hid (Below w.heap.size w W2) := by show Below _ _ _; rw [← hW2]; exact below_drew (Below.refl _ _)
    rw [hW2]
    clear hW2
    refine pure_ (i := 0) (N := some 21) (v := ?_) (a' := ?_) #[true, false, false, false, false, false, false, false] rfl rfl (by kernel_rfl) (fun _ _ _ h => h) (Or.inl ⟨by rfl, ?_⟩) ?_ ?_
    rotate_left
    · intro w'
      go_simp
      with_reducible rfl
    rotate_left
    · simp only [Act.put, List.setIfInBounds_toArray, List.set_cons_zero, List.set_cons_succ, i64_w, i32_w]
      rfl
    refine pure_ (i := 1) (N := some 22) (v := ?_) (a' := ?_) #[true, true, false, false, false, false, false, false] rfl rfl (by kernel_rfl) (fun _ _ _ h => h) (Or.inl ⟨by rfl, ?_⟩) ?_ ?_
    rotate_left
    · intro w'
      go_simp
      with_reducible rfl
    rotate_left
    · simp only [Act.put, List.setIfInBounds_toArray, List.set_cons_zero, List.set_cons_succ, i64_w, i32_w]
      rfl
    refine pure_ (i := 2) (N := some 23) (v := .int .u8 0) (a' := ?_) #[true, true, true, false, false, false, false, false] rfl rfl (by kernel_rfl) (fun _ _ _ h => h) (Or.inl ⟨by rfl, ?_⟩) ?_ ?_
    · intro w'
      go_simp
      try (with_reducible rfl)
    rotate_left
    · simp only [Act.put, List.setIfInBounds_toArray, List.set_cons_zero, List.set_cons_succ, i64_w, i32_w]
      rfl
    refine pure_ (i := 4) (N := some 25) (v := ?_) (a' := ?_) #[true, true, true, false, true, false, false, false] rfl rfl (by kernel_rfl) (fun _ _ _ h => h) (Or.inl ⟨by rfl, ?_⟩) ?_ ?_
    rotate_left
    · intro w'
      go_simp
      with_reducible rfl
    rotate_left
    · simp only [Act.put, List.setIfInBounds_toArray, List.set_cons_zero, List.set_cons_succ, i64_w, i32_w]
      rfl
    refine pure_ (i := 5) (N := some 26) (v := .int .u8 0) (a' := ?_) #[true, true, true, false, true, true, false, false] rfl rfl (by kernel_rfl) (fun _ _ _ h => h) (Or.inl ⟨by rfl, ?_⟩) ?_ ?_
    · intro w'
      go_simp
      try (with_reducible rfl)
    rotate_left
    · simp only [Act.put, List.setIfInBounds_toArray, List.set_cons_zero, List.set_cons_succ, i64_w, i32_w]
      rfl
    refine one_ (i := 3) (N := some 24) #[true, true, true, true, true, true, false, false] rfl rfl (by kernel_rfl) (by decide) (fun K hK => ?_)
    refine goes_ Tryd.func43 (by kernel_rfl) rfl #[.slice A nn c, .int .u8 0] (by rfl) rfl rfl (by (try simp only [List.map_toArray, List.map_cons, List.map_nil]); rfl) ?_
    refine (HR.out _ HW2.out).mono ?_
    rintro e w6 ⟨l2, rfl, hc2, hl2, hi2, rfl⟩
    have HC2 := Lib.hid hc2
    have HI2 := Lib.hid hi2
    clear hc2 hi2 hHeld
    refine ⟨_, rfl, ?_⟩
    refine hK.out _ _ trivial (fun hHeld => ?_)
    clear hK K
    try (refine norm_ (a' := ?_) ?_ ?_; rotate_left; focus (simp only [Act.put, List.setIfInBounds_toArray, List.set_cons_zero, List.set_cons_succ, i64_w, i32_w]; rfl))
    refine one_ (i := 6) (N := some 27) #[true, true, true, true, true, true, true, false] rfl rfl (by kernel_rfl) (by decide) (fun K hK => ?_)
    refine goes_ Tryd.func42 (by kernel_rfl) rfl #[.slice A l2.length c, .int .u8 0] (by rfl) rfl rfl (by (try simp only [List.map_toArray, List.map_cons, List.map_nil]); rfl) ?_
    refine (triml_calls A c l2 _ HC2.out hl2).mono ?_
    rintro e w7 ⟨A7, n7, c7, rfl, hi7, rfl⟩
    have HI7 := Lib.hid (hi7.trans HI2.out)
    clear hi7 hHeld
    refine ⟨_, rfl, ?_⟩
    refine hK.out _ _ trivial (fun hHeld => ?_)
    clear hK K
    try (refine norm_ (a' := ?_) ?_ ?_; rotate_left; focus (simp only [Act.put, List.setIfInBounds_toArray, List.set_cons_zero, List.set_cons_succ, i64_w, i32_w]; rfl))
    refine pure_ (i := 7) (N := some 4) (v := ?_) (a' := ?_) #[true, true, true, true, true, true, true, true] rfl rfl (by kernel_rfl) (fun _ _ _ h => h) (Or.inl ⟨by rfl, ?_⟩) ?_ ?_
    rotate_left
    · intro w'
      go_simp
      with_reducible rfl
    rotate_left
    · simp only [Act.put, List.setIfInBounds_toArray, List.set_cons_zero, List.set_cons_succ, i64_w, i32_w]
      rfl
    refine done_ (by kernel_rfl) ?_
    go_wp2_with fail
    go_ret
    exact ⟨_, _, _, rfl, HI7.out, HW2.out⟩
end Go.Proofs.YtdpoknfidlekbaaDoor
end

section
namespace Go.Proofs.YtdpoknfidlekbaaDoor
open Go.RowKit Go.Proofs.YtdpoknfidlekbaaDoor.Pr Go.Proofs.YtdpoknfidlekbaaDoorW.PrintWords Go.Proofs.YtdpoknfidlekbaaDoorW.PrintLast Go.Proofs.YtdpoknfidlekbaaDoorW.PrintMore
attribute [local go_sem] max2_int min2_int max_two min_two max_three min_three max_four min_four Oper.semAt_some
set_option linter.unusedVariables false
set_option linter.unusedSimpArgs false

theorem parts_calls (A0 : Option Addr) (n c0 : Nat) (w : World) :
    Calls Tryd.prog 49 #[.slice A0 n c0] w fun e w' => e = .returned (.func (.func 54) #[] #[.pointer (some ⟨w.heap.size, 0, none⟩)]) ∧ w' = w.alloc (.cells #[.slice A0 n c0] 24) := by
  go_enter Tryd.func49, Tryd.ntmps49
  go_wp2
  go_ret
  exact ⟨rfl, rfl⟩

/-- A round whose assignment turns the world. -/
theorem rf_roundA {P : Program} {n l : Nat} {W W1 : World} {args : Array Value} (R : Bool → Option Code → World → Prop) {fn : FuncId} {tmps : Array Value} {ps : Array Tmp} {assign body : Code} {dk : Nat} {r : LoopState → Option Code → Loop}
    (hr : r = rfRec fn tmps ps assign body dk) (hl : W.heap[l]? = some (.loop (r .ready none))) (hl1 : W1.heap[l]? = some (.loop (r .ready none))) (hs : args.size = ps.size) (a₁ : Act)
    (hassign : ∀ K : Act → World → Prop, K a₁ W1 → assign.wpIn (Fence.wide.inRound l) n P (Exit.then K (fun _ _ _ => False)) { tmps := (ps.zip args).foldl (fun t (p, v) => t.setIfInBounds p v) tmps, defers := [] } W)
    (hbody : body.wpIn (Fence.wide.inRound l) n P (rfPost r l R) a₁ (W1.putObj l (.loop (r .busy none)))) :
    YieldAt Fence.wide n P l args W fun e W' => ∃ b jump, e = .returned (.bool b) ∧ R b jump W' ∧ (b = true → jump = none) := by
  subst hr
  have hy := run_yield (P := P) (args := args) hl (by simpa [rfRec] using hs)
  refine ⟨fn, _, assign, body, hy, roundIn_of_wpIn trivial (hassign _ ⟨_, run_beginRound hl1 rfl, ?_⟩)⟩
  refine wpIn_mono hbody ?_
  intro e a W3 hp
  cases e with
  | normal =>
    obtain ⟨hb, hr⟩ := hp
    exact ⟨_, _, run_endRound (P := P) none hb, true, none, rfl, hr, fun _ => rfl⟩
  | ret =>
    obtain ⟨hb, hr⟩ := hp
    exact ⟨_, _, run_endRound (P := P) (some .ret) hb, false, some .ret, rfl, hr, fun h => by cases h⟩
  | exit id =>
    obtain ⟨hb, hr⟩ := hp
    exact ⟨_, _, run_endRound (P := P) (some (.exit id)) hb, false, some (.exit id), rfl, hr, fun h => by cases h⟩
  | goto t => exact hp.elim
  | panic ch => exact hp.elim
  | outgrown => exact hp.elim

theorem pinfo : (Tryd.prog.info? 53).map (fun i => (i.zero, i.size, i.bytes)) = some (some (.agg #[.int .i64 0, .slice none 0 0]), 2, 32) := by kernel_rfl
/-! ### what Decode hands back -/
def odR (l : List Int) : List OptP × Int := if 1024 < l.length then ([], 2) else match pGo l [] with | (pre, some r) => if ∀ x ∈ r, x = 0 then (pre, 0) else ([], 2) | (_, none) => ([], 2)
def option_Decode.f (l0 : List Int) : Option (List OptP × Int) := if (∀ x ∈ l0, 0 ≤ x ∧ x ≤ 255) ∧ l0.length < 1099511627776 then some (odR l0) else none

/-- Between two rounds. -/
structure DecJ (w : World) (D : Nat) (r : Loop) (pre : List OptP) (W : World) : Prop where
  b0 : Boxed W w.heap.size 25 (.slice none 0 0)
  b1 : Boxed W (w.heap.size + 1) 29 (.int .i64 0)
  row : ∃ A c, Boxed W (w.heap.size + 2) 25 (.slice A pre.length c) ∧ Kd.S k53 53 W w.heap.size (fun _ => True) (.slice A pre.length c) pre
  below : Below w.heap.size w W
  loop : W.heap[D + 1]? = some (.loop r)
  coll : W.heap[D]? = some (.deferred (some []))
/-- Behind the last. -/
structure DecE (w : World) (D : Nat) (r : Loop) (res : List OptP × Int) (W : World) : Prop where
  row : ∃ A c, Boxed W w.heap.size 25 (.slice A res.1.length c) ∧ Kd.S k53 53 W w.heap.size (fun _ => True) (.slice A res.1.length c) res.1
  b1 : Boxed W (w.heap.size + 1) 29 (.int .i64 res.2)
  below : Below w.heap.size w W
  loop : W.heap[D + 1]? = some (.loop r)
  coll : W.heap[D]? = some (.deferred (some []))
theorem DecJ.grow {w W W' : World} {D : Nat} {r : Loop} {pre : List OptP} (h : DecJ w D r pre W) (hg : Below W.heap.size W W') : DecJ w D r pre W' := by
  obtain ⟨A, c, bo, hs⟩ := h.row
  exact ⟨boxed_below h.b0 hg, boxed_below h.b1 hg, ⟨A, c, boxed_below bo hg, Kd.S_below hs hg⟩, below_then h.below h.below.size hg, below_heap hg h.loop, below_heap hg h.coll⟩
theorem DecJ.one {w W W' : World} {D : Nat} {r : Loop} {pre : List OptP} (h : DecJ w D r pre W) {q : Nat} {v : Value} (hq : Boxed W q 24 v) (hg : OneBut W W' q) (hq3 : w.heap.size + 2 < q) (hqD : q < D) : DecJ w D r pre W' := by
  obtain ⟨A, c, bo, hs⟩ := h.row
  have hm : ∀ k, k < W.heap.size → k ≠ q → W'.heap[k]? = W.heap[k]? := hg.block
  refine ⟨(hm _ h.b0.lt (by omega)).trans h.b0, (hm _ h.b1.lt (by omega)).trans h.b1, ⟨A, c, (hm _ bo.lt (by omega)).trans bo, ?_⟩, ?_, (hm _ (lt_of_heap h.loop) (by omega)).trans h.loop, (hm _ (lt_of_heap h.coll) (by omega)).trans h.coll⟩
  · exact Kd.S_mono (Kd.S_step (Kd.S_types hs hq (by decide)) (fun k hk hlt => hm k hlt hk.2)) (fun _ _ => trivial)
  · refine h.below.trans ⟨hg.os, hg.tape, hg.output, hg.size, fun k hk => hm k ?_ (by omega)⟩
    have := h.below.size; omega

/-- The answer laid, the round left. -/
theorem dec_end {w W : World} {D : Nat} {r : LoopState → Option Code → Loop} {v0 z0 : Value} {A : Option Addr} {c : Nat} {z : Int} {xs : List OptP} (c0 : Boxed W w.heap.size 25 v0) (c1 : Boxed W (w.heap.size + 1) 29 z0)
    (hS : Kd.S k53 53 W w.heap.size (fun _ => True) (.slice A xs.length c) xs) (hB : Below w.heap.size w W) (hl : W.heap[D + 1]? = some (.loop (r .busy none))) (hd : W.heap[D]? = some (.deferred (some []))) (hD : w.heap.size + 4 ≤ D) :
    ((W.setCell ⟨w.heap.size, 0, none⟩ (.slice A xs.length c)).setCell ⟨w.heap.size + 1, 0, none⟩ (.int .i64 z)).heap[D + 1]? = some (.loop (r .busy none)) ∧
      DecE w D (r .done (some .ret)) (xs, z) (((W.setCell ⟨w.heap.size, 0, none⟩ (.slice A xs.length c)).setCell ⟨w.heap.size + 1, 0, none⟩ (.int .i64 z)).putObj (D + 1) (.loop (r .done (some .ret)))) := by
  have d1 := boxed_set_other (B' := w.heap.size) (.slice A xs.length c) c1 (by omega)
  have e0 := boxed_set_other (B' := w.heap.size + 1) (.int .i64 z) (c0.set (.slice A xs.length c)) (by omega)
  have e1 := d1.set (.int .i64 z)
  have eS := Kd.S_set (Kd.S_set hS c0 (by decide) 0 (.slice A xs.length c)) d1 (by decide) 0 (.int .i64 z)
  have el := set_heap (u := .int .i64 z) d1 (set_heap (u := .slice A xs.length c) c0 hl rfl) rfl
  have ed := set_heap (u := .int .i64 z) d1 (set_heap (u := .slice A xs.length c) c0 hd rfl) rfl
  have eB := (hB.setCell (p := ⟨w.heap.size, 0, none⟩) (Nat.le_refl _) (.slice A xs.length c)).setCell (p := ⟨w.heap.size + 1, 0, none⟩) (Nat.le_succ _) (.int .i64 z)
  exact ⟨el, ⟨A, c, boxed_put e0 _ el rfl, S_put eS _ el rfl⟩, boxed_put e1 _ el rfl, below_put eB _ (by omega), put_same _ el, put_other _ (by omega) ed⟩
theorem dec_results {tmps : Array Value} {W : World} {bl be : Nat} {A : Option Addr} {n c : Nat} {z : Int} (h2 : tmps[2]? = some (.pointer (some ⟨bl, 0, none⟩))) (h3 : tmps[3]? = some (.pointer (some ⟨be, 0, none⟩)))
    (hl : Boxed W bl 25 (.slice A n c)) (hf : Boxed W be 29 (.int .i64 z)) : (results Tryd.f39 tmps).run Tryd.prog W = .ok (.tuple #[.slice A n c, .int .i64 z]) W := by
  have y1 := hl.cell
  have y2 := hf.cell
  simp [results, Tryd.results39, go_sem, h2, h3, y1, y2]

set_option maxHeartbeats 4000000 in
set_option maxRecDepth 100000 in
theorem option_Decode.calls (A0 : Option Addr) (c0 : Nat) (l0 : List Int) (r1 : List OptP) (r2 : Int) (w : World) (hr0 : Kd.C (Kd.int .u8) w A0 l0.length l0) (hc0 : l0.length ≤ c0) (h : option_Decode.f l0 = some (r1, r2)) :
    Calls Tryd.prog 39 #[.slice A0 l0.length c0] w fun e w' => ∃ v0_ : Value, e = .returned (.tuple #[v0_, .int .i64 r2]) ∧ Kd.S k53 53 w' w.heap.size (fun _ => True) v0_ r1 ∧ Below w.heap.size w w' := by
  unfold option_Decode.f at h
  split at h
  case isFalse => cases h
  rename_i hcond
  obtain ⟨hbytes, hlen⟩ := hcond
  have HRES : Hid (odR l0 = (r1, r2)) := Option.some.inj h
  clear h
  have HC := Lib.hid hr0
  have HBY := Lib.hid hbytes
  clear hr0 hbytes
  by_cases hl : 1024 < l0.length
  · have e : odR l0 = ([], 2) := by unfold odR; rw [if_pos hl]
    obtain ⟨rfl, rfl⟩ := Prod.mk.inj (e.symm.trans HRES.out)
    clear e HRES
    have p1 : ((l0.length : Int) > 1024) = True := eq_true (by omega)
    go_enter Tryd.func39, Tryd.ntmps39
    go_wp2_with fail
    refine bodyPost_ret (v := .tuple #[.slice none 0 0, .int .i64 2]) (by simp [results, Tryd.results39, go_sem]) rfl ⟨_, rfl, Kd.S_nil _ _ _ _ _, below_alloc (below_alloc (Below.refl _ _) _) _⟩
  · have p1 : ((l0.length : Int) > 1024) = False := eq_false (by omega)
    have p2 : (1024 < l0.length) = False := eq_false hl
    refine (callsIn_wide (n := 3)).1 (callsIn_of_wp_marks Tryd.func39 rfl trivial ?_ rfl)
    simp only [Tryd.ntmps39, List.size_toArray, List.length_cons, List.length_nil, Nat.reduceAdd, Nat.reduceSub, Array.replicate_succ, Array.replicate_zero, List.push_toArray, List.append_toArray, List.nil_append, List.cons_append]
    gi_wp2_with (refine ⟨trivial, ?_⟩; gi_at_call 49; refine callsIn_wide.2 ((parts_calls _ _ _ _).mono ?_); rintro e w' ⟨rfl, rfl⟩)
    obtain ⟨W0, hW0⟩ : ∃ W0, ((((w.alloc (Obj.cells #[Value.slice none 0 0] 25)).alloc (Obj.cells #[Value.int IntKind.i64 0] 29)).alloc (Obj.cells #[Value.slice none 0 0] 25)).alloc (Obj.cells #[Value.slice A0 l0.length c0] 24)) = W0 := ⟨_, rfl⟩
    have hsz : W0.heap.size = w.heap.size + 4 := by rw [← hW0]; simp
    have HSZ := Lib.hid hsz
    clear hsz
    have b0 : Boxed W0 w.heap.size 25 (.slice none 0 0) := by rw [← hW0]; exact (((Boxed.new _ _ _).alloc _).alloc _).alloc _
    have b1 : Boxed W0 (w.heap.size + 1) 29 (.int .i64 0) := by
      rw [← hW0]
      have := ((Boxed.new (w.alloc (Obj.cells #[Value.slice none 0 0] 25)) 29 (.int .i64 0)).alloc (Obj.cells #[Value.slice none 0 0] 25)).alloc (Obj.cells #[Value.slice A0 l0.length c0] 24)
      rwa [World.size_alloc] at this
    have bo : Boxed W0 (w.heap.size + 2) 25 (.slice none 0 0) := by
      rw [← hW0]
      have := (Boxed.new ((w.alloc (Obj.cells #[Value.slice none 0 0] 25)).alloc (Obj.cells #[Value.int IntKind.i64 0] 29)) 25 (.slice none 0 0)).alloc (Obj.cells #[Value.slice A0 l0.length c0] 24)
      rwa [World.size_alloc, World.size_alloc] at this
    have bB : Boxed W0 (w.heap.size + 1 + 1 + 1) 24 (.slice A0 l0.length c0) := by
      rw [← hW0]
      have := Boxed.new (((w.alloc (Obj.cells #[Value.slice none 0 0] 25)).alloc (Obj.cells #[Value.int IntKind.i64 0] 29)).alloc (Obj.cells #[Value.slice none 0 0] 25)) 24 (.slice A0 l0.length c0)
      rwa [World.size_alloc, World.size_alloc, World.size_alloc] at this
    have hB0 : Below w.heap.size w W0 := by rw [← hW0]; exact below_alloc (below_alloc (below_alloc (below_alloc (Below.refl _ _) _) _) _) _
    rw [hW0]
    clear hW0
    have hgs := fun r => rfStart_below W0 r
    refine rf_wide (gf := 54) (lb := #[.pointer (some ⟨w.heap.size + 1 + 1 + 1, 0, none⟩)]) rfl (fun args w => enters_ Tryd.func54 (by kernel_rfl) rfl args w) ?_
    intro fn r hr
    have HRR := Lib.hid hr
    clear hr
    refine (parts1_calls l0 w HBY.out hlen 3 (W0.heap.size + 1) (w.heap.size + 1 + 1 + 1) (DecJ w W0.heap.size (r .ready none)) (DecE w W0.heap.size (r .done (some .ret)) (r1, r2)) (by omega) ?hJb ?hJg ?hJs ?hY1 ?hY2 ?hY3 _ ?h0 A0 c0 HC.out hc0 (boxed_below bB (hgs _))).mono ?post
    case hJb => exact fun pre W h => h.below
    case hJg => exact fun pre W W' h hg => h.grow hg
    case hJs => exact fun pre W v u h hq => h.one hq ((OneBut.of_below (Below.refl _ _) _).set u) (by omega) (by have := HSZ.out; omega)
    case h0 => exact ⟨boxed_below b0 (hgs _), boxed_below b1 (hgs _), ⟨none, 0, boxed_below bo (hgs _), Kd.S_nil _ _ _ _ _⟩, below_then hB0 hB0.size (hgs _), rfStart_loop _ _, rfStart_def _ _⟩
    case hY1 =>
      rintro pre Wa Wb x d Ad cd As ns cs bv hJ ⟨bv0, hq⟩ hO hpl hdl hR hx0 hx1 hB
      have hJ2 := hJ.one hq hO (by omega) (by have := HSZ.out; omega)
      obtain ⟨Av, cv, bo1, hs1⟩ := hJ.row
      have hsB : Kd.S k53 53 Wb w.heap.size (fun k => k < Wa.heap.size) (.slice Av pre.length cv) pre :=
        Kd.S_mono (Kd.S_step (Kd.S_types (Kd.S_bound hs1) hq (by decide)) (fun k hk hlt => hO.block k hlt hk.2)) (fun k hk => hk.1.2.2.1)
      have bo2 : Boxed Wb (w.heap.size + 2) 25 (.slice Av pre.length cv) := (hO.block _ bo1.lt (by omega)).trans bo1
      clear hJ bo1 hs1
      have ga := below_alloc (Below.refl Wb.heap.size Wb) (.cells #[.int .i64 x, .slice Ad d.length cd] 53)
      have hJ3 := hJ2.grow ga
      have hsC := Kd.S_below hsB ga
      have bo3 := boxed_below bo2 ga
      have hR3 := Kd.R_below hR ga
      have hB3 := boxed_below hB ga
      have hX3 := blk_new Wb (.cells #[.int .i64 x, .slice Ad d.length cd] 53)
      have hla := hO.size
      have hwa : w.heap.size ≤ Wa.heap.size := by have := hq.lt; omega
      refine yieldAt_mono (rf_roundA (n := 3) (W1 := Wb.alloc (.cells #[.int .i64 x, .slice Ad d.length cd] 53)) (fun b _ W' => b = true ∧ DecJ w W0.heap.size (r .ready none) (pre ++ [⟨x, d⟩]) W' ∧ Boxed W' (w.heap.size + 1 + 1 + 1) 24 bv) HRR.out hJ2.loop hJ3.loop rfl
        { tmps := #[.slice A0 l0.length c0, undef, .pointer (some ⟨w.heap.size, 0, none⟩), .pointer (some ⟨w.heap.size + 1, 0, none⟩), .pointer (some ⟨w.heap.size + 1 + 1, 0, none⟩), .pointer (some ⟨Wb.heap.size, 0, none⟩), .slice As ns cs, .slice A0 l0.length c0, .int .i64 l0.length, .bool false, .slice A0 l0.length c0, .func (.func 54) #[] #[.pointer (some ⟨w.heap.size + 1 + 1 + 1, 0, none⟩)], .agg #[.int .i64 x, .slice Ad d.length cd], .slice As ns cs, undef, undef, undef, undef, undef, undef, undef, undef, undef, undef, undef, undef, undef, undef, undef], defers := [] } ?asg ?bdy) ?_
      case asg =>
        intro K hK
        gi_wp2
        exact hK
      case bdy =>
        clear hJ2 hsB bo2 hR hB ga
        obtain ⟨bx, hbx⟩ : ∃ b, Wb.heap.size = b := ⟨_, rfl⟩
        obtain ⟨W1, hW1⟩ : ∃ W, Wb.alloc (.cells #[.int .i64 x, .slice Ad d.length cd] 53) = W := ⟨_, rfl⟩
        rw [hbx] at hX3 hla ⊢
        rw [hW1] at hX3 hJ3 hsC bo3 hR3 hB3 ⊢
        clear hW1 hbx
        obtain ⟨Wc, hWc⟩ : ∃ Wc, W1.putObj (W0.heap.size + 1) (.loop (r .busy none)) = Wc := ⟨_, rfl⟩
        have c0' := boxed_put hJ3.b0 (.loop (r .busy none)) hJ3.loop rfl
        have c1 := boxed_put hJ3.b1 (.loop (r .busy none)) hJ3.loop rfl
        have co := boxed_put bo3 (.loop (r .busy none)) hJ3.loop rfl
        have cb := boxed_put hB3 (.loop (r .busy none)) hJ3.loop rfl
        have cS := S_put hsC (.loop (r .busy none)) hJ3.loop rfl
        have cR := R_put hR3 (.loop (r .busy none)) hJ3.loop rfl
        have cB := below_put hJ3.below (.loop (r .busy none)) (l := W0.heap.size + 1) (by have := HSZ.out; omega)
        have cl := put_same (.loop (r .busy none)) hJ3.loop
        have cd' := put_other (.loop (r .busy none)) (k := W0.heap.size) (l := W0.heap.size + 1) (by omega) hJ3.coll
        have cX := put_other (.loop (r .busy none)) (k := bx) (l := W0.heap.size + 1) (by rintro rfl; have h := hJ3.loop; rw [hX3] at h; cases h) hX3
        rw [hWc] at c0' c1 co cb cS cR cB cl cd' cX ⊢
        clear hWc hJ3 bo3 hB3 hsC hR3 hX3
        have hv0 := Kd.R_base cR
        have hu0 : ∀ k, (Value.slice Av pre.length cv).ownBlock = some k → k < Wa.heap.size := fun k hk => (Kd.S_R cS).1 k hk
        have x1 : Wc.cell? ⟨w.heap.size + 1 + 1, 0, none⟩ = _ := co.cell
        have x2 := (blk_cell cX 0).trans rfl
        have x3 := (blk_cell cX 1).trans rfl
        have q0 : (x == 0) = false := beq_eq_false_iff_ne.2 hx0
        have q1 : (x == 255) = false := beq_eq_false_iff_ne.2 hx1
        gi_wp2_with (gi_at_builtin; refine wpListIn_of_one (by intro c hc; cases hc) (fun _ _ h => h) ?_; refine Kd.S_append k53 (w0 := w) w.heap.size rfl (.tmp 25) (.tmp 27) 25 53 (.agg #[.int .i64 0, .slice none 0 0]) 32 rfl Tryd.underlying25 pinfo rfl (by decide) (by decide) (.slice Av pre.length cv) pre (⟨x, d⟩ : OptP) [.int .i64 x, .slice Ad d.length cd] (fun _ => True) (fun k => some k = (Value.slice Ad d.length cd).ownBlock) rfl rfl ?aP ?aK ?aF ?aO ?aB ?aS ?aL ?_; (case aP => exact k53_mkM _ _ _ (⟨x, d⟩ : OptP) (Kd.R_tight rfl (Kd.R_lower cR hwa))); (case aK => exact fun k hk => ⟨trivial, fun e => by have h1 := hv0 k hk.symm; have h2 := hu0 k e.symm; omega⟩); (case aF => exact fun _ _ => trivial); (case aO => exact Kd.S_mono cS (fun k hk => ⟨trivial, fun e => by have h1 := hv0 k e.symm; omega⟩)); (case aB => exact cB); (case aS => exact cB.size); (case aL => omega); intro v1 w1 ho hb hg1 hat; obtain ⟨A1, c1', rfl⟩ := Kd.S_slice ho; have d0 := c0'.kept hg1 (Kd.S_ne cS c0' (by decide)); have d1 := c1.kept hg1 (Kd.S_ne cS c1 (by decide)); have do1 := co.kept hg1 (Kd.S_ne cS co (by decide)); have db1 := cb.kept hg1 (Kd.S_ne cS cb (by decide)); have dl1 := grown_heap cS hg1 cl rfl; have dd1 := grown_heap cS hg1 cd' rfl; clear c0' c1 co cb cl cd' cS cR cB cX x1 x2 x3 hat hg1 hv0 hu0; have x1 : w1.cell? ⟨w.heap.size + 1 + 1, 0, none⟩ = _ := do1.cell; have x2 : w1.frozen? ⟨w.heap.size + 1 + 1, 0, none⟩ = _ := do1.frozen; refine wpList_back ?_)
        rw [show (pre ++ [(⟨x, d⟩ : OptP)]).length = pre.length + 1 from by simp] at ho
        have e0 := boxed_set_other (B' := w.heap.size + 2) (.slice A1 (pre.length + 1) c1') d0 (by omega)
        have e1 := boxed_set_other (B' := w.heap.size + 2) (.slice A1 (pre.length + 1) c1') d1 (by omega)
        have eo := do1.set (.slice A1 (pre.length + 1) c1')
        have eb := boxed_set_other (B' := w.heap.size + 2) (.slice A1 (pre.length + 1) c1') db1 (by omega)
        have eS := Kd.S_set ho do1 (by decide) 0 (.slice A1 (pre.length + 1) c1')
        have el := set_heap (u := .slice A1 (pre.length + 1) c1') do1 dl1 rfl
        have ed := set_heap (u := .slice A1 (pre.length + 1) c1') do1 dd1 rfl
        have eB := hb.setCell (p := ⟨w.heap.size + 2, 0, none⟩) (show w.heap.size ≤ w.heap.size + 2 by omega) (.slice A1 (pre.length + 1) c1')
        refine ⟨el, rfl, ⟨boxed_put e0 _ el rfl, boxed_put e1 _ el rfl, ⟨A1, c1', ?_, ?_⟩, below_put eB _ (by have := HSZ.out; omega), put_same _ el, put_other _ (by omega) ed⟩, boxed_put eb _ el rfl⟩
        · rw [show (pre ++ [(⟨x, d⟩ : OptP)]).length = pre.length + 1 from by simp]; exact boxed_put eo _ el rfl
        · rw [show (pre ++ [(⟨x, d⟩ : OptP)]).length = pre.length + 1 from by simp]; exact S_put eS _ el rfl
      rintro e W' ⟨b, j, rfl, ⟨rfl, hJ4, hB4⟩, _⟩
      exact ⟨rfl, hJ4, hB4⟩
    case hY2 =>
      intro pre Wb rs As cs hJ hCr hcr hgo
      have ga := below_alloc (Below.refl Wb.heap.size Wb) (.cells #[.int .i64 255, .slice none 0 0] 53)
      have hJ3 := hJ.grow ga
      have hX3 := blk_new Wb (.cells #[.int .i64 255, .slice none 0 0] 53)
      refine yieldAt_mono (rf_roundA (n := 3) (W1 := Wb.alloc (.cells #[.int .i64 255, .slice none 0 0] 53)) (fun b _ W' => b = false ∧ DecE w W0.heap.size (r .done (some .ret)) (r1, r2) W') HRR.out hJ.loop hJ3.loop rfl
        { tmps := #[.slice A0 l0.length c0, undef, .pointer (some ⟨w.heap.size, 0, none⟩), .pointer (some ⟨w.heap.size + 1, 0, none⟩), .pointer (some ⟨w.heap.size + 1 + 1, 0, none⟩), .pointer (some ⟨Wb.heap.size, 0, none⟩), .slice As rs.length cs, .slice A0 l0.length c0, .int .i64 l0.length, .bool false, .slice A0 l0.length c0, .func (.func 54) #[] #[.pointer (some ⟨w.heap.size + 1 + 1 + 1, 0, none⟩)], .agg #[.int .i64 255, .slice none 0 0], .slice As rs.length cs, undef, undef, undef, undef, undef, undef, undef, undef, undef, undef, undef, undef, undef, undef, undef], defers := [] } ?asg2 ?bdy2) ?_
      case asg2 =>
        intro K hK
        gi_wp2
        exact hK
      case bdy2 =>
        obtain ⟨bx, hbx⟩ : ∃ b, Wb.heap.size = b := ⟨_, rfl⟩
        obtain ⟨W1, hW1⟩ : ∃ W, Wb.alloc (.cells #[.int .i64 255, .slice none 0 0] 53) = W := ⟨_, rfl⟩
        rw [hbx] at hX3 ⊢
        rw [hW1] at hX3 hJ3 ⊢
        clear hW1 hbx ga hJ
        obtain ⟨Wc, hWc⟩ : ∃ Wc, W1.putObj (W0.heap.size + 1) (.loop (r .busy none)) = Wc := ⟨_, rfl⟩
        obtain ⟨Av, cv, bo3, hs3⟩ := hJ3.row
        have c0' := boxed_put hJ3.b0 (.loop (r .busy none)) hJ3.loop rfl
        have c1 := boxed_put hJ3.b1 (.loop (r .busy none)) hJ3.loop rfl
        have co := boxed_put bo3 (.loop (r .busy none)) hJ3.loop rfl
        have cS := S_put hs3 (.loop (r .busy none)) hJ3.loop rfl
        have cB := below_put hJ3.below (.loop (r .busy none)) (l := W0.heap.size + 1) (by have := HSZ.out; omega)
        have cl := put_same (.loop (r .busy none)) hJ3.loop
        have cd' := put_other (.loop (r .busy none)) (k := W0.heap.size) (l := W0.heap.size + 1) (by omega) hJ3.coll
        have cX := put_other (.loop (r .busy none)) (k := bx) (l := W0.heap.size + 1) (by rintro rfl; have h := hJ3.loop; rw [hX3] at h; cases h) hX3
        rw [hWc] at c0' c1 co cS cB cl cd' cX ⊢
        clear hWc hJ3 bo3 hs3 hX3
        have x2 := (blk_cell cX 0).trans rfl
        have x4 := c0'.cell
        have x5 := c0'.frozen
        have x6 : ∀ u, (Wc.setCell ⟨w.heap.size, 0, none⟩ u).cell? ⟨w.heap.size + 1, 0, none⟩ = some (.int .i64 0) := fun u => (boxed_set_other (B' := w.heap.size) u c1 (by omega)).cell
        have x7 : ∀ u, (Wc.setCell ⟨w.heap.size, 0, none⟩ u).frozen? ⟨w.heap.size + 1, 0, none⟩ = false := fun u => (boxed_set_other (B' := w.heap.size) u c1 (by omega)).frozen
        gi_wp2_with fail
        refine ⟨trivial, CallsIn.inRound _ (callsIn_wide.2 ((trim_calls As cs rs Wc (Kd.C_below hCr cB) hcr).mono ?_))⟩
        rintro e W4 ⟨A', n', c', rfl, hn, hb4⟩
        have e0 := boxed_below c0' hb4
        have e1 := boxed_below c1 hb4
        have eo := boxed_below co hb4
        have eS := Kd.S_below cS hb4
        have eB := below_then cB cB.size hb4
        have el := below_heap hb4 cl
        have ed := below_heap hb4 cd'
        clear x2 x4 x5 x6 x7 c0' c1 co cS cB cl cd' cX hb4
        have x1 : W4.cell? ⟨w.heap.size + 1 + 1, 0, none⟩ = _ := eo.cell
        have x4 := e0.cell
        have x5 := e0.frozen
        have x6 : ∀ u, (W4.setCell ⟨w.heap.size, 0, none⟩ u).cell? ⟨w.heap.size + 1, 0, none⟩ = some (.int .i64 0) := fun u => (boxed_set_other (B' := w.heap.size) u e1 (by omega)).cell
        have x7 : ∀ u, (W4.setCell ⟨w.heap.size, 0, none⟩ u).frozen? ⟨w.heap.size + 1, 0, none⟩ = false := fun u => (boxed_set_other (B' := w.heap.size) u e1 (by omega)).frozen
        by_cases hn0 : n' = 0
        · subst hn0
          have e : odR l0 = (pre, 0) := by unfold odR; rw [if_neg hl, hgo]; simp only; rw [if_pos (hn.1 rfl)]
          obtain ⟨rfl, rfl⟩ := Prod.mk.inj (e.symm.trans HRES.out)
          have hE := dec_end (r := r) (D := W0.heap.size) (z := 0) e0 e1 eS eB el ed (by have := HSZ.out; omega)
          have HE := Lib.hid hE
          clear e hE hn hgo
          gi_wp2_with fail
          exact ⟨HE.out.1, rfl, HE.out.2⟩
        · have e : odR l0 = ([], 2) := by unfold odR; rw [if_neg hl, hgo]; simp only; rw [if_neg (fun h => hn0 (hn.2 h))]
          obtain ⟨rfl, rfl⟩ := Prod.mk.inj (e.symm.trans HRES.out)
          have hE := dec_end (r := r) (D := W0.heap.size) (z := 2) (xs := []) e0 e1 (Kd.S_nil k53 53 W4 w.heap.size (fun _ => True)) eB el ed (by have := HSZ.out; omega)
          have HE := Lib.hid hE
          have g1 : ((n' : Int) > 0) = True := eq_true (by omega)
          have g2 : (0 < n') = True := eq_true (by omega)
          clear e hE hn hgo hn0
          gi_wp2_with fail
          exact ⟨HE.out.1, rfl, HE.out.2⟩
      rintro e W' ⟨b, j, rfl, ⟨rfl, hE⟩, _⟩
      exact ⟨⟨_, rfl⟩, hE⟩
    case hY3 =>
      intro pre Wb hJ hgo
      have ga := below_alloc (Below.refl Wb.heap.size Wb) (.cells #[.int .i64 0, .slice none 0 0] 53)
      have hJ3 := hJ.grow ga
      have hX3 := blk_new Wb (.cells #[.int .i64 0, .slice none 0 0] 53)
      refine yieldAt_mono (rf_roundA (n := 3) (W1 := Wb.alloc (.cells #[.int .i64 0, .slice none 0 0] 53)) (fun b _ W' => b = false ∧ DecE w W0.heap.size (r .done (some .ret)) (r1, r2) W') HRR.out hJ.loop hJ3.loop rfl
        { tmps := #[.slice A0 l0.length c0, undef, .pointer (some ⟨w.heap.size, 0, none⟩), .pointer (some ⟨w.heap.size + 1, 0, none⟩), .pointer (some ⟨w.heap.size + 1 + 1, 0, none⟩), .pointer (some ⟨Wb.heap.size, 0, none⟩), .slice none 0 0, .slice A0 l0.length c0, .int .i64 l0.length, .bool false, .slice A0 l0.length c0, .func (.func 54) #[] #[.pointer (some ⟨w.heap.size + 1 + 1 + 1, 0, none⟩)], .agg #[.int .i64 0, .slice none 0 0], .slice none 0 0, undef, undef, undef, undef, undef, undef, undef, undef, undef, undef, undef, undef, undef, undef, undef], defers := [] } ?asg3 ?bdy3) ?_
      case asg3 =>
        intro K hK
        gi_wp2
        exact hK
      case bdy3 =>
        obtain ⟨bx, hbx⟩ : ∃ b, Wb.heap.size = b := ⟨_, rfl⟩
        obtain ⟨W1, hW1⟩ : ∃ W, Wb.alloc (.cells #[.int .i64 0, .slice none 0 0] 53) = W := ⟨_, rfl⟩
        rw [hbx] at hX3 ⊢
        rw [hW1] at hX3 hJ3 ⊢
        clear hW1 hbx ga hJ
        obtain ⟨Wc, hWc⟩ : ∃ Wc, W1.putObj (W0.heap.size + 1) (.loop (r .busy none)) = Wc := ⟨_, rfl⟩
        obtain ⟨Av, cv, bo3, hs3⟩ := hJ3.row
        have c0' := boxed_put hJ3.b0 (.loop (r .busy none)) hJ3.loop rfl
        have c1 := boxed_put hJ3.b1 (.loop (r .busy none)) hJ3.loop rfl
        have co := boxed_put bo3 (.loop (r .busy none)) hJ3.loop rfl
        have cS := S_put hs3 (.loop (r .busy none)) hJ3.loop rfl
        have cB := below_put hJ3.below (.loop (r .busy none)) (l := W0.heap.size + 1) (by have := HSZ.out; omega)
        have cl := put_same (.loop (r .busy none)) hJ3.loop
        have cd' := put_other (.loop (r .busy none)) (k := W0.heap.size) (l := W0.heap.size + 1) (by omega) hJ3.coll
        have cX := put_other (.loop (r .busy none)) (k := bx) (l := W0.heap.size + 1) (by rintro rfl; have h := hJ3.loop; rw [hX3] at h; cases h) hX3
        rw [hWc] at c0' c1 co cS cB cl cd' cX ⊢
        clear hWc hJ3 bo3 hs3 hX3
        have x2 := (blk_cell cX 0).trans rfl
        have x4 := c0'.cell
        have x5 := c0'.frozen
        have x6 : ∀ u, (Wc.setCell ⟨w.heap.size, 0, none⟩ u).cell? ⟨w.heap.size + 1, 0, none⟩ = some (.int .i64 0) := fun u => (boxed_set_other (B' := w.heap.size) u c1 (by omega)).cell
        have x7 : ∀ u, (Wc.setCell ⟨w.heap.size, 0, none⟩ u).frozen? ⟨w.heap.size + 1, 0, none⟩ = false := fun u => (boxed_set_other (B' := w.heap.size) u c1 (by omega)).frozen
        have e : odR l0 = ([], 2) := by unfold odR; rw [if_neg hl, hgo]
        obtain ⟨rfl, rfl⟩ := Prod.mk.inj (e.symm.trans HRES.out)
        gi_wp2_with fail
        have hE := dec_end (r := r) (D := W0.heap.size) (z := 2) (xs := []) c0' c1 (Kd.S_nil k53 53 Wc w.heap.size (fun _ => True)) cB cl cd' (by have := HSZ.out; omega)
        exact ⟨hE.1, rfl, hE.2⟩
      rintro e W' ⟨b, j, rfl, ⟨rfl, hE⟩, _⟩
      exact ⟨⟨_, rfl⟩, hE⟩
    case post =>
      rintro e W ⟨⟨v, rfl⟩, hE⟩
      refine ⟨⟨v, rfl⟩, .inr ⟨.ret, hE.loop, ?_⟩⟩
      obtain ⟨Av, cv, bo3, hs3⟩ := hE.row
      have c0' := boxed_put bo3 (.loop (r .exhausted (some .ret))) hE.loop rfl
      have c1 := boxed_put hE.b1 (.loop (r .exhausted (some .ret))) hE.loop rfl
      have cS := S_put hs3 (.loop (r .exhausted (some .ret))) hE.loop rfl
      have cB := below_put hE.below (.loop (r .exhausted (some .ret))) (l := W0.heap.size + 1) (by have := HSZ.out; omega)
      have cd' := put_other (.loop (r .exhausted (some .ret))) (k := W0.heap.size) (l := W0.heap.size + 1) (by omega) hE.coll
      obtain ⟨Wc, hWc⟩ : ∃ Wc, W.putObj (W0.heap.size + 1) (.loop (r .exhausted (some .ret))) = Wc := ⟨_, rfl⟩
      rw [hWc] at c0' c1 cS cB cd' ⊢
      clear hWc hE bo3 hs3
      gi_wp2
      refine ⟨by simp, .inl ⟨_, _, rfl, run_takeDeferred cd', ?_⟩⟩
      exact ⟨_, dec_results rfl rfl (boxed_put c0' _ cd' rfl) (boxed_put c1 _ cd' rfl), _, rfl, S_put cS _ cd' rfl, below_put cB _ (by have := HSZ.out; omega)⟩
end Go.Proofs.YtdpoknfidlekbaaDoor
end

section
namespace Go.Proofs.YtdpoknfidlekbaaDoor.PD
open Go.RowKit Go.Proofs.YtdpoknfidlekbaaDoor Go.Proofs.YtdpoknfidlekbaaDoor.Pr Go.Proofs.YtdpoknfidlekbaaDoorW.PrintWords Go.Proofs.YtdpoknfidlekbaaDoorW.PrintLast Go.Proofs.YtdpoknfidlekbaaDoorW.PrintMore
set_option linter.unusedVariables false
set_option linter.unusedSimpArgs false

abbrev Opt := S53
theorem wrapO {x : Int} (h0 : 0 ≤ x) (h1 : x < 9223372036854775808) : wrap64 x = x := by unfold wrap64; omega
theorem rd_at (l : List Opt) {i : Nat} (h : i < l.length) : rd_T53 l (i : Int) = l[i] := by
  unfold rd_T53
  rw [Int.toNat_natCast, List.getD_eq_getElem?_getD, List.getElem?_eq_getElem h]
  rfl

def okOpt (x : Opt) : Prop := 1 ≤ x.f0 ∧ x.f0 ≤ 254 ∧ x.f1.length ≤ 255
instance (x : Opt) : Decidable (okOpt x) := by unfold okOpt; infer_instance
def enc1 (x : Opt) : List Int := [x.f0 % 256, (x.f1.length : Int) % 256] ++ x.f1
def enc (l : List Opt) : List Int := (l.map enc1).flatten
def encR (l : List Opt) : List Int × Int := if ∀ x ∈ l, okOpt x then (if 1024 ≤ (enc l).length then ([], 3) else (enc l ++ [255], 0)) else ([], 1)
def few (l : List Opt) : Prop := l.length ≤ 100 ∧ ∀ x ∈ l, x.f1.length ≤ 1000
theorem enc_append (l m : List Opt) : enc (l ++ m) = enc l ++ enc m := by simp [enc]
theorem enc_one (x : Opt) : enc [x] = enc1 x := by simp [enc]
theorem enc1_len (x : Opt) : (enc1 x).length = x.f1.length + 2 := by simp [enc1]
theorem enc_len_le : ∀ (l : List Opt), (∀ x ∈ l, x.f1.length ≤ 1000) → (enc l).length ≤ l.length * 1002 := by
  intro l
  induction l with
  | nil => intro _; simp [enc]
  | cons x l ih =>
    intro h
    have h1 := ih (fun y hy => h y (by simp [hy]))
    have h2 := h x (by simp)
    have e : enc (x :: l) = enc1 x ++ enc l := by simp [enc]
    rw [e, List.length_append, enc1_len, List.length_cons]
    omega
theorem enc_take_le (l : List Opt) (i : Nat) : (enc (l.take i)).length ≤ (enc l).length := by
  have : enc l = enc (l.take i) ++ enc (l.drop i) := by rw [← enc_append, List.take_append_drop]
  rw [this, List.length_append]; omega

/-! ### option.Encode -/
theorem odd_eq (x : Opt) : option_Encode_1.f x.f0 x.f1 = some (!decide (okOpt x)) := by
  unfold option_Encode_1.f
  by_cases ok : okOpt x
  · rw [decide_eq_true ok]
    unfold okOpt at ok
    rw [if_neg (by omega), if_neg (by omega), decide_eq_false (by omega)]
    rfl
  · rw [decide_eq_false ok]
    unfold okOpt at ok
    split
    · rfl
    · split
      · rfl
      · rw [decide_eq_true (by omega)]
        rfl
theorem index_spec (l : List Opt) (hl : l.length ≤ 1000000) : ∀ (d i k : Nat), l.length ≤ i + d → i ≤ l.length → d < k →
    ∃ r : Int, slices_IndexFunc.l0 k l (l.length : Int) (i : Int) = some r ∧ ((0 ≤ r ∧ ∃ x ∈ l.drop i, ¬ okOpt x) ∨ (r < 0 ∧ ∀ x ∈ l.drop i, okOpt x)) := by
  intro d
  induction d with
  | zero =>
    intro i k h1 h2 hk
    obtain ⟨k, rfl⟩ : ∃ m, k = m + 1 := ⟨k - 1, by omega⟩
    refine ⟨-1, ?_, .inr ⟨by omega, ?_⟩⟩
    · simp only [slices_IndexFunc.l0]; rw [if_neg (by omega)]
    · rw [List.drop_of_length_le (by omega)]; simp
  | succ d ih =>
    intro i k h1 h2 hk
    obtain ⟨k, rfl⟩ : ∃ m, k = m + 1 := ⟨k - 1, by omega⟩
    by_cases h : i < l.length
    · simp only [slices_IndexFunc.l0]
      rw [if_pos (by omega), if_pos (by omega), if_pos (by omega), rd_at l h, odd_eq]
      simp only [Option.bind_some]
      rw [List.drop_eq_getElem_cons h]
      by_cases ok : okOpt l[i]
      · rw [decide_eq_true ok, wrapO (by omega) (by omega)]
        obtain ⟨r, hr, hs⟩ := ih (i + 1) k (by omega) (by omega) (by omega)
        refine ⟨r, by simpa using (show slices_IndexFunc.l0 k l (l.length : Int) ((i : Int) + 1) = some r from hr), ?_⟩
        rcases hs with ⟨a, x, hx, b⟩ | ⟨a, b⟩
        · exact .inl ⟨a, x, List.mem_cons_of_mem _ hx, b⟩
        · exact .inr ⟨a, fun x hx => by
            rcases List.mem_cons.1 hx with rfl | hx
            · exact ok
            · exact b x hx⟩
      · rw [decide_eq_false ok]
        exact ⟨i, by simp, .inl ⟨by omega, l[i], List.mem_cons_self, ok⟩⟩
    · refine ⟨-1, ?_, .inr ⟨by omega, ?_⟩⟩
      · simp only [slices_IndexFunc.l0]; rw [if_neg (by omega)]
      · rw [List.drop_of_length_le (by omega)]; simp
theorem contains_eq (l : List Opt) (hl : l.length ≤ 1000000) (a : Int) (k : Nat) (hk : l.length < k) : slices_ContainsFunc.f k l a = some (!decide (∀ x ∈ l, okOpt x)) := by
  obtain ⟨r, hr, hs⟩ := index_spec l hl l.length 0 k (by omega) (by omega) hk
  unfold slices_ContainsFunc.f slices_IndexFunc.f
  rw [show ((0 : Nat) : Int) = 0 from rfl] at hr
  rw [hr]
  simp only [Option.bind_some]
  rw [List.drop_zero] at hs
  rcases hs with ⟨h1, x, hx, h2⟩ | ⟨h1, h2⟩
  · rw [decide_eq_true (by omega), decide_eq_false (fun h => h2 (h x hx))]; rfl
  · rw [decide_eq_false (by omega), decide_eq_true h2]; rfl
theorem encode_loop (l : List Opt) (hf : few l) : ∀ (d i k : Nat), l.length ≤ i + d → i ≤ l.length → d < k →
    option_Encode.l0 k (enc (l.take i)) l (l.length : Int) (i : Int) = some (if 1024 ≤ (enc l).length then ([], 3) else (enc l ++ [255], 0)) := by
  obtain ⟨hn, hx⟩ := hf
  have hel := enc_len_le l hx
  have hel' : (enc l).length ≤ 100200 := by omega
  intro d
  induction d with
  | zero =>
    intro i k h1 h2 hk
    obtain ⟨k, rfl⟩ : ∃ m, k = m + 1 := ⟨k - 1, by omega⟩
    simp only [option_Encode.l0]
    rw [if_neg (by omega), List.take_of_length_le (by omega), if_pos (by omega)]
    simp only [Option.bind_some]
    by_cases c : 1024 ≤ (enc l).length
    · rw [if_pos (by simp; omega), if_pos c]
    · rw [if_neg (by simp; omega), if_neg c]
  | succ d ih =>
    intro i k h1 h2 hk
    obtain ⟨k, rfl⟩ : ∃ m, k = m + 1 := ⟨k - 1, by omega⟩
    by_cases h : i < l.length
    · simp only [option_Encode.l0]
      have ht := enc_take_le l i
      have ht1 := enc_take_le l (i + 1)
      have hx1 := hx l[i] (List.getElem_mem h)
      rw [if_pos (by omega), if_pos (by omega), if_pos (by omega), rd_at l h]
      simp only [Option.bind_some]
      rw [if_pos (by simp; omega), if_pos (by simp; omega), wrapO (by omega) (by omega)]
      have e : enc (l.take i) ++ [l[i].f0 % 256, (l[i].f1.length : Int) % 256] ++ l[i].f1 = enc (l.take (i + 1)) := by
        rw [List.take_succ_eq_append_getElem h, enc_append, enc_one, enc1, List.append_assoc]
      rw [e]
      exact ih (i + 1) k (by omega) (by omega) (by omega)
    · obtain rfl : i = l.length := by omega
      simp only [option_Encode.l0]
      rw [if_neg (by omega), List.take_of_length_le (by omega), if_pos (by omega)]
      simp only [Option.bind_some]
      by_cases c : 1024 ≤ (enc l).length
      · rw [if_pos (by simp; omega), if_pos c]
      · rw [if_neg (by simp; omega), if_neg c]
theorem encode_eq (l : List Opt) (hf : few l) (k : Nat) (hk : 101 ≤ k) : option_Encode.f k l = some (encR l) := by
  have hn := hf.1
  unfold option_Encode.f encR
  rw [contains_eq l (by omega) _ k (by omega)]
  simp only [Option.bind_some]
  by_cases ok : ∀ x ∈ l, okOpt x
  · rw [decide_eq_true ok, if_neg (by decide), if_pos ok]
    exact encode_loop l hf l.length 0 k (by omega) (by omega) (by omega)
  · rw [decide_eq_false ok, if_pos (by decide), if_neg ok]

/-! ### few -/
/-! ### the same lists -/
/-! ### Decode -/
theorem rd_of {l : List Int} {i : Nat} (h : i < l.length) : rd l (i : Int) = l[i] := by
  unfold rd
  rw [Int.toNat_natCast, List.getD_eq_getElem?_getD, List.getElem?_eq_getElem h]
  rfl
theorem wf_byte {x : Int} (h : (Lit.int .u8 x).wf = true) : 0 ≤ x ∧ x ≤ 255 := by
  simp only [Lit.wf, IntKind.min, IntKind.max, IntKind.signed, IntKind.bits, Bool.and_eq_true, decide_eq_true_eq] at h
  have h1 : (IntKind.u8.min : Int) = 0 := rfl
  have h2 : (IntKind.u8.max : Int) = 255 := rfl
  first | exact h | (simp_all; done) | (simp_all; omega)
theorem opt_bytes {x : Opt} (h : (Lit.int .i64 x.f0).wf = true ∧ (x.f1.length ≤ maxLen ∧ ∀ y ∈ x.f1, (Lit.int .u8 y).wf = true)) : ∀ y ∈ x.f1, 0 ≤ y ∧ y ≤ 255 := fun y hy => wf_byte (h.2.2 y hy)

theorem enc_bytes (l : List Opt) (hb : ∀ x ∈ l, ∀ y ∈ x.f1, 0 ≤ y ∧ y ≤ 255) : ∀ y ∈ enc l, 0 ≤ y ∧ y ≤ 255 := by
  intro y hy
  unfold enc at hy
  obtain ⟨z, hz, hyz⟩ := List.mem_flatten.1 hy
  obtain ⟨x, hx, rfl⟩ := List.mem_map.1 hz
  unfold enc1 at hyz
  simp only [List.mem_append, List.mem_cons, List.not_mem_nil, or_false] at hyz
  rcases hyz with (rfl | rfl) | h
  · omega
  · omega
  · exact hb x hx y h


def odOf (q : List Opt × Option (List Int)) : List Opt × Int := match q with | (pre, some r) => if ∀ x ∈ r, x = 0 then (pre, 0) else ([], 2) | (_, none) => ([], 2)
theorem odR_eq (l : List Int) : odR l = if 1024 < l.length then ([], 2) else odOf (pGo l []) := by
  unfold odR odOf
  split
  · rfl
  · rfl
theorem decode_eq (l : List Int) (hb : ∀ x ∈ l, 0 ≤ x ∧ x ≤ 255) (hl : l.length < 1099511627776) : option_Decode.f l = some (odR l) := by
  unfold option_Decode.f
  rw [if_pos ⟨hb, hl⟩]
theorem pGo_len : ∀ (n : Nat) (l : List Int) (acc : List Opt), l.length ≤ n → (pGo l acc).1.length ≤ acc.length + l.length := by
  intro n
  induction n with
  | zero =>
    intro l acc hl
    obtain rfl : l = [] := List.eq_nil_of_length_eq_zero (by omega)
    rw [pGo_nil]; simp
  | succ n ih =>
    intro l acc hl
    match l, hl with
    | [], _ => rw [pGo_nil]; simp
    | x :: r, hl =>
      simp only [List.length_cons] at hl ⊢
      by_cases c0 : x = 0
      · subst c0; rw [pGo_zero]; have := ih r acc (by omega); omega
      · by_cases c5 : x = 255
        · subst c5; rw [pGo_end]; simp only; omega
        · match r, hl with
          | [], _ => rw [pGo_lone c0 c5]; simp
          | m :: s, hl =>
            simp only [List.length_cons] at hl ⊢
            by_cases c : m.toNat ≤ s.length
            · rw [pGo_step c0 c5 c]
              have := ih (s.drop m.toNat) (acc ++ [⟨x, s.take m.toNat⟩]) (by rw [List.length_drop]; omega)
              simp only [List.length_append, List.length_cons, List.length_nil, List.length_drop] at this
              omega
            · rw [pGo_stop c0 c5 c]; simp only; omega
theorem odR_len (l : List Int) : (odR l).1.length ≤ 1024 := by
  rw [odR_eq]
  split
  · simp
  · have := pGo_len _ l [] (Nat.le_refl _)
    unfold odOf
    simp only [List.length_nil] at this
    split
    · rename_i pre r e
      rw [e] at this
      split
      · simp only at this ⊢; omega
      · simp
    · simp

end Go.Proofs.YtdpoknfidlekbaaDoor.PD
end

section
namespace Go.Proofs.YtdpoknfidlekbaaDoor
open Go.RowKit Go.Proofs.YtdpoknfidlekbaaDoor.Pr Go.Proofs.YtdpoknfidlekbaaDoorW.PrintWords Go.Proofs.YtdpoknfidlekbaaDoorW.PrintLast Go.Proofs.YtdpoknfidlekbaaDoorW.PrintMore
attribute [local go_sem] max2_int min2_int max_two min_two max_three min_three max_four min_four
set_option linter.unusedVariables false
set_option linter.unusedSimpArgs false

theorem wraps_i64P (n : Int) (h₀ : 0 ≤ n) (h₁ : n < 2 ^ 40) : IntKind.i64.wrap n = n := by rw [IntKind.wrap_i64]; omega
theorem or_join8 {x y : Int} (h0 : 0 ≤ x) (h1 : x ≤ 16777215) (h2 : 0 ≤ y) (h3 : y ≤ 255) : bits .or .i64 (x * 256) y = x * 256 + y :=
  bits_join .i64 40 (by decide) wraps_i64P 8 (x * 256) y (by omega) (by omega) (by omega) h2 (by omega) (by omega)
theorem or_join16 {x y : Int} (h0 : 0 ≤ x) (h1 : x ≤ 16777215) (h2 : 0 ≤ y) (h3 : y ≤ 65535) : bits .or .i64 (x * 65536) y = x * 65536 + y :=
  bits_join .i64 40 (by decide) wraps_i64P 16 (x * 65536) y (by omega) (by omega) (by omega) h2 (by omega) (by omega)
/-- The byte of a place. -/
def bA (l : List Int) (j : Nat) : Int := l.getD j 0
theorem bA_of {l : List Int} {j : Nat} (h : j < l.length) : bA l j = l[j] := by unfold bA; rw [List.getD_eq_getElem?_getD, List.getElem?_eq_getElem h]; rfl
theorem bA_in {l : List Int} (hb : ∀ x ∈ l, 0 ≤ x ∧ x ≤ 255) (j : Nat) : 0 ≤ bA l j ∧ bA l j ≤ 255 := by
  by_cases h : j < l.length
  · rw [bA_of h]; exact hb _ (List.getElem_mem h)
  · unfold bA; rw [List.getD_eq_getElem?_getD, List.getElem?_eq_none (by omega)]; simp
def sA (l : List Int) (j : Nat) : Int := bA l j * 256 + bA l (j + 1)
def lA (l : List Int) (j : Nat) : Int := sA l j * 65536 + sA l (j + 2)
theorem sA_in {l : List Int} (hb : ∀ x ∈ l, 0 ≤ x ∧ x ≤ 255) (j : Nat) : 0 ≤ sA l j ∧ sA l j ≤ 65535 := by
  have h1 := bA_in hb j; have h2 := bA_in hb (j + 1); unfold sA; omega
theorem lA_in {l : List Int} (hb : ∀ x ∈ l, 0 ≤ x ∧ x ≤ 255) (j : Nat) : 0 ≤ lA l j ∧ lA l j ≤ 4294967295 := by
  have h1 := sA_in hb j; have h2 := sA_in hb (j + 2); unfold lA; omega
/-- The reader at a place of its bytes. -/
def RdAt (w0 : World) (g : Nat) (l : List Int) (j : Nat) (W : World) : Prop := j ≤ l.length ∧ ∃ A c, Boxed W g 75 (.slice A (l.drop j).length c) ∧ (l.drop j).length ≤ c ∧ (Kd.int .u8).C w0 A (l.drop j).length (l.drop j)
theorem RdAt.lt {w0 W : World} {g j : Nat} {l : List Int} (h : RdAt w0 g l j W) : g < W.heap.size := by obtain ⟨_, A, c, hb, _⟩ := h; exact hb.lt
theorem RdAt.move {w0 W W' : World} {g j : Nat} {l : List Int} (h : RdAt w0 g l j W) (hm : W'.heap[g]? = W.heap[g]?) : RdAt w0 g l j W' := by
  obtain ⟨h0, A, c, hb, h1, h2⟩ := h
  exact ⟨h0, A, c, hm.trans hb, h1, h2⟩
abbrev faultP : List PanicEntry := [{ v := .iface 73 (.agg #[]), recovered := false }]
theorem OneBut.below {w0 W W' : World} {g : Nat} (h : OneBut W W' g) (hb : Below w0.heap.size w0 W) (hg : w0.heap.size ≤ g) : Below w0.heap.size w0 W' :=
  hb.trans ⟨h.os, h.tape, h.output, h.size, fun k hk => h.block k (Nat.lt_of_lt_of_le hk hb.size) (by omega)⟩
theorem OneBut.trans_ {W W' W2 : World} {g : Nat} (h : OneBut W W' g) (h2 : OneBut W' W2 g) : OneBut W W2 g :=
  ⟨h2.os.trans h.os, h2.tape.trans h.tape, h2.output.trans h.output, Nat.le_trans h.size h2.size, fun k hk hn => (h2.block k (Nat.lt_of_lt_of_le hk h.size) hn).trans (h.block k hk hn)⟩
theorem OneBut.refl_ (W : World) (g : Nat) : OneBut W W g := OneBut.of_below (Below.refl _ _) g
theorem rd_info : (Tryd.prog.info? 5).map (fun i => (i.zero, i.size, i.bytes)) = some (some (.int .u8 0), 1, 1) := by kernel_rfl

set_option maxHeartbeats 2000000 in
set_option maxRecDepth 100000 in
theorem rtake_ok (w0 : World) (g : Nat) (l : List Int) (j k : Nat) (W : World) (hr : RdAt w0 g l j W) (hk : j + k ≤ l.length) (hn : l.length < 1099511627776) :
    Calls Tryd.prog 37 #[.pointer (some ⟨g, 0, none⟩), .int .i64 (k : Int)] W fun e w' => (∃ A' c', e = .returned (.slice A' k c') ∧ k ≤ c' ∧ (Kd.int .u8).C w0 A' k ((l.drop j).take k)) ∧ RdAt w0 g l (j + k) w' ∧ OneBut W w' g := by
  obtain ⟨_, A, c, hb, hc, hC⟩ := hr
  have hlen : (l.drop j).length = l.length - j := List.length_drop ..
  obtain ⟨i0, hinf, hzz⟩ := Option.map_eq_some_iff.1 rd_info
  simp only [Prod.mk.injEq] at hzz
  have C1 := Kd.C_take (m := k) hC (by omega)
  have C2 := Kd.C_drop (c := c) (m := k) hC (by omega) hc
  rw [show (Kd.int .u8).sz = 1 from rfl, Nat.mul_one, List.drop_drop] at C2
  rw [show ((l.drop j).take k).length = k from by rw [List.length_take]; omega] at C1
  obtain ⟨n, hn0⟩ : ∃ n, n = (l.drop j).length := ⟨_, rfl⟩
  rw [← hn0] at hb hc hlen
  have r1 := cut_from (P := Tryd.prog) 75 5 .i64 Tryd.underlying75 hinf 1 hzz.2.1 A n c (k : Int) (by omega) (by omega)
  have r2 := cut_to (P := Tryd.prog) 75 5 .i64 Tryd.underlying75 hinf A n c (k : Int) (by omega) (by omega) hc
  simp only [Int.toNat_natCast, Nat.mul_one] at r1 r2
  have p1 : ((k : Int) > (n : Int)) = False := eq_false (by omega)
  have p2 : ((n : Int) < (k : Int)) = False := eq_false (by omega)
  have p3 : (n < k) = False := eq_false (by omega)
  obtain ⟨A2, hA2⟩ : ∃ A2, A2 = (if c = k then A else A.map (·.add k)) := ⟨_, rfl⟩
  obtain ⟨n2, hn2⟩ : ∃ n2, n2 = n - k := ⟨_, rfl⟩
  obtain ⟨c2, hc2⟩ : ∃ c2, c2 = c - k := ⟨_, rfl⟩
  rw [← hA2, ← hn2, ← hc2] at r1
  rw [← hA2] at C2
  have HE : Hid (n2 = (l.drop (j + k)).length ∧ n2 ≤ c2 ∧ k ≤ c ∧ j + k ≤ l.length) := ⟨by rw [List.length_drop]; omega, by omega, by omega, hk⟩
  have HC1 := Lib.hid C1
  have HC2 := Lib.hid C2
  have HBX := Lib.hid hb
  have y1 := hb.cell
  have z1 := hb.frozen
  clear hA2 hn2 hc2 hzz hinf hn0 hlen hk hC C1 C2 hb
  go_enter Tryd.func37, Tryd.ntmps37
  go_wp2_with fail
  go_ret
  refine ⟨⟨A, c, rfl, HE.out.2.2.1, HC1.out⟩, ⟨HE.out.2.2.2, A2, c2, ?_, ?_, HC2.out⟩, (OneBut.refl_ W g).set _⟩
  · rw [← HE.out.1]; exact HBX.out.set _
  · rw [← HE.out.1]; exact HE.out.2.1
set_option maxHeartbeats 1000000 in
set_option maxRecDepth 100000 in
theorem rtake_no (w0 : World) (g : Nat) (l : List Int) (j k : Nat) (W : World) (hr : RdAt w0 g l j W) (hk : l.length < j + k) :
    Calls Tryd.prog 37 #[.pointer (some ⟨g, 0, none⟩), .int .i64 (k : Int)] W fun e w' => e = .panicked faultP ∧ w' = W := by
  obtain ⟨hj, A, c, hb, hc, hC⟩ := hr
  have hlen : (l.drop j).length = l.length - j := List.length_drop ..
  obtain ⟨n, hn0⟩ : ∃ n, n = (l.drop j).length := ⟨_, rfl⟩
  rw [← hn0] at hb hlen
  have p1 : ((k : Int) > (n : Int)) = True := eq_true (by omega)
  have p2 : ((n : Int) < (k : Int)) = True := eq_true (by omega)
  have p3 : (n < k) = True := eq_true (by omega)
  have hpn : ∀ w : World, (Instr.panic (.iface 73 (.agg #[]))).run Tryd.prog w = .halt (.panic (.iface 73 (.agg #[]))) w := fun _ => rfl
  have y1 := hb.cell
  clear hn0 hlen hk hC hb hc hj
  go_enter Tryd.func37, Tryd.ntmps37
  go_wp2_with fail
  simp [bodyPost]

theorem must_yes (W : World) : Calls Tryd.prog 34 #[.bool true] W fun e w' => e = .returned (.tuple #[]) ∧ w' = W := by
  go_enter Tryd.func34, Tryd.ntmps34
  go_wp2_with fail
  first
    | (go_end0; exact ⟨rfl, rfl⟩)
    | (exact bodyPost_normal (results_none rfl _ _ _) rfl ⟨rfl, rfl⟩)
theorem must_no (W : World) : Calls Tryd.prog 34 #[.bool false] W fun e w' => e = .panicked faultP ∧ w' = W := by
  have hpn : ∀ w : World, (Instr.panic (.iface 73 (.agg #[]))).run Tryd.prog w = .halt (.panic (.iface 73 (.agg #[]))) w := fun _ => rfl
  go_enter Tryd.func34, Tryd.ntmps34
  go_wp2_with fail
  simp [bodyPost]

set_option maxHeartbeats 2000000 in
set_option maxRecDepth 100000 in
theorem rbyte_ok (w0 : World) (g : Nat) (l : List Int) (j : Nat) (W : World) (hr : RdAt w0 g l j W) (hB : Below w0.heap.size w0 W) (hg : w0.heap.size ≤ g) (hk : j < l.length) (hby : ∀ x ∈ l, 0 ≤ x ∧ x ≤ 255) (hn : l.length < 1099511627776) :
    Calls Tryd.prog 33 #[.pointer (some ⟨g, 0, none⟩)] W fun e w' => e = .returned (.int .i64 (bA l j)) ∧ RdAt w0 g l (j + 1) w' ∧ OneBut W w' g := by
  have HT := Lib.hid (rtake_ok w0 g l j 1 W hr (by omega) hn)
  have HB := Lib.hid hB
  have hx := bA_in hby j
  obtain ⟨x, hxe⟩ : ∃ x, x = bA l j := ⟨_, rfl⟩
  have HL : Hid ((l.drop j).take 1 = [x]) := by show _ = _; rw [hxe, bA_of hk, List.drop_eq_getElem_cons hk]; rfl
  rw [← hxe] at hx ⊢
  have e6 : IntKind.i64.wrap x = x := IntWalk.i64_in _ (by omega)
  clear hr hB hxe hby hk hn
  go_enter Tryd.func33, Tryd.ntmps33
  go_wp2_with fail
  refine HT.out.mono ?_
  rintro e w1 ⟨⟨A', c', rfl, hc', hC⟩, hr1, ho1⟩
  rw [HL.out] at hC
  obtain ⟨ad, rfl, x0⟩ := Kd.at_int hC 0 (by omega) (by decide)
  have x1 : w1.cell? ad = some (.int .u8 x) := ((ho1.below HB.out hg).cell (World.block_lt_of_cell? w0 _ x0)).trans x0
  have HR1 := Lib.hid hr1
  have HO1 := Lib.hid ho1
  clear hC x0 hr1 ho1
  go_wp2_with fail
  go_ret
  exact ⟨rfl, HR1.out, HO1.out⟩
set_option maxHeartbeats 1000000 in
set_option maxRecDepth 100000 in
theorem rbyte_no (w0 : World) (g : Nat) (l : List Int) (j : Nat) (W : World) (hr : RdAt w0 g l j W) (hk : l.length ≤ j) :
    Calls Tryd.prog 33 #[.pointer (some ⟨g, 0, none⟩)] W fun e w' => e = .panicked faultP ∧ w' = W := by
  have HT := Lib.hid (rtake_no w0 g l j 1 W hr (by omega))
  clear hr hk
  go_enter Tryd.func33, Tryd.ntmps33
  go_wp2_with fail
  refine HT.out.mono ?_
  rintro e w1 ⟨rfl, rfl⟩
  go_wp2_with fail
  simp [bodyPost]

set_option maxHeartbeats 2000000 in
set_option maxRecDepth 100000 in
theorem rshort_ok (w0 : World) (g : Nat) (l : List Int) (j : Nat) (W : World) (hr : RdAt w0 g l j W) (hB : Below w0.heap.size w0 W) (hg : w0.heap.size ≤ g) (hk : j + 2 ≤ l.length) (hby : ∀ x ∈ l, 0 ≤ x ∧ x ≤ 255) (hn : l.length < 1099511627776) :
    Calls Tryd.prog 36 #[.pointer (some ⟨g, 0, none⟩)] W fun e w' => e = .returned (.int .i64 (sA l j)) ∧ RdAt w0 g l (j + 2) w' ∧ OneBut W w' g := by
  have HT := Lib.hid (rtake_ok w0 g l j 2 W hr (by omega) hn)
  have HB := Lib.hid hB
  have hx := bA_in hby j
  have hy := bA_in hby (j + 1)
  obtain ⟨x, hxe⟩ : ∃ x, x = bA l j := ⟨_, rfl⟩
  obtain ⟨y, hye⟩ : ∃ y, y = bA l (j + 1) := ⟨_, rfl⟩
  have HL : Hid ((l.drop j).take 2 = [x, y]) := by show _ = _; rw [hxe, hye, bA_of (show j < l.length by omega), bA_of (show j + 1 < l.length by omega), List.drop_eq_getElem_cons (show j < l.length by omega), List.drop_eq_getElem_cons (show j + 1 < l.length by omega)]; rfl
  have HS : Hid (sA l j = x * 256 + y) := by show _ = _; rw [hxe, hye]; rfl
  rw [← hxe] at hx
  rw [← hye] at hy
  have e6 : IntKind.i64.wrap x = x := IntWalk.i64_in _ (by omega)
  have e7 : IntKind.i64.wrap y = y := IntWalk.i64_in _ (by omega)
  have e8 : bits .or .i64 (x * 256) y = x * 256 + y := or_join8 (by omega) (by omega) (by omega) (by omega)
  have e10 : IntKind.i64.wrap (x * 256) = x * 256 := IntWalk.i64_in _ (by omega)
  rw [HS.out]
  clear hr hB hxe hye hby hk hn
  go_enter Tryd.func36, Tryd.ntmps36
  go_wp2_with fail
  refine HT.out.mono ?_
  rintro e w1 ⟨⟨A', c', rfl, hc', hC⟩, hr1, ho1⟩
  rw [HL.out] at hC
  obtain ⟨ad, rfl, x0⟩ := Kd.at_int hC 0 (by omega) (by decide)
  obtain ⟨ad2, e2, x1⟩ := Kd.at_int hC 1 (by omega) (by decide)
  cases e2
  have u0 : w1.cell? ad = some (.int .u8 x) := ((ho1.below HB.out hg).cell (World.block_lt_of_cell? w0 _ x0)).trans x0
  have u1 : w1.cell? ⟨ad.block, ad.off + 1, none⟩ = some (.int .u8 y) := ((ho1.below HB.out hg).cell (World.block_lt_of_cell? w0 _ x1)).trans x1
  have HR1 := Lib.hid hr1
  have HO1 := Lib.hid ho1
  clear hC x0 x1 hr1 ho1
  go_wp2_with fail
  refine start_ (n := 11) (S := fun w' => w'.cell? ad = some (.int .u8 x) ∧ w'.cell? ⟨ad.block, ad.off + 1, none⟩ = some (.int .u8 y)) (ds := []) #[false, false, false, false, false, false, false, false, false, false, false] (by kernel_rfl) rfl rfl ⟨u0, u1⟩ (fun hHeld => ?_)
  refine pure_ (i := 0) (N := some 6) (v := ?_) (a' := ?_) #[true, false, false, false, false, false, false, false, false, false, false] rfl rfl (by kernel_rfl) (fun _ _ _ h => h) (Or.inl ⟨by rfl, ?_⟩) ?_ ?_
  rotate_left
  · intro w'
    go_simp
    with_reducible rfl
  rotate_left
  · simp only [Act.put, List.setIfInBounds_toArray, List.set_cons_zero, List.set_cons_succ, i64_w, i32_w]
    rfl
  refine pure_ (i := 1) (N := some 7) (v := ?_) (a' := ?_) #[true, true, false, false, false, false, false, false, false, false, false] rfl rfl (by kernel_rfl) (fun _ _ _ h => h) (Or.inl ⟨by rfl, ?_⟩) ?_ ?_
  rotate_left
  · intro w'
    go_simp
    with_reducible rfl
  rotate_left
  · simp only [Act.put, List.setIfInBounds_toArray, List.set_cons_zero, List.set_cons_succ, i64_w, i32_w]
    rfl
  refine pure_ (i := 5) (N := some 11) (v := ?_) (a' := ?_) #[true, true, false, false, false, true, false, false, false, false, false] rfl rfl (by kernel_rfl) (fun _ _ _ h => h) (Or.inl ⟨by rfl, ?_⟩) ?_ ?_
  rotate_left
  · intro w'
    go_simp
    with_reducible rfl
  rotate_left
  · simp only [Act.put, List.setIfInBounds_toArray, List.set_cons_zero, List.set_cons_succ, i64_w, i32_w]
    rfl
  refine pure_ (i := 6) (N := some 12) (v := ?_) (a' := ?_) #[true, true, false, false, false, true, true, false, false, false, false] rfl rfl (by kernel_rfl) (fun _ _ _ h => h) (Or.inl ⟨by rfl, ?_⟩) ?_ ?_
  rotate_left
  · intro w'
    go_simp
    with_reducible rfl
  rotate_left
  · simp only [Act.put, List.setIfInBounds_toArray, List.set_cons_zero, List.set_cons_succ, i64_w, i32_w]
    rfl
  refine take_ (i := 2) (N := some 8) (v := .int .u8 x) (a' := ?_) #[true, true, true, false, false, true, true, false, false, false, false] rfl rfl (by kernel_rfl) (fun _ _ _ h => h) (Or.inl ⟨by rfl, ?_⟩) hHeld ?_ ?_
  · rintro w' ⟨s0, s1⟩
    go_simp
    try (with_reducible rfl)
  rotate_left
  · simp only [Act.put, List.setIfInBounds_toArray, List.set_cons_zero, List.set_cons_succ, i64_w, i32_w]
    rfl
  refine pure_ (i := 3) (N := some 9) (v := .int .i64 x) (a' := ?_) #[true, true, true, true, false, true, true, false, false, false, false] rfl rfl (by kernel_rfl) (fun _ _ _ h => h) (Or.inl ⟨by rfl, ?_⟩) ?_ ?_
  · intro w'
    go_simp
    try (with_reducible rfl)
  rotate_left
  · simp only [Act.put, List.setIfInBounds_toArray, List.set_cons_zero, List.set_cons_succ, i64_w, i32_w]
    rfl
  refine pure_ (i := 4) (N := some 10) (v := .int .i64 (x * 256)) (a' := ?_) #[true, true, true, true, true, true, true, false, false, false, false] rfl rfl (by kernel_rfl) (fun _ _ _ h => h) (Or.inl ⟨by rfl, ?_⟩) ?_ ?_
  · intro w'
    go_simp
    try (with_reducible rfl)
  rotate_left
  · simp only [Act.put, List.setIfInBounds_toArray, List.set_cons_zero, List.set_cons_succ, i64_w, i32_w]
    rfl
  refine take_ (i := 7) (N := some 13) (v := .int .u8 y) (a' := ?_) #[true, true, true, true, true, true, true, true, false, false, false] rfl rfl (by kernel_rfl) (fun _ _ _ h => h) (Or.inl ⟨by rfl, ?_⟩) hHeld ?_ ?_
  · rintro w' ⟨s0, s1⟩
    go_simp
    try (with_reducible rfl)
  rotate_left
  · simp only [Act.put, List.setIfInBounds_toArray, List.set_cons_zero, List.set_cons_succ, i64_w, i32_w]
    rfl
  refine pure_ (i := 8) (N := some 14) (v := .int .i64 y) (a' := ?_) #[true, true, true, true, true, true, true, true, true, false, false] rfl rfl (by kernel_rfl) (fun _ _ _ h => h) (Or.inl ⟨by rfl, ?_⟩) ?_ ?_
  · intro w'
    go_simp
    try (with_reducible rfl)
  rotate_left
  · simp only [Act.put, List.setIfInBounds_toArray, List.set_cons_zero, List.set_cons_succ, i64_w, i32_w]
    rfl
  refine pure_ (i := 9) (N := some 15) (v := .int .i64 (x * 256 + y)) (a' := ?_) #[true, true, true, true, true, true, true, true, true, true, false] rfl rfl (by kernel_rfl) (fun _ _ _ h => h) (Or.inl ⟨by rfl, ?_⟩) ?_ ?_
  · intro w'
    go_simp
    try (with_reducible rfl)
  rotate_left
  · simp only [Act.put, List.setIfInBounds_toArray, List.set_cons_zero, List.set_cons_succ, i64_w, i32_w]
    rfl
  refine pure_ (i := 10) (N := some 2) (v := ?_) (a' := ?_) #[true, true, true, true, true, true, true, true, true, true, true] rfl rfl (by kernel_rfl) (fun _ _ _ h => h) (Or.inl ⟨by rfl, ?_⟩) ?_ ?_
  rotate_left
  · intro w'
    go_simp
    with_reducible rfl
  rotate_left
  · simp only [Act.put, List.setIfInBounds_toArray, List.set_cons_zero, List.set_cons_succ, i64_w, i32_w]
    rfl
  refine done_ (by kernel_rfl) ?_
  go_wp2_with fail
  go_ret
  exact ⟨rfl, HR1.out.move rfl, HO1.out.trans_ (OneBut.of_below (below_drew (Below.refl _ _)) g)⟩
set_option maxHeartbeats 1000000 in
set_option maxRecDepth 100000 in
theorem rshort_no (w0 : World) (g : Nat) (l : List Int) (j : Nat) (W : World) (hr : RdAt w0 g l j W) (hk : l.length < j + 2) :
    Calls Tryd.prog 36 #[.pointer (some ⟨g, 0, none⟩)] W fun e w' => e = .panicked faultP ∧ w' = W := by
  have HT := Lib.hid (rtake_no w0 g l j 2 W hr (by omega))
  clear hr hk
  go_enter Tryd.func36, Tryd.ntmps36
  go_wp2_with fail
  refine HT.out.mono ?_
  rintro e w1 ⟨rfl, rfl⟩
  go_wp2_with fail
  simp [bodyPost]

set_option maxHeartbeats 2000000 in
set_option maxRecDepth 100000 in
theorem rlong_ok (w0 : World) (g : Nat) (l : List Int) (j : Nat) (W : World) (hr : RdAt w0 g l j W) (hB : Below w0.heap.size w0 W) (hg : w0.heap.size ≤ g) (hk : j + 4 ≤ l.length) (hby : ∀ x ∈ l, 0 ≤ x ∧ x ≤ 255) (hn : l.length < 1099511627776) :
    Calls Tryd.prog 35 #[.pointer (some ⟨g, 0, none⟩)] W fun e w' => e = .returned (.int .u32 (lA l j)) ∧ RdAt w0 g l (j + 4) w' ∧ OneBut W w' g := by
  have HT := Lib.hid (rshort_ok w0 g l j W hr hB hg (by omega) hby hn)
  have HT2 := Lib.hid (fun W1 (h1 : RdAt w0 g l (j + 2) W1) (h2 : Below w0.heap.size w0 W1) => rshort_ok w0 g l (j + 2) W1 h1 h2 hg (by omega) hby hn)
  have HB := Lib.hid hB
  have hx := sA_in hby j
  have hy := sA_in hby (j + 2)
  obtain ⟨x, hxe⟩ : ∃ x, x = sA l j := ⟨_, rfl⟩
  obtain ⟨y, hye⟩ : ∃ y, y = sA l (j + 2) := ⟨_, rfl⟩
  have HS : Hid (lA l j = x * 65536 + y) := by show _ = _; rw [hxe, hye]; rfl
  rw [← hxe] at hx HT
  rw [← hye] at hy HT2
  have e8 : bits .or .i64 (x * 65536) y = x * 65536 + y := or_join16 (by omega) (by omega) (by omega) (by omega)
  have e9 : IntKind.u32.wrap (x * 65536 + y) = x * 65536 + y := IntWalk.u32_in _ (by omega)
  rw [HS.out]
  clear hr hB hxe hye hby hk hn
  go_enter Tryd.func35, Tryd.ntmps35
  go_wp2_with fail
  refine HT.out.mono ?_
  rintro e w1 ⟨rfl, hr1, ho1⟩
  have HR1 := Lib.hid hr1
  have HO1 := Lib.hid ho1
  clear hr1 ho1
  go_wp2_with fail
  refine (HT2.out w1 HR1.out (HO1.out.below HB.out hg)).mono ?_
  rintro e w2 ⟨rfl, hr2, ho2⟩
  have HR2 := Lib.hid hr2
  have HO2 := Lib.hid ho2
  clear hr2 ho2
  go_wp2_with fail
  go_ret
  exact ⟨rfl, HR2.out, HO1.out.trans_ HO2.out⟩
set_option maxHeartbeats 1000000 in
set_option maxRecDepth 100000 in
theorem rlong_no (w0 : World) (g : Nat) (l : List Int) (j : Nat) (W : World) (hr : RdAt w0 g l j W) (hB : Below w0.heap.size w0 W) (hg : w0.heap.size ≤ g) (hk : l.length < j + 4) (hby : ∀ x ∈ l, 0 ≤ x ∧ x ≤ 255) (hn : l.length < 1099511627776) :
    Calls Tryd.prog 35 #[.pointer (some ⟨g, 0, none⟩)] W fun e w' => e = .panicked faultP ∧ OneBut W w' g := by
  by_cases h2 : l.length < j + 2
  · have HT := Lib.hid (rshort_no w0 g l j W hr h2)
    clear hr hk hB hby hn h2
    go_enter Tryd.func35, Tryd.ntmps35
    go_wp2_with fail
    refine HT.out.mono ?_
    rintro e w1 ⟨rfl, rfl⟩
    go_wp2_with fail
    simp [bodyPost]
    exact OneBut.refl_ _ _
  · have HT := Lib.hid (rshort_ok w0 g l j W hr hB hg (by omega) hby hn)
    have HT2 := Lib.hid (fun W1 (h1 : RdAt w0 g l (j + 2) W1) => rshort_no w0 g l (j + 2) W1 h1 (by omega))
    have HX := Lib.hid (sA_in hby j)
    clear hr hk hB hby hn h2
    have hx := HX.out
    go_enter Tryd.func35, Tryd.ntmps35
    go_wp2_with fail
    refine HT.out.mono ?_
    rintro e w1 ⟨rfl, hr1, ho1⟩
    have HR1 := Lib.hid hr1
    have HO1 := Lib.hid ho1
    clear hr1 ho1
    go_wp2_with fail
    refine (HT2.out w1 HR1.out).mono ?_
    rintro e w2 ⟨rfl, rfl⟩
    go_wp2_with fail
    simp [bodyPost]
    exact HO1.out
end Go.Proofs.YtdpoknfidlekbaaDoor
end
