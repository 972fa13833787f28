/-
  route.of: the address of four bytes. Condition: bytes.
-/
import Derived.Lib.Hide
import Derived.Deep.Slices
import Derived.Deep.QuietTactic
import Derived.Test.YteniakelhalojaaPn0
import Derived.Laws.BitsLemmas
namespace Go.Proofs.Yteniakelhalojaa
open Go.RowKit Go.Proofs.Yteniakelhalojaa.Pn Go.Proofs.YteniakelhalojaaW.PrintWords Go.Proofs.YteniakelhalojaaW.PrintLast Go.Proofs.YteniakelhalojaaW.PrintMore
set_option linter.unusedVariables false
set_option linter.unusedSimpArgs false

def ofR (l : List Int) : Int := ((l.getD 0 0 * 256 + l.getD 1 0) * 256 + l.getD 2 0) * 256 + l.getD 3 0
/-- The i-th of an array value of four bytes. -/
theorem idx4b (a b c d : Int) (i : Nat) (hi : i < 4) (W : World) : (Instr.index 43 (.agg #[.int .u8 a, .int .u8 b, .int .u8 c, .int .u8 d]) (.int .i64 (i : Int))).run Try.prog W = .ok (.int .u8 (([a, b, c, d] : List Int).getD i 0)) W := by
  have hu : Try.prog.underlying 43 = some (.array 4 5) := by kernel_rfl
  have hs : (Try.prog.info? 5).map (fun i => (i.size, i.zero)) = some (1, some (.int .u8 0)) := by kernel_rfl
  obtain ⟨i0, h0, h1⟩ := Option.map_eq_some_iff.1 hs
  simp only [Prod.mk.injEq] at h1
  obtain rfl | rfl | rfl | rfl : i = 0 ∨ i = 1 ∨ i = 2 ∨ i = 3 := by omega
  all_goals simp [Instr.index, asIntOf, run_underlying hu, sizeOf, part, typeInfo, h0, h1.1, h1.2]
theorem nat_or8 (a c : Nat) (hc : c < 256) : (a * 256) ||| c = a * 256 + c := by
  have : a * 256 = a <<< 8 := by rw [Nat.shiftLeft_eq]
  rw [this, Nat.shiftLeft_add_eq_or_of_lt (by omega)]
theorem of_step (a c : Int) (ha : 0 ≤ a ∧ a < 16777216) (hc : 0 ≤ c ∧ c ≤ 255) : bits .or .u32 (a * 256 % 4294967296) (c % 4294967296) = a * 256 + c := by
  obtain ⟨a0, a1⟩ := ha
  obtain ⟨c0, c1⟩ := hc
  obtain ⟨n, rfl⟩ := Int.eq_ofNat_of_zero_le a0
  obtain ⟨m, rfl⟩ := Int.eq_ofNat_of_zero_le c0
  have e1 : (n : Int) * 256 % 4294967296 = ((n * 256 : Nat) : Int) := by omega
  have e2 : (m : Int) % 4294967296 = m := by omega
  rw [e1, e2, (bits_nat .u32 32 (by decide) (fun n h0 h1 => by rw [IntKind.wrap_u32]; omega) (n * 256) m (by omega) (by omega)).2, nat_or8 n m (by omega)]
  omega

def pOf (b0 b1 b2 b3 : Int) : Nat → Int
  | 0 => 0
  | 1 => b0
  | 2 => b0 * 256 + b1
  | 3 => (b0 * 256 + b1) * 256 + b2
  | _ => ((b0 * 256 + b1) * 256 + b2) * 256 + b3
set_option maxHeartbeats 1000000 in
theorem of_calls (b0 b1 b2 b3 : Int) (w : World) (h0 : 0 ≤ b0 ∧ b0 ≤ 255) (h1 : 0 ≤ b1 ∧ b1 ≤ 255) (h2 : 0 ≤ b2 ∧ b2 ≤ 255) (h3 : 0 ≤ b3 ∧ b3 ≤ 255) :
    Calls Try.prog 35 #[.agg #[.int .u8 b0, .int .u8 b1, .int .u8 b2, .int .u8 b3]] w fun e w' => e = .returned (.int .u32 (ofR [b0, b1, b2, b3])) ∧ Below w.heap.size w w' := by
  have H0 := Lib.hid h0
  have H1 := Lib.hid h1
  have H2 := Lib.hid h2
  have H3 := Lib.hid h3
  clear h0 h1 h2 h3
  have HB := Lib.hid (below_alloc (Below.refl w.heap.size w) (.cells #[.int .u8 b0, .int .u8 b1, .int .u8 b2, .int .u8 b3] 43))
  go_enter Try.func35, Try.ntmps35
  go_wp2
  go_loopg [3, 5, 7] 4 (fun kq v3 v5 v7 wr => ∃ (i : Nat), v7 = .int .i64 i ∧ Hid (i ≤ 4 ∧ 4 ≤ kq + i) ∧ Hid (v3 = .int .u32 (pOf b0 b1 b2 b3 i)) ∧ Hid (wr = w.alloc (.cells #[.int .u8 b0, .int .u8 b1, .int .u8 b2, .int .u8 b3] 43)))
  case atStart => exact ⟨0, rfl, Lib.hid (by omega), rfl, rfl⟩
  case round =>
    obtain ⟨i, rfl, HI, H3v, HW⟩ := hrel
    obtain rfl := HW.out
    obtain rfl := H3v.out
    have hi4 : i = 0 ∨ i = 1 ∨ i = 2 ∨ i = 3 ∨ i = 4 := by have := HI.out; omega
    have P1 : Hid (0 ≤ b0 ∧ b0 < 256) := Lib.hid (by have := H0.out; omega)
    rcases hi4 with rfl | rfl | rfl | rfl | rfl
    · have hix : ∀ W : World, (Instr.index 43 (.agg #[.int .u8 b0, .int .u8 b1, .int .u8 b2, .int .u8 b3]) (.int .i64 0)).run Try.prog W = .ok (.int .u8 b0) W := idx4b b0 b1 b2 b3 0 (by decide)
      have hst := (of_step (pOf b0 b1 b2 b3 0) b0 (by have := H0.out; have := H1.out; have := H2.out; have := H3.out; simp only [pOf]; omega) H0.out)
      have hpn : pOf b0 b1 b2 b3 0 * 256 + b0 = pOf b0 b1 b2 b3 1 := by first | (simp only [pOf]; done) | (simp only [pOf]; omega)
      rw [hpn] at hst
      obtain ⟨pa, hpa⟩ : ∃ p, pOf b0 b1 b2 b3 0 = p := ⟨_, rfl⟩
      obtain ⟨pb, hpb⟩ : ∃ p, pOf b0 b1 b2 b3 1 = p := ⟨_, rfl⟩
      have HPB := Lib.hid hpb
      simp only [hpa, hpb] at hst ⊢
      clear hpa hpn hpb
      go_wp2
      have hkk := HI.out
      go_roundg (gk - 1)
      case measure => omega
      case rel => exact ⟨1, rfl, Lib.hid (by omega), Lib.hid (by rw [HPB.out]), rfl⟩
    · have hix : ∀ W : World, (Instr.index 43 (.agg #[.int .u8 b0, .int .u8 b1, .int .u8 b2, .int .u8 b3]) (.int .i64 1)).run Try.prog W = .ok (.int .u8 b1) W := idx4b b0 b1 b2 b3 1 (by decide)
      have hst := (of_step (pOf b0 b1 b2 b3 1) b1 (by have := H0.out; have := H1.out; have := H2.out; have := H3.out; simp only [pOf]; omega) H1.out)
      have hpn : pOf b0 b1 b2 b3 1 * 256 + b1 = pOf b0 b1 b2 b3 2 := by first | (simp only [pOf]; done) | (simp only [pOf]; omega)
      rw [hpn] at hst
      obtain ⟨pa, hpa⟩ : ∃ p, pOf b0 b1 b2 b3 1 = p := ⟨_, rfl⟩
      obtain ⟨pb, hpb⟩ : ∃ p, pOf b0 b1 b2 b3 2 = p := ⟨_, rfl⟩
      have HPB := Lib.hid hpb
      simp only [hpa, hpb] at hst ⊢
      clear hpa hpn hpb
      go_wp2
      have hkk := HI.out
      go_roundg (gk - 1)
      case measure => omega
      case rel => exact ⟨2, rfl, Lib.hid (by omega), Lib.hid (by rw [HPB.out]), rfl⟩
    · have hix : ∀ W : World, (Instr.index 43 (.agg #[.int .u8 b0, .int .u8 b1, .int .u8 b2, .int .u8 b3]) (.int .i64 2)).run Try.prog W = .ok (.int .u8 b2) W := idx4b b0 b1 b2 b3 2 (by decide)
      have hst := (of_step (pOf b0 b1 b2 b3 2) b2 (by have := H0.out; have := H1.out; have := H2.out; have := H3.out; simp only [pOf]; omega) H2.out)
      have hpn : pOf b0 b1 b2 b3 2 * 256 + b2 = pOf b0 b1 b2 b3 3 := by first | (simp only [pOf]; done) | (simp only [pOf]; omega)
      rw [hpn] at hst
      obtain ⟨pa, hpa⟩ : ∃ p, pOf b0 b1 b2 b3 2 = p := ⟨_, rfl⟩
      obtain ⟨pb, hpb⟩ : ∃ p, pOf b0 b1 b2 b3 3 = p := ⟨_, rfl⟩
      have HPB := Lib.hid hpb
      simp only [hpa, hpb] at hst ⊢
      clear hpa hpn hpb
      go_wp2
      have hkk := HI.out
      go_roundg (gk - 1)
      case measure => omega
      case rel => exact ⟨3, rfl, Lib.hid (by omega), Lib.hid (by rw [HPB.out]), rfl⟩
    · have hix : ∀ W : World, (Instr.index 43 (.agg #[.int .u8 b0, .int .u8 b1, .int .u8 b2, .int .u8 b3]) (.int .i64 3)).run Try.prog W = .ok (.int .u8 b3) W := idx4b b0 b1 b2 b3 3 (by decide)
      have hst := (of_step (pOf b0 b1 b2 b3 3) b3 (by have := H0.out; have := H1.out; have := H2.out; have := H3.out; simp only [pOf]; omega) H3.out)
      have hpn : pOf b0 b1 b2 b3 3 * 256 + b3 = pOf b0 b1 b2 b3 4 := by first | (simp only [pOf]; done) | (simp only [pOf]; omega)
      rw [hpn] at hst
      obtain ⟨pa, hpa⟩ : ∃ p, pOf b0 b1 b2 b3 3 = p := ⟨_, rfl⟩
      obtain ⟨pb, hpb⟩ : ∃ p, pOf b0 b1 b2 b3 4 = p := ⟨_, rfl⟩
      have HPB := Lib.hid hpb
      simp only [hpa, hpb] at hst ⊢
      clear hpa hpn hpb
      go_wp2
      have hkk := HI.out
      go_roundg (gk - 1)
      case measure => omega
      case rel => exact ⟨4, rfl, Lib.hid (by omega), Lib.hid (by rw [HPB.out]), rfl⟩
    · go_wp2
      go_ret
      exact ⟨rfl, HB.out⟩
end Go.Proofs.Yteniakelhalojaa
