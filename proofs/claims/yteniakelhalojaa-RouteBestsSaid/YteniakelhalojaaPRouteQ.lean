/-
  Routes over numbers: what route.Right, In, Best and the reference's Right compute. (TAG Pn)
-/
import Derived.Test.YteniakelhalojaaPnF14
import Derived.Test.YteniakelhalojaaPnF13
namespace Go.Proofs.Yteniakelhalojaa.PR
open Go.RowKit Go.Proofs.Yteniakelhalojaa Go.Proofs.Yteniakelhalojaa.Pn Go.Proofs.YteniakelhalojaaW.PrintWords Go.Proofs.YteniakelhalojaaW.PrintLast Go.Proofs.YteniakelhalojaaW.PrintMore
set_option linter.unusedVariables false
set_option linter.unusedSimpArgs false

abbrev Rt := S32
theorem wrapR {x : Int} (h0 : 0 ≤ x) (h1 : x < 9223372036854775808) : wrap64 x = x := by unfold wrap64; omega
theorem rd_rt (l : List Rt) {i : Nat} (h : i < l.length) : rd_T32 l (i : Int) = l[i] := by
  unfold rd_T32
  rw [Int.toNat_natCast, List.getD_eq_getElem?_getD, List.getElem?_eq_getElem h]
  rfl

theorem wrap_u64' (n : Int) : IntKind.u64.wrap n = n % 18446744073709551616 := by simp [IntKind.wrap, IntKind.bits, IntKind.signed]
/-! ### masks -/
theorem and_mask (a s : Nat) (hs : s ≤ 32) (ha : a < 2 ^ 32) : a &&& (2 ^ 32 - 2 ^ s) = a / 2 ^ s * 2 ^ s := by
  have e : 2 ^ 32 - 2 ^ s = (2 ^ (32 - s) - 1) <<< s := by
    rw [Nat.shiftLeft_eq, Nat.sub_mul, ← Nat.pow_add, Nat.one_mul]
    congr 2; omega
  rw [e, ← Nat.shiftLeft_eq, ← Nat.shiftRight_eq_div_pow]
  apply Nat.eq_of_testBit_eq
  intro i
  rw [Nat.testBit_and, Nat.testBit_shiftLeft, Nat.testBit_shiftLeft, Nat.testBit_shiftRight, Nat.testBit_two_pow_sub_one]
  by_cases h : s ≤ i
  · rw [decide_eq_true h, show s + (i - s) = i by omega]
    by_cases h2 : i < 32
    · rw [show decide (i - s < 32 - s) = true from decide_eq_true (by omega)]
      simp [h]
    · rw [Nat.testBit_lt_two_pow (Nat.lt_of_lt_of_le ha (Nat.pow_le_pow_right (by decide) (by omega)))]
      simp
  · rw [decide_eq_false h]
    simp [h]
theorem andNot_mask (a s : Nat) (hs : s ≤ 32) (ha : a < 2 ^ 32) : bits .andNot .u32 (a : Int) ((2 ^ 32 - 2 ^ s : Nat) : Int) = ((a % 2 ^ s : Nat) : Int) := by
  have hp : 0 < 2 ^ s := Nat.two_pow_pos s
  have hle : 2 ^ s ≤ 2 ^ 32 := Nat.pow_le_pow_right (by decide) hs
  have hm : (2 ^ 32 - 2 ^ s) % 2 ^ 32 = 2 ^ 32 - 2 ^ s := Nat.mod_eq_of_lt (by omega)
  have hr : a % 2 ^ s < 2 ^ s := Nat.mod_lt _ hp
  simp only [bits, BitVec.ofInt_natCast, BitVec.toNat_and, BitVec.toNat_not, BitVec.toNat_ofNat]
  rw [show IntKind.u32.bits = 32 from rfl, Nat.mod_eq_of_lt ha, hm, show 2 ^ 32 - 1 - (2 ^ 32 - 2 ^ s) = 2 ^ s - 1 by omega, Nat.and_two_pow_sub_one_eq_mod, IntKind.wrap_u32]
  have : a % 2 ^ s ≤ a := Nat.mod_le _ _
  omega
theorem bits_and_mask (a s : Nat) (hs : s ≤ 32) (ha : a < 2 ^ 32) : bits .and .u32 (a : Int) ((2 ^ 32 - 2 ^ s : Nat) : Int) = ((a / 2 ^ s * 2 ^ s : Nat) : Int) := by
  have hp : 0 < 2 ^ s := Nat.two_pow_pos s
  rw [(bits_nat .u32 32 (by decide) (fun n h0 h1 => by rw [IntKind.wrap_u32]; omega) a (2 ^ 32 - 2 ^ s) ha (by omega)).1, and_mask a s hs ha]
theorem mask_eq (b : Nat) (hb : b ≤ 32) : route_mask.f (b : Int) = some ((2 ^ 32 - 2 ^ (32 - b) : Nat) : Int) := by
  unfold route_mask.f
  have hp : 0 < 2 ^ (32 - b) := Nat.two_pow_pos _
  have hle : 2 ^ (32 - b) ≤ 2 ^ 32 := Nat.pow_le_pow_right (by decide) (by omega)
  have e1 : shl .u64 1 (32 - (b : Int)) = ((2 ^ (32 - b) : Nat) : Int) := by
    unfold shl
    have : (32 - (b : Int)).toNat = 32 - b := by omega
    rw [this, show IntKind.u64.bits = 64 from rfl, Nat.min_eq_left (by omega), Int.one_mul]
    have e2 : (2 : Int) ^ (32 - b) = ((2 ^ (32 - b) : Nat) : Int) := by simp
    rw [e2, wrap_u64']
    omega
  rw [wrapR (by omega) (by omega), if_pos (by omega), e1, wrap_u64']
  congr 1
  omega

/-! ### what a route is -/
def okU (a : Int) : Prop := 0 ≤ a ∧ a < 4294967296
theorem okU_wf {a : Int} (h : (Lit.int .u32 a).wf = true) : okU a := by
  have e1 : IntKind.u32.min = 0 := by decide
  have e2 : IntKind.u32.max = 4294967295 := by decide
  simp [Lit.wf, e1, e2] at h
  unfold okU; omega
def sh (x : Rt) : Nat := 32 - x.f1.toNat
def okR (x : Rt) : Prop := 0 ≤ x.f1 ∧ x.f1 ≤ 32 ∧ x.f0.toNat % 2 ^ sh x = 0
instance (x : Rt) : Decidable (okR x) := by unfold okR; infer_instance
def inR (x : Rt) (a : Int) : Prop := okR x ∧ a.toNat / 2 ^ sh x = x.f0.toNat / 2 ^ sh x
instance (x : Rt) (a : Int) : Decidable (inR x a) := by unfold inR; infer_instance
theorem right_eq (x : Rt) (h : okU x.f0) : route_Right.f x.f0 x.f1 x.f2 = some (decide (okR x)) := by
  obtain ⟨h0, h1⟩ := h
  unfold route_Right.f
  by_cases c : 0 ≤ x.f1
  · by_cases d : x.f1 ≤ 32
    · rw [if_pos c, if_pos d]
      obtain ⟨b, hb⟩ := Int.eq_ofNat_of_zero_le c
      obtain ⟨n, hn⟩ := Int.eq_ofNat_of_zero_le h0
      have hm := mask_eq b (by omega)
      rw [← hb] at hm
      rw [hm]
      simp only [Option.bind_some]
      have ha := andNot_mask n (32 - b) (by omega) (by omega)
      rw [← hn] at ha
      rw [ha]
      congr 1
      rw [Bool.eq_iff_iff, beq_iff_eq, decide_eq_true_iff]
      unfold okR sh
      rw [hb, hn]
      simp only [Int.toNat_natCast]
      omega
    · rw [if_pos c, if_neg d, decide_eq_false (fun h => d h.2.1)]
  · rw [if_neg c, decide_eq_false (fun h => c h.1)]
theorem in_eq (x : Rt) (a : Int) (h : okU x.f0) (ha : okU a) : route_In.f x.f0 x.f1 x.f2 a = some (decide (inR x a)) := by
  unfold route_In.f
  rw [right_eq x h]
  simp only [Option.bind_some]
  by_cases c : okR x
  · rw [decide_eq_true c, if_pos rfl]
    obtain ⟨h0, h1⟩ := h
    obtain ⟨a0, a1⟩ := ha
    have c' := c
    obtain ⟨c0, c1, c2⟩ := c
    unfold sh at c2
    obtain ⟨b, hb⟩ := Int.eq_ofNat_of_zero_le c0
    obtain ⟨n, hn⟩ := Int.eq_ofNat_of_zero_le h0
    obtain ⟨m, hm⟩ := Int.eq_ofNat_of_zero_le a0
    rw [hb, mask_eq b (by omega)]
    simp only [Option.bind_some]
    rw [hm, bits_and_mask m (32 - b) (by omega) (by omega)]
    congr 1
    rw [Bool.eq_iff_iff, beq_iff_eq, decide_eq_true_iff]
    unfold inR sh
    rw [hb, hn]
    rw [hb, hn] at c2
    simp only [Int.toNat_natCast] at c2 ⊢
    have hp : 0 < 2 ^ (32 - b) := Nat.two_pow_pos _
    have hd := Nat.div_add_mod n (2 ^ (32 - b))
    rw [c2, Nat.add_zero, Nat.mul_comm] at hd
    constructor
    · intro e
      refine ⟨c', ?_⟩
      have e' : m / 2 ^ (32 - b) * 2 ^ (32 - b) = n := by omega
      exact Nat.eq_of_mul_eq_mul_right hp (by omega)
    · rintro ⟨_, e⟩
      rw [e]; omega
  · rw [decide_eq_false c, if_neg (by decide), decide_eq_false (fun h => c h.1)]

/-! ### the reference's -/
theorem tdiv2 (n : Nat) : wrap64 (Int.tdiv (n : Int) 2) = if n < 9223372036854775808 then ((n / 2 : Nat) : Int) else wrap64 (Int.tdiv (n : Int) 2) := by
  split
  · rw [Int.tdiv_eq_ediv_of_nonneg (by omega)]
    unfold wrap64; omega
  · rfl
theorem head_loop : ∀ (d b k n : Nat), b + d = 32 → d < k → n < 4294967296 → lessorref25_head.l0 k (n : Int) (b : Int) = some ((n / 2 ^ d : Nat) : Int) := by
  intro d
  induction d with
  | zero =>
    intro b k n hb hk hn
    obtain ⟨k, rfl⟩ : ∃ m, k = m + 1 := ⟨k - 1, by omega⟩
    simp only [lessorref25_head.l0]
    rw [if_neg (by omega)]; simp
  | succ d ih =>
    intro b k n hb hk hn
    obtain ⟨k, rfl⟩ : ∃ m, k = m + 1 := ⟨k - 1, by omega⟩
    simp only [lessorref25_head.l0]
    rw [if_pos (by omega), tdiv2, if_pos (by omega), wrapR (by omega) (by omega)]
    have := ih (b + 1) k (n / 2) (by omega) (by omega) (by omega)
    rw [show ((b + 1 : Nat) : Int) = (b : Int) + 1 by omega] at this
    rw [this, Nat.div_div_eq_div_mul, Nat.pow_succ, Nat.mul_comm 2]
theorem head_eq (b n k : Nat) (hb : b ≤ 32) (hn : n < 4294967296) (hk : 33 ≤ k) : lessorref25_head.f k (n : Int) (b : Int) = some ((n / 2 ^ (32 - b) : Nat) : Int) := by
  unfold lessorref25_head.f
  rw [wrapR (by omega) (by omega)]
  exact head_loop (32 - b) b k n (by omega) (by omega) hn
theorem ref_right_loop (y0 y1 y2 : Int) : ∀ (d b k n : Nat), b + d = 32 → d < k → n * 2 ^ d < 9223372036854775808 → lessorref25_Right.l0 k (n : Int) (b : Int) y0 y1 y2 = some (((n * 2 ^ d : Nat) : Int) == wrap64 y0) := by
  intro d
  induction d with
  | zero =>
    intro b k n hb hk hn
    obtain ⟨k, rfl⟩ : ∃ m, k = m + 1 := ⟨k - 1, by omega⟩
    simp only [lessorref25_Right.l0]
    rw [if_neg (by omega)]; simp
  | succ d ih =>
    intro b k n hb hk hn
    obtain ⟨k, rfl⟩ : ∃ m, k = m + 1 := ⟨k - 1, by omega⟩
    have e : n * 2 * 2 ^ d = n * 2 ^ (d + 1) := by rw [Nat.pow_succ, Nat.mul_assoc, Nat.mul_comm 2]
    have hle : n * 2 ≤ n * 2 * 2 ^ d := Nat.le_mul_of_pos_right _ (Nat.two_pow_pos d)
    simp only [lessorref25_Right.l0]
    rw [if_pos (by omega), wrapR (by omega) (by omega), wrapR (by omega) (by omega)]
    have := ih (b + 1) k (n * 2) (by omega) (by omega) (by omega)
    rw [show ((b + 1 : Nat) : Int) = (b : Int) + 1 by omega, show ((n * 2 : Nat) : Int) = (n : Int) * 2 by omega] at this
    rw [this, e]
theorem ref_right_eq (x : Rt) (h : okU x.f0) (k : Nat) (hk : 40 ≤ k) : lessorref25_Right.f k x.f0 x.f1 x.f2 = some (decide (okR x)) := by
  obtain ⟨k, rfl⟩ : ∃ m, k = m + 1 := ⟨k - 1, by omega⟩
  obtain ⟨h0, h1⟩ := h
  unfold lessorref25_Right.f
  by_cases c : x.f1 < 0
  · rw [if_pos c]
    simp only [lessorref25_Right.j0, if_true]
    rw [decide_eq_false (fun h => by have := h.1; omega)]
  · rw [if_neg c]
    by_cases d : x.f1 > 32
    · rw [decide_eq_true d]
      simp only [lessorref25_Right.j0, if_true]
      rw [decide_eq_false (fun h => by have := h.2.1; omega)]
    · rw [decide_eq_false d]
      simp only [lessorref25_Right.j0]
      rw [if_neg (by decide)]
      obtain ⟨b, hb⟩ := Int.eq_ofNat_of_zero_le (show 0 ≤ x.f1 by omega)
      obtain ⟨n, hn⟩ := Int.eq_ofNat_of_zero_le h0
      have hle : n / 2 ^ (32 - b) * 2 ^ (32 - b) ≤ n := Nat.div_mul_le_self _ _
      have hd := Nat.div_add_mod n (2 ^ (32 - b))
      have hml := Nat.mod_lt n (Nat.two_pow_pos (32 - b))
      have hcm := Nat.mul_comm (2 ^ (32 - b)) (n / 2 ^ (32 - b))
      rw [hb, hn, head_eq b n k (by omega) (by omega) (by omega)]
      simp only [Option.bind_some]
      rw [ref_right_loop _ _ _ (32 - b) b k _ (by omega) (by omega) (by omega), wrapR (by omega) (by omega)]
      congr 1
      rw [Bool.eq_iff_iff, beq_iff_eq, decide_eq_true_iff]
      unfold okR sh
      rw [hb, hn]
      simp only [Int.toNat_natCast]
      omega
end Go.Proofs.Yteniakelhalojaa.PR
