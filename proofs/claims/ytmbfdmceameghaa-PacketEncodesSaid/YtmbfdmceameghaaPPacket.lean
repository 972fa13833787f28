/-
  Packets as bytes, over lists: what packet.Right, packet.Encode and the reference's compute of few options.
-/
import Derived.Test.YtmbfdmceameghaaHPEncode
import Derived.Test.YtmbfdmceameghaaPOption
import Derived.Test.YtmbfdmceameghaaPrF9
import Derived.Test.YtmbfdmceameghaaPrF7
namespace Go.Proofs.Ytmbfdmceameghaa.PP
open Go.RowKit Go.Proofs.Ytmbfdmceameghaa Go.Proofs.Ytmbfdmceameghaa.Pr Go.Proofs.Ytmbfdmceameghaa.PO Go.Proofs.YtmbfdmceameghaaW.PrintWords Go.Proofs.YtmbfdmceameghaaW.PrintLast Go.Proofs.YtmbfdmceameghaaW.PrintMore
set_option linter.unusedVariables false
set_option linter.unusedSimpArgs false

theorem wrapP {x : Int} (h0 : 0 ≤ x) (h1 : x < 9223372036854775808) : wrap64 x = x := by unfold wrap64; omega
def okPk (a0 a2 a3 : Int) (l8 : List Int) (l9 : List Opt) : Prop := (a0 = 1 ∨ a0 = 2) ∧ (1 ≤ l8.length ∧ l8.length ≤ 16) ∧ (0 ≤ a2 ∧ a2 ≤ 65535) ∧ (0 ≤ a3 ∧ a3 ≤ 65535) ∧ (encR l9).2 = 0
instance (a0 a2 a3 : Int) (l8 : List Int) (l9 : List Opt) : Decidable (okPk a0 a2 a3 l8 l9) := by unfold okPk; infer_instance
theorem right_eq (a0 a1 a2 a3 a4 a5 a6 a7 : Int) (l8 : List Int) (l9 : List Opt) (hf : few l9) (k : Nat) (hk : 110 ≤ k) : packet_Right.f k a0 a1 a2 a3 a4 a5 a6 a7 l8 l9 = some (decide (okPk a0 a2 a3 l8 l9)) := by
  obtain ⟨k, rfl⟩ : ∃ m, k = m + 1 := ⟨k - 1, by omega⟩
  unfold packet_Right.f
  rw [encode_eq l9 hf _ (by omega)]
  simp only [Option.bind_some, packet_Right.j0]
  by_cases c0 : a0 = 1 ∨ a0 = 2
  · have e : (if a0 = 1 then false else (a0 != 2)) = false := by
      rcases c0 with rfl | rfl <;> decide
    have e2 : ∀ (f : Bool → Option Bool), (if a0 = 1 then f false else f (a0 != 2)) = f false := by
      intro f
      rcases c0 with rfl | rfl
      · rfl
      · rfl
    rw [e2 (fun b => if b = true then some false else (if (l8.length : Int) < 1 then (some false) else (if (l8.length : Int) > 16 then (some false) else (if a2 ≥ 0 then (if a2 ≤ 65535 then (if a3 ≥ 0 then (if a3 ≤ 65535 then (some ((encR l9).2 == 0)) else (some false)) else (some false)) else (some false)) else (some false)))))]
    simp only [Bool.false_eq_true, if_false]
    by_cases c : (1 ≤ l8.length ∧ l8.length ≤ 16) ∧ (0 ≤ a2 ∧ a2 ≤ 65535) ∧ (0 ≤ a3 ∧ a3 ≤ 65535)
    · obtain ⟨⟨x1, x2⟩, ⟨x3, x4⟩, x5, x6⟩ := c
      rw [if_neg (by omega), if_neg (by omega), if_pos x3, if_pos x4, if_pos x5, if_pos x6]
      congr 1
      rw [Bool.eq_iff_iff, beq_iff_eq, decide_eq_true_iff]
      unfold okPk
      exact ⟨fun h => ⟨c0, ⟨x1, x2⟩, ⟨x3, x4⟩, ⟨x5, x6⟩, h⟩, fun h => h.2.2.2.2⟩
    · rw [decide_eq_false (fun h => c ⟨h.2.1, h.2.2.1, h.2.2.2.1⟩)]
      repeat' split
      all_goals first | rfl | (exfalso; omega)
  · have n1 : ¬ a0 = 1 := fun h => c0 (.inl h)
    have n2 : ¬ a0 = 2 := fun h => c0 (.inr h)
    rw [if_neg n1, show (a0 != 2) = true from bne_iff_ne.2 n2, decide_eq_false (fun h => c0 h.1)]
    rfl
theorem ref_right_eq (a0 a1 a2 a3 a4 a5 a6 a7 : Int) (l8 : List Int) (l9 : List Opt) (hf : few l9) (k : Nat) (hk : 310 ≤ k) : lessorref03_Right.f k a0 a1 a2 a3 a4 a5 a6 a7 l8 l9 = some (decide (okPk a0 a2 a3 l8 l9)) := by
  have R := ref_encode_eq l9 hf k (by omega)
  have body : (if a2 < 0 then (some false) else (if a2 > 65535 then (some false) else (if a3 < 0 then (some false) else (if a3 > 65535 then (some false) else (if (l8.length : Int) < 1 then (some false) else (if (l8.length : Int) > 16 then (some false) else ((lessorref02_Encode.f k l9).bind fun bt141 => (some (bt141.2 == 0))))))))) = some (decide ((1 ≤ l8.length ∧ l8.length ≤ 16) ∧ (0 ≤ a2 ∧ a2 ≤ 65535) ∧ (0 ≤ a3 ∧ a3 ≤ 65535) ∧ (encR l9).2 = 0)) := by
    rw [R]
    simp only [Option.bind_some]
    by_cases c : (1 ≤ l8.length ∧ l8.length ≤ 16) ∧ (0 ≤ a2 ∧ a2 ≤ 65535) ∧ (0 ≤ a3 ∧ a3 ≤ 65535)
    · obtain ⟨⟨x1, x2⟩, ⟨x3, x4⟩, x5, x6⟩ := c
      rw [if_neg (by omega), if_neg (by omega), if_neg (by omega), if_neg (by omega), if_neg (by omega), if_neg (by omega)]
      congr 1
      rw [Bool.eq_iff_iff, beq_iff_eq, decide_eq_true_iff]
      exact ⟨fun h => ⟨⟨x1, x2⟩, ⟨x3, x4⟩, ⟨x5, x6⟩, h⟩, fun h => h.2.2.2⟩
    · rw [decide_eq_false (fun h => c ⟨h.1, h.2.1, h.2.2.1⟩)]
      repeat' split
      all_goals first | rfl | (exfalso; omega)
  unfold lessorref03_Right.f
  by_cases c1 : a0 = 1
  · rw [if_pos c1, body]
    congr 1
    rw [Bool.eq_iff_iff, decide_eq_true_iff, decide_eq_true_iff]
    exact ⟨fun h => ⟨.inl c1, h⟩, fun h => h.2⟩
  · rw [if_neg c1]
    by_cases c2 : a0 = 2
    · rw [if_pos c2, body]
      congr 1
      rw [Bool.eq_iff_iff, decide_eq_true_iff, decide_eq_true_iff]
      exact ⟨fun h => ⟨.inr c2, h⟩, fun h => h.2⟩
    · rw [if_neg c2, decide_eq_false (fun h => by rcases h.1 with h | h; exact c1 h; exact c2 h)]

/-! ### numbers -/
theorem num_step (k : Nat) (n : Int) (h0 : 0 ≤ n) (h1 : n < 9223372036854775808) (xs : List Int) (i : Nat) (hi : i < xs.length) (hl : xs.length ≤ 100) : lessorref03_number.l0 (k + 1) n xs (i : Int) = lessorref03_number.l0 k (n / 256) (xs.set i (n % 256)) ((i : Int) - 1) := by
  simp only [lessorref03_number.l0]
  have e1 : wrap64 (Int.tdiv n 256) = n / 256 := by rw [Int.tdiv_eq_ediv_of_nonneg h0]; exact wrapP (by omega) (by omega)
  have e2 : Int.tmod n 256 % 256 = n % 256 := by rw [Int.tmod_eq_emod_of_nonneg h0]; omega
  have e3 : wrap64 ((i : Int) - 1) = (i : Int) - 1 := by unfold wrap64; omega
  rw [if_pos (by omega), if_pos (by omega), if_pos (by omega), e1, e2, e3, Int.toNat_natCast]
theorem num_end (k : Nat) (n : Int) (xs : List Int) : lessorref03_number.l0 (k + 1) n xs (-1) = some xs := by
  simp only [lessorref03_number.l0]
  rw [if_neg (by decide)]
theorem num4 (k : Nat) (hk : 5 ≤ k) (n : Int) (h0 : 0 ≤ n) (h1 : n < 4294967296) : lessorref03_number.f k (wrap64 n) 4 = some (pk4 n) := by
  obtain ⟨k, rfl⟩ : ∃ m, k = m + 5 := ⟨k - 5, by omega⟩
  unfold lessorref03_number.f
  rw [if_pos (by decide), if_pos (by decide), wrapP h0 (by omega), show wrap64 (4 - 1) = ((3 : Nat) : Int) from wrapP (by decide) (by decide), show List.replicate (Int.toNat 4) (0 : Int) = [0, 0, 0, 0] from rfl]
  show lessorref03_number.l0 (k + 4 + 1) n [0, 0, 0, 0] ((3 : Nat) : Int) = _
  rw [num_step _ n h0 (by omega) _ 3 (by decide) (by decide)]
  show lessorref03_number.l0 (k + 3 + 1) (n / 256) [0, 0, 0, n % 256] ((2 : Nat) : Int) = _
  rw [num_step _ _ (by omega) (by omega) _ 2 (by simp) (by simp)]
  show lessorref03_number.l0 (k + 2 + 1) (n / 256 / 256) [0, 0, n / 256 % 256, n % 256] ((1 : Nat) : Int) = _
  rw [num_step _ _ (by omega) (by omega) _ 1 (by simp) (by simp)]
  show lessorref03_number.l0 (k + 1 + 1) (n / 256 / 256 / 256) [0, n / 256 / 256 % 256, n / 256 % 256, n % 256] ((0 : Nat) : Int) = _
  rw [num_step _ _ (by omega) (by omega) _ 0 (by simp) (by simp)]
  show lessorref03_number.l0 (k + 1) _ [n / 256 / 256 / 256 % 256, n / 256 / 256 % 256, n / 256 % 256, n % 256] (-1) = _
  rw [num_end]
  unfold pk4 pk2
  congr 1
  simp only [List.cons_append, List.nil_append, List.cons.injEq, and_true]
  omega
theorem num2 (k : Nat) (hk : 5 ≤ k) (n : Int) (h0 : 0 ≤ n) (h1 : n ≤ 65535) : lessorref03_number.f k n 2 = some (pk2 n) := by
  obtain ⟨k, rfl⟩ : ∃ m, k = m + 5 := ⟨k - 5, by omega⟩
  unfold lessorref03_number.f
  rw [if_pos (by decide), if_pos (by decide), show wrap64 (2 - 1) = ((1 : Nat) : Int) from wrapP (by decide) (by decide), show List.replicate (Int.toNat 2) (0 : Int) = [0, 0] from rfl]
  show lessorref03_number.l0 (k + 4 + 1) n [0, 0] ((1 : Nat) : Int) = _
  rw [num_step _ n h0 (by omega) _ 1 (by decide) (by decide)]
  show lessorref03_number.l0 (k + 3 + 1) (n / 256) [0, n % 256] ((0 : Nat) : Int) = _
  rw [num_step _ _ (by omega) (by omega) _ 0 (by simp) (by simp)]
  show lessorref03_number.l0 (k + 2 + 1) _ [n / 256 % 256, n % 256] (-1) = _
  rw [num_end]
  rfl
/-! ### Encode -/
def encPk (a0 a1 a2 a3 a4 a5 a6 a7 : Int) (l8 : List Int) (l9 : List Opt) : List Int × Int := if okPk a0 a2 a3 l8 l9 then (pkHead a0 a1 a2 a3 a4 a5 a6 a7 l8 ++ (encR l9).1, 0) else ([], 1)
theorem encR_len (l : List Opt) : (encR l).1.length ≤ 1024 := by
  unfold encR
  split
  · split
    · simp
    · simp; omega
  · simp
theorem pk_encode_eq (a0 a1 a2 a3 a4 a5 a6 a7 : Int) (hu : pkOk a1 a4 a5 a6 a7) (l8 : List Int) (l9 : List Opt) (hf : few l9) (k : Nat) (hk : 110 ≤ k) : packet_Encode.f k a0 a1 a2 a3 a4 a5 a6 a7 l8 l9 = some (encPk a0 a1 a2 a3 a4 a5 a6 a7 l8 l9) := by
  unfold packet_Encode.f encPk
  rw [right_eq _ _ _ _ _ _ _ _ _ _ hf k hk]
  simp only [Option.bind_some]
  by_cases c : okPk a0 a2 a3 l8 l9
  · rw [decide_eq_true c, if_pos rfl, if_pos c, encode_eq l9 hf k (by omega)]
    simp only [Option.bind_some]
    rw [if_pos ⟨by have := encR_len l9; omega, c.2.1.2, hu⟩]
  · rw [decide_eq_false c, if_neg (by decide), if_neg c]
theorem ref_pk_encode_eq (a0 a1 a2 a3 a4 a5 a6 a7 : Int) (hu : pkOk a1 a4 a5 a6 a7) (l8 : List Int) (l9 : List Opt) (hf : few l9) (k : Nat) (hk : 310 ≤ k) : lessorref03_Encode.f k a0 a1 a2 a3 a4 a5 a6 a7 l8 l9 = some (encPk a0 a1 a2 a3 a4 a5 a6 a7 l8 l9) := by
  unfold lessorref03_Encode.f encPk
  rw [ref_right_eq _ _ _ _ _ _ _ _ _ _ hf k hk]
  simp only [Option.bind_some]
  by_cases c : okPk a0 a2 a3 l8 l9
  · obtain ⟨hu1, hu4, hu5, hu6, hu7⟩ := hu
    obtain ⟨c0, ⟨c1, c2⟩, ⟨c3, c4⟩, ⟨c5, c6⟩, c7⟩ := id c
    have he := encR_len l9
    have l4 := pk4_len
    have l2 : ∀ a, (pk2 a).length = 2 := fun _ => rfl
    have ez : wrap64 (wrap64 (16 - (l8.length : Int)) + 192) = 208 - (l8.length : Int) := by unfold wrap64; omega
    have ez2 : (208 - (l8.length : Int)).toNat = 208 - l8.length := by omega
    rw [decide_eq_true c, if_pos rfl, if_pos c, num4 k (by omega) a1 hu1.1 hu1.2, num2 k (by omega) a2 c3 c4, num2 k (by omega) a3 c5 c6, num4 k (by omega) a4 hu4.1 hu4.2, num4 k (by omega) a5 hu5.1 hu5.2, num4 k (by omega) a6 hu6.1 hu6.2, num4 k (by omega) a7 hu7.1 hu7.2, ref_encode_eq l9 hf k (by omega), ez, ez2]
    simp only [Option.bind_some, List.length_append, List.length_cons, List.length_nil, List.length_replicate, l4, l2]
    repeat rw [if_pos (by omega)]
    congr 1
  · rw [decide_eq_false c, if_neg (by decide), if_neg c]

end Go.Proofs.Ytmbfdmceameghaa.PP
