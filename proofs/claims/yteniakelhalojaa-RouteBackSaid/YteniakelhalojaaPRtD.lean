/-
  Routes decoded, over numbers and lists: what the reference computes, and that routes are decoded as they were. No condition.
-/
import Derived.Test.YteniakelhalojaaPRouteA
import Derived.Test.YteniakelhalojaaHRDecode
import Derived.Test.YteniakelhalojaaPnF22
import Derived.Test.YteniakelhalojaaPnF16
namespace Go.Proofs.Yteniakelhalojaa.PR
open Go.RowKit Go.Proofs.Yteniakelhalojaa Go.Proofs.Yteniakelhalojaa.Pn Go.Proofs.YteniakelhalojaaW.PrintWords Go.Proofs.YteniakelhalojaaW.PrintLast Go.Proofs.YteniakelhalojaaW.PrintMore
set_option linter.unusedVariables false
set_option linter.unusedSimpArgs false

theorem rtRight_eq (x : Rt) (h : okU x.f0) : rtRight x = decide (okR x) := by
  unfold rtRight
  rw [right_eq x h]
  rfl
def encRR (l : List Rt) : List Int × Int := if ∀ x ∈ l, okR x then (if 255 < (rtEnc l).length then ([], 3) else (rtEnc l, 0)) else ([], 1)
theorem enc_eq (l : List Rt) (hl : l.length ≤ 1000000) (hu : ∀ x ∈ l, okU x.f0 ∧ okU x.f2) : route_Encode.f l = some (encRR l) := by
  unfold route_Encode.f encRR
  rw [if_pos ⟨by omega, fun x hx => hu x hx⟩]
  have e : (∀ x ∈ l, rtRight x = true) ↔ (∀ x ∈ l, okR x) := by
    constructor
    · intro h x hx
      have := h x hx
      rw [rtRight_eq x (hu x hx).1] at this
      exact of_decide_eq_true this
    · intro h x hx
      rw [rtRight_eq x (hu x hx).1]
      exact decide_eq_true (h x hx)
  by_cases c : ∀ x ∈ l, okR x
  · rw [if_pos (e.2 c), if_pos c]
  · rw [if_neg (fun h => c (e.1 h)), if_neg c]
def bytesR (l : List Int) : Prop := ∀ x ∈ l, 0 ≤ x ∧ x ≤ 255
theorem bytesR_get {l : List Int} (h : bytesR l) (j : Nat) : 0 ≤ l.getD j 0 ∧ l.getD j 0 ≤ 255 := by
  rw [List.getD_eq_getElem?_getD]
  cases hj : l[j]? with
  | none => simp
  | some v => exact h v (List.mem_of_getElem? hj)
theorem ofR_in {l : List Int} (h : bytesR l) : okU (ofR l) := by
  have h0 := bytesR_get h 0
  have h1 := bytesR_get h 1
  have h2 := bytesR_get h 2
  have h3 := bytesR_get h 3
  unfold okU ofR
  omega
theorem rd_int (l : List Int) (i : Nat) : rd l (i : Int) = l.getD i 0 := by
  unfold rd
  rw [Int.toNat_natCast]
/-! ### the reference's number of bytes -/
theorem of_step1 (l : List Int) (h : bytesR l) (k : Nat) (x : Int) (i : Nat) (hi : i < 4) (x0 : 0 ≤ x) (x1 : x < 16777216) : lessorref25_of.l0 (k + 1) l x (i : Int) = lessorref25_of.l0 k l (x * 256 + l.getD i 0) ((i + 1 : Nat) : Int) := by
  have hb := bytesR_get h i
  simp only [lessorref25_of.l0]
  rw [if_pos (by omega), wrapR (x := x * 256) (by omega) (by omega), wrapR (x := (i : Int) + 1) (by omega) (by omega)]
  by_cases c : i < l.length
  · rw [if_pos (by omega), if_pos (by omega), rd_int, wrapR (x := l.getD i 0) (by omega) (by omega), wrapR (by omega) (by omega)]
    rfl
  · rw [if_neg (by omega)]
    have : l.getD i 0 = 0 := by rw [List.getD_eq_getElem?_getD, List.getElem?_eq_none (by omega)]; rfl
    rw [this, Int.add_zero]
    rfl
theorem ref_of_eq (l : List Int) (h : bytesR l) (k : Nat) (hk : 5 ≤ k) : lessorref25_of.f k l = some (ofR l) := by
  obtain ⟨k, rfl⟩ : ∃ m, k = m + 5 := ⟨k - 5, by omega⟩
  have h0 := bytesR_get h 0
  have h1 := bytesR_get h (0 + 1)
  have h2 := bytesR_get h (0 + 1 + 1)
  have h3 := bytesR_get h (0 + 1 + 1 + 1)
  unfold lessorref25_of.f
  have s0 := of_step1 l h (k + 4) 0 0 (by decide) (by omega) (by omega)
  have s1 := of_step1 l h (k + 3) (0 * 256 + l.getD 0 0) (0 + 1) (by decide) (by omega) (by omega)
  have s2 := of_step1 l h (k + 2) ((0 * 256 + l.getD 0 0) * 256 + l.getD (0 + 1) 0) (0 + 1 + 1) (by decide) (by omega) (by omega)
  have s3 := of_step1 l h (k + 1) (((0 * 256 + l.getD 0 0) * 256 + l.getD (0 + 1) 0) * 256 + l.getD (0 + 1 + 1) 0) (0 + 1 + 1 + 1) (by decide) (by omega) (by omega)
  have e : lessorref25_of.l0 (k + 5) l 0 0 = lessorref25_of.l0 (k + 4 + 1) l 0 ((0 : Nat) : Int) := rfl
  rw [e, s0, s1, s2, s3]
  simp only [lessorref25_of.l0]
  rw [if_neg (by decide)]
  have e4 : ofR l = ((l.getD 0 0 * 256 + l.getD (0 + 1) 0) * 256 + l.getD (0 + 1 + 1) 0) * 256 + l.getD (0 + 1 + 1 + 1) 0 := rfl
  rw [e4]
  congr 1
  omega
/-! ### the reference's Decode -/
theorem wrapN (x : Int) (n : Nat) (h : x = (n : Int)) (h1 : n < 9223372036854775808) : wrap64 x = (n : Int) := by rw [h]; exact wrapR (by omega) (by omega)
theorem wraps5 (i on : Nat) (hi : i ≤ 1000) (ho : on ≤ 4) : wrap64 ((i : Int) + 1) = ((i + 1 : Nat) : Int) ∧ wrap64 (((i + 1 : Nat) : Int) + (on : Int)) = ((i + 1 + on : Nat) : Int) ∧ wrap64 ((i : Int) + 5) = ((i + 5 : Nat) : Int) ∧ wrap64 (((i + 5 : Nat) : Int) + (on : Int)) = ((i + 5 + on : Nat) : Int) ∧ wrap64 (((i + 1 + on : Nat) : Int) + 4) = ((i + 5 + on : Nat) : Int) :=
  ⟨wrapN _ _ (by omega) (by omega), wrapN _ _ (by omega) (by omega), wrapN _ _ (by omega) (by omega), wrapN _ _ (by omega) (by omega), wrapN _ _ (by omega) (by omega)⟩
def rdAns (o : Option (List Rt)) : List Rt × Int := match o with | some m => (m, 0) | none => ([], 2)
theorem rtOct_le {x : Int} (h0 : 0 ≤ x) (h1 : x ≤ 32) : rtOct x ≤ 4 := by unfold rtOct; omega
theorem oct_wrap {x : Int} (h0 : 0 ≤ x) (h1 : x ≤ 255) : wrap64 (Int.tdiv (wrap64 ((wrap64 x) + 7)) 8) = (rtOct x : Int) := by
  rw [wrapR (x := x) (by omega) (by omega), wrapR (x := x + 7) (by omega) (by omega), Int.tdiv_eq_ediv_of_nonneg (by omega), wrapR (by omega) (by omega)]
  unfold rtOct
  omega
theorem ref_dec_loop (b : List Int) (hb : bytesR b) (hl : b.length ≤ 1000) : ∀ (d i k : Nat) (out : List Rt), b.length ≤ i + d → i ≤ b.length → 2 * d + 60 ≤ k → out.length ≤ i → lessorref25_Decode.l0 k b out (i : Int) = some (rdAns (rdGo (b.drop i) out)) := by
  intro d
  induction d using Nat.strongRecOn with
  | _ d ih =>
    intro i k out h1 h2 hk ho
    obtain ⟨k, rfl⟩ : ∃ m, k = m + 1 + 1 := ⟨k - 2, by omega⟩
    by_cases h : i < b.length
    · have hd : b.drop i = b[i] :: b.drop (i + 1) := List.drop_eq_getElem_cons h
      obtain ⟨x, hx⟩ : ∃ x, b[i] = x := ⟨_, rfl⟩
      obtain ⟨r, hr⟩ : ∃ r, b.drop (i + 1) = r := ⟨_, rfl⟩
      rw [hx, hr] at hd
      have hxb : 0 ≤ x ∧ x ≤ 255 := hb x (hx ▸ List.getElem_mem h)
      have hrl : r.length = b.length - (i + 1) := by rw [← hr, List.length_drop]
      have hrd : rd b (i : Int) = x := by rw [rd_int, List.getD_eq_getElem?_getD, List.getElem?_eq_getElem h, hx]; rfl
      simp only [lessorref25_Decode.l0]
      have HRD := Lib.hid hrd
      clear hrd
      rw [if_pos (by omega), if_pos (by omega), HRD.out, oct_wrap hxb.1 hxb.2, hd]
      by_cases c : x > 32
      · rw [if_pos c]
        simp only [lessorref25_Decode.j1, if_true]
        rw [rdGo_short (Or.inl c)]
        rfl
      · have hoct := rtOct_le hxb.1 (by omega)
        obtain ⟨on, hon⟩ : ∃ on, rtOct x = on := ⟨_, rfl⟩
        rw [hon] at hoct
        obtain ⟨w1, w2, w3, w4, w5⟩ := wraps5 i on (by omega) hoct
        rw [if_neg c, hon]
        simp only [lessorref25_Decode.j1, w1, w2, w3, w4, w5]
        clear w1 w2 w3 w4 w5
        by_cases c2 : b.length < i + 5 + on
        · rw [decide_eq_true (by omega), if_pos rfl, rdGo_short (Or.inr (by rw [hon]; omega))]
          rfl
        · have hgood : ¬ (32 < x ∨ r.length < rtOct x + 4) := by rw [hon]; omega
          rw [decide_eq_false (by omega), if_neg (by decide), if_pos (by omega), if_pos (by omega), if_pos (by omega)]
          simp only [Int.toNat_natCast]
          have e1 : (b.take (i + 1 + on)).drop (i + 1) = r.take on := by rw [List.drop_take, hr, show i + 1 + on - (i + 1) = on from by omega]
          have e2 : (b.take (i + 5 + on)).drop (i + 1 + on) = (r.drop on).take 4 := by rw [List.drop_take, ← hr, List.drop_drop, show i + 5 + on - (i + 1 + on) = 4 from by omega]
          have hbr : bytesR r := fun y hy => hb y (List.mem_of_mem_drop (hr ▸ hy))
          have hb1 : bytesR (r.take on) := fun y hy => hbr y (List.mem_of_mem_take hy)
          have hb2 : bytesR ((r.drop on).take 4) := fun y hy => hbr y (List.mem_of_mem_drop (List.mem_of_mem_take hy))
          rw [e1, e2, ref_of_eq _ hb1 k (by omega)]
          simp only [Option.bind_some]
          rw [if_pos (by omega), if_pos (by omega), if_pos (by omega), if_pos (by omega), if_pos (by omega), ref_of_eq _ hb2 k (by omega)]
          simp only [Option.bind_some]
          rw [HRD.out, wrapR (x := x) (by omega) (by omega)]
          have hX : (⟨ofR (r.take on), x, ofR ((r.drop on).take 4)⟩ : Rt) = rtRd x r := by unfold rtRd; rw [hon]
          have hR := ref_right_eq ⟨ofR (r.take on), x, ofR ((r.drop on).take 4)⟩ (ofR_in hb1) k (by omega)
          dsimp only at hR
          rw [hR]
          simp only [Option.bind_some]
          rw [hX]
          have hE := rtRight_eq (rtRd x r) (by rw [← hX]; exact ofR_in hb1)
          by_cases c3 : okR (rtRd x r)
          · rw [decide_eq_true c3, if_pos rfl, if_pos (by omega), ih (d - 5 - on) (by omega) (i + 5 + on) k (out ++ [rtRd x r]) (by omega) (by omega) (by omega) (by rw [List.length_append, List.length_singleton]; omega)]
            rw [rdGo_step hgood (by rw [hE]; exact decide_eq_true c3), ← hr, List.drop_drop, hon, show i + 1 + (on + 4) = i + 5 + on from by omega]
          · rw [decide_eq_false c3, if_neg (by decide), rdGo_wrong hgood (by rw [hE]; exact decide_eq_false c3)]
            rfl
    · obtain rfl : i = b.length := by omega
      simp only [lessorref25_Decode.l0]
      rw [if_neg (by omega), List.drop_length, rdGo_nil]
      rfl
theorem ref_dec_eq (b : List Int) (hb : bytesR b) (hl : b.length ≤ 1000) (k : Nat) (hk : 2 * b.length + 70 ≤ k) : lessorref25_Decode.f k b = some (rdR b) := by
  unfold lessorref25_Decode.f rdR
  by_cases c : 255 < b.length
  · rw [if_pos (by omega), if_pos c]
  · rw [if_neg (by omega), if_neg c]
    have := ref_dec_loop b hb hl b.length 0 k [] (by omega) (by omega) (by omega) (by simp)
    rw [List.drop_zero] at this
    refine this.trans ?_
    unfold rdAns
    rfl
theorem dec_eq (b : List Int) (hb : bytesR b) (hl : b.length ≤ 1000000) : route_Decode.f b = some (rdR b) := by
  unfold route_Decode.f
  rw [if_pos ⟨hb, by omega⟩]
/-! ### the same of equals -/
theorem same_loop (l : List Rt) : ∀ (d i k : Nat), l.length ≤ i + d → i ≤ l.length → l.length ≤ 1000000 → d < k → lessorref25_Same.l0 k l l (i : Int) = some true := by
  intro d
  induction d with
  | zero =>
    intro i k h1 h2 h3 hk
    obtain ⟨k, rfl⟩ : ∃ m, k = m + 1 := ⟨k - 1, by omega⟩
    simp only [lessorref25_Same.l0]
    rw [if_neg (by omega)]
  | succ d ih =>
    intro i k h1 h2 h3 hk
    obtain ⟨k, rfl⟩ : ∃ m, k = m + 1 := ⟨k - 1, by omega⟩
    simp only [lessorref25_Same.l0]
    by_cases h : i < l.length
    · rw [if_pos (by omega), if_pos (by omega), if_pos (by omega), if_neg (by simp), wrapR (by omega) (by omega)]
      exact ih (i + 1) k (by omega) (by omega) h3 (by omega)
    · rw [if_neg (by omega)]
theorem same_refl (l : List Rt) (hl : l.length ≤ 1000000) (k : Nat) (hk : l.length < k) : lessorref25_Same.f k l l = some true := by
  unfold lessorref25_Same.f
  rw [if_pos rfl]
  exact same_loop l l.length 0 k (by omega) (by omega) hl (by omega)
end Go.Proofs.Yteniakelhalojaa.PR
