/-
  Options as bytes, over lists: what option.Encode and the reference's Encode compute of few options.
-/
import Derived.Test.YtmbfdmceameghaaPrF23
import Derived.Test.YtmbfdmceameghaaPrF25
import Derived.Test.YtmbfdmceameghaaPrF20
namespace Go.Proofs.Ytmbfdmceameghaa.PO
open Go.RowKit Go.Proofs.Ytmbfdmceameghaa Go.Proofs.Ytmbfdmceameghaa.Pr Go.Proofs.YtmbfdmceameghaaW.PrintWords Go.Proofs.YtmbfdmceameghaaW.PrintLast Go.Proofs.YtmbfdmceameghaaW.PrintMore
set_option linter.unusedVariables false
set_option linter.unusedSimpArgs false

abbrev Opt := S42
theorem wrapO {x : Int} (h0 : 0 ≤ x) (h1 : x < 9223372036854775808) : wrap64 x = x := by unfold wrap64; omega
theorem rd_at (l : List Opt) {i : Nat} (h : i < l.length) : rd_T42 l (i : Int) = l[i] := by
  unfold rd_T42
  rw [Int.toNat_natCast, List.getD_eq_getElem?_getD, List.getElem?_eq_getElem h]
  rfl

def okOpt (x : Opt) : Prop := 1 ≤ x.f0 ∧ x.f0 ≤ 254 ∧ x.f1.length ≤ 255
instance (x : Opt) : Decidable (okOpt x) := by unfold okOpt; infer_instance
def enc1 (x : Opt) : List Int := [x.f0 % 256, (x.f1.length : Int) % 256] ++ x.f1
def enc (l : List Opt) : List Int := (l.map enc1).flatten
def encR (l : List Opt) : List Int × Int := if ∀ x ∈ l, okOpt x then (if 1024 ≤ (enc l).length then ([], 3) else (enc l ++ [255], 0)) else ([], 1)
def few (l : List Opt) : Prop := l.length ≤ 100 ∧ ∀ x ∈ l, x.f1.length ≤ 1000
theorem enc_append (l m : List Opt) : enc (l ++ m) = enc l ++ enc m := by simp [enc]
theorem enc_one (x : Opt) : enc [x] = enc1 x := by simp [enc]
theorem enc1_len (x : Opt) : (enc1 x).length = x.f1.length + 2 := by simp [enc1]
theorem enc_len_le : ∀ (l : List Opt), (∀ x ∈ l, x.f1.length ≤ 1000) → (enc l).length ≤ l.length * 1002 := by
  intro l
  induction l with
  | nil => intro _; simp [enc]
  | cons x l ih =>
    intro h
    have h1 := ih (fun y hy => h y (by simp [hy]))
    have h2 := h x (by simp)
    have e : enc (x :: l) = enc1 x ++ enc l := by simp [enc]
    rw [e, List.length_append, enc1_len, List.length_cons]
    omega
theorem enc_take_le (l : List Opt) (i : Nat) : (enc (l.take i)).length ≤ (enc l).length := by
  have : enc l = enc (l.take i) ++ enc (l.drop i) := by rw [← enc_append, List.take_append_drop]
  rw [this, List.length_append]; omega

/-! ### option.Encode -/
theorem odd_eq (x : Opt) : option_Encode_1.f x.f0 x.f1 = some (!decide (okOpt x)) := by
  unfold option_Encode_1.f
  by_cases ok : okOpt x
  · rw [decide_eq_true ok]
    unfold okOpt at ok
    rw [if_neg (by omega), if_neg (by omega), decide_eq_false (by omega)]
    rfl
  · rw [decide_eq_false ok]
    unfold okOpt at ok
    split
    · rfl
    · split
      · rfl
      · rw [decide_eq_true (by omega)]
        rfl
theorem index_spec (l : List Opt) (hl : l.length ≤ 1000000) : ∀ (d i k : Nat), l.length ≤ i + d → i ≤ l.length → d < k →
    ∃ r : Int, slices_IndexFunc.l0 k l (l.length : Int) (i : Int) = some r ∧ ((0 ≤ r ∧ ∃ x ∈ l.drop i, ¬ okOpt x) ∨ (r < 0 ∧ ∀ x ∈ l.drop i, okOpt x)) := by
  intro d
  induction d with
  | zero =>
    intro i k h1 h2 hk
    obtain ⟨k, rfl⟩ : ∃ m, k = m + 1 := ⟨k - 1, by omega⟩
    refine ⟨-1, ?_, .inr ⟨by omega, ?_⟩⟩
    · simp only [slices_IndexFunc.l0]; rw [if_neg (by omega)]
    · rw [List.drop_of_length_le (by omega)]; simp
  | succ d ih =>
    intro i k h1 h2 hk
    obtain ⟨k, rfl⟩ : ∃ m, k = m + 1 := ⟨k - 1, by omega⟩
    by_cases h : i < l.length
    · simp only [slices_IndexFunc.l0]
      rw [if_pos (by omega), if_pos (by omega), if_pos (by omega), rd_at l h, odd_eq]
      simp only [Option.bind_some]
      rw [List.drop_eq_getElem_cons h]
      by_cases ok : okOpt l[i]
      · rw [decide_eq_true ok, wrapO (by omega) (by omega)]
        obtain ⟨r, hr, hs⟩ := ih (i + 1) k (by omega) (by omega) (by omega)
        refine ⟨r, by simpa using (show slices_IndexFunc.l0 k l (l.length : Int) ((i : Int) + 1) = some r from hr), ?_⟩
        rcases hs with ⟨a, x, hx, b⟩ | ⟨a, b⟩
        · exact .inl ⟨a, x, List.mem_cons_of_mem _ hx, b⟩
        · exact .inr ⟨a, fun x hx => by
            rcases List.mem_cons.1 hx with rfl | hx
            · exact ok
            · exact b x hx⟩
      · rw [decide_eq_false ok]
        exact ⟨i, by simp, .inl ⟨by omega, l[i], List.mem_cons_self, ok⟩⟩
    · refine ⟨-1, ?_, .inr ⟨by omega, ?_⟩⟩
      · simp only [slices_IndexFunc.l0]; rw [if_neg (by omega)]
      · rw [List.drop_of_length_le (by omega)]; simp
theorem contains_eq (l : List Opt) (hl : l.length ≤ 1000000) (a : Int) (k : Nat) (hk : l.length < k) : slices_ContainsFunc.f k l a = some (!decide (∀ x ∈ l, okOpt x)) := by
  obtain ⟨r, hr, hs⟩ := index_spec l hl l.length 0 k (by omega) (by omega) hk
  unfold slices_ContainsFunc.f slices_IndexFunc.f
  rw [show ((0 : Nat) : Int) = 0 from rfl] at hr
  rw [hr]
  simp only [Option.bind_some]
  rw [List.drop_zero] at hs
  rcases hs with ⟨h1, x, hx, h2⟩ | ⟨h1, h2⟩
  · rw [decide_eq_true (by omega), decide_eq_false (fun h => h2 (h x hx))]; rfl
  · rw [decide_eq_false (by omega), decide_eq_true h2]; rfl
theorem encode_loop (l : List Opt) (hf : few l) : ∀ (d i k : Nat), l.length ≤ i + d → i ≤ l.length → d < k →
    option_Encode.l0 k (enc (l.take i)) l (l.length : Int) (i : Int) = some (if 1024 ≤ (enc l).length then ([], 3) else (enc l ++ [255], 0)) := by
  obtain ⟨hn, hx⟩ := hf
  have hel := enc_len_le l hx
  have hel' : (enc l).length ≤ 100200 := by omega
  intro d
  induction d with
  | zero =>
    intro i k h1 h2 hk
    obtain ⟨k, rfl⟩ : ∃ m, k = m + 1 := ⟨k - 1, by omega⟩
    simp only [option_Encode.l0]
    rw [if_neg (by omega), List.take_of_length_le (by omega), if_pos (by omega)]
    simp only [Option.bind_some]
    by_cases c : 1024 ≤ (enc l).length
    · rw [if_pos (by simp; omega), if_pos c]
    · rw [if_neg (by simp; omega), if_neg c]
  | succ d ih =>
    intro i k h1 h2 hk
    obtain ⟨k, rfl⟩ : ∃ m, k = m + 1 := ⟨k - 1, by omega⟩
    by_cases h : i < l.length
    · simp only [option_Encode.l0]
      have ht := enc_take_le l i
      have ht1 := enc_take_le l (i + 1)
      have hx1 := hx l[i] (List.getElem_mem h)
      rw [if_pos (by omega), if_pos (by omega), if_pos (by omega), rd_at l h]
      simp only [Option.bind_some]
      rw [if_pos (by simp; omega), if_pos (by simp; omega), wrapO (by omega) (by omega)]
      have e : enc (l.take i) ++ [l[i].f0 % 256, (l[i].f1.length : Int) % 256] ++ l[i].f1 = enc (l.take (i + 1)) := by
        rw [List.take_succ_eq_append_getElem h, enc_append, enc_one, enc1, List.append_assoc]
      rw [e]
      exact ih (i + 1) k (by omega) (by omega) (by omega)
    · obtain rfl : i = l.length := by omega
      simp only [option_Encode.l0]
      rw [if_neg (by omega), List.take_of_length_le (by omega), if_pos (by omega)]
      simp only [Option.bind_some]
      by_cases c : 1024 ≤ (enc l).length
      · rw [if_pos (by simp; omega), if_pos c]
      · rw [if_neg (by simp; omega), if_neg c]
theorem encode_eq (l : List Opt) (hf : few l) (k : Nat) (hk : 101 ≤ k) : option_Encode.f k l = some (encR l) := by
  have hn := hf.1
  unfold option_Encode.f encR
  rw [contains_eq l (by omega) _ k (by omega)]
  simp only [Option.bind_some]
  by_cases ok : ∀ x ∈ l, okOpt x
  · rw [decide_eq_true ok, if_neg (by decide), if_pos ok]
    exact encode_loop l hf l.length 0 k (by omega) (by omega) (by omega)
  · rw [decide_eq_false ok, if_pos (by decide), if_neg ok]

/-! ### the reference's -/
theorem ref_encode1 (l : List Opt) (hf : few l) : ∀ (d i k : Nat), l.length ≤ i + d → i ≤ l.length → d < k → ((enc (l.take i)).length < 1024) →
    lessorref02_Encode.l1 k l (enc (l.take i)) (i : Int) = some (if 1024 ≤ (enc l).length then ([], 3) else (enc l ++ [255], 0)) := by
  obtain ⟨hn, hx⟩ := hf
  intro d
  induction d with
  | zero =>
    intro i k h1 h2 hk hs
    obtain ⟨k, rfl⟩ : ∃ m, k = m + 1 := ⟨k - 1, by omega⟩
    rw [List.take_of_length_le (by omega)] at hs ⊢
    simp only [lessorref02_Encode.l1]
    rw [if_neg (by omega), if_pos (by omega), if_neg (by omega)]
  | succ d ih =>
    intro i k h1 h2 hk hs
    obtain ⟨k, rfl⟩ : ∃ m, k = m + 1 := ⟨k - 1, by omega⟩
    by_cases h : i < l.length
    · simp only [lessorref02_Encode.l1]
      have ht1 := enc_take_le l (i + 1)
      have hx1 := hx l[i] (List.getElem_mem h)
      rw [if_pos (by omega), if_pos (by omega), rd_at l h]
      simp only [Option.bind_some]
      rw [if_pos (by simp; omega), if_pos (by simp; omega)]
      have e : enc (l.take i) ++ [l[i].f0 % 256, (l[i].f1.length : Int) % 256] ++ l[i].f1 = enc (l.take (i + 1)) := by
        rw [List.take_succ_eq_append_getElem h, enc_append, enc_one, enc1, List.append_assoc]
      rw [e]
      by_cases c : 1024 ≤ (enc (l.take (i + 1))).length
      · rw [if_pos (by omega), if_pos (by omega)]
      · rw [if_neg (by omega), wrapO (by omega) (by omega)]
        exact ih (i + 1) k (by omega) (by omega) (by omega) (by omega)
    · obtain rfl : i = l.length := by omega
      rw [List.take_of_length_le (by omega)] at hs ⊢
      simp only [lessorref02_Encode.l1]
      rw [if_neg (by omega), if_pos (by omega), if_neg (by omega)]
theorem ref_encode0 (l : List Opt) (hf : few l) : ∀ (d i k : Nat), l.length ≤ i + d → i ≤ l.length → d + 101 < k → (∀ x ∈ l.take i, okOpt x) →
    lessorref02_Encode.l0 k l (i : Int) = some (encR l) := by
  have hn := hf.1
  have fin : ∀ k, 101 < k → (∀ x ∈ l, okOpt x) → lessorref02_Encode.l0 k l (l.length : Int) = some (encR l) := by
    intro k hk ok
    obtain ⟨k, rfl⟩ : ∃ m, k = m + 1 := ⟨k - 1, by omega⟩
    simp only [lessorref02_Encode.l0]
    rw [if_neg (by omega)]
    unfold encR
    rw [if_pos ok]
    exact ref_encode1 l hf l.length 0 k (by omega) (by omega) (by omega) (by simp [enc])
  intro d
  induction d with
  | zero =>
    intro i k h1 h2 hk ho
    obtain rfl : i = l.length := by omega
    rw [List.take_length] at ho
    exact fin k (by omega) ho
  | succ d ih =>
    intro i k h1 h2 hk ho
    by_cases h : i < l.length
    · obtain ⟨k, rfl⟩ : ∃ m, k = m + 1 := ⟨k - 1, by omega⟩
      simp only [lessorref02_Encode.l0]
      rw [if_pos (by omega), if_pos (by omega), rd_at l h]
      have bad : ¬ okOpt l[i] → encR l = ([], 1) := fun hb => by unfold encR; rw [if_neg (fun h' => hb (h' _ (List.getElem_mem h)))]
      by_cases c1 : l[i].f0 < 1
      · rw [if_pos c1, bad (by unfold okOpt; omega)]
      · rw [if_neg c1]
        by_cases c2 : l[i].f0 > 254
        · rw [if_pos c2, bad (by unfold okOpt; omega)]
        · rw [if_neg c2]
          by_cases c3 : (l[i].f1.length : Int) > 255
          · rw [if_pos c3, bad (by unfold okOpt; omega)]
          · rw [if_neg c3, wrapO (by omega) (by omega)]
            refine ih (i + 1) k (by omega) (by omega) (by omega) ?_
            rw [List.take_succ_eq_append_getElem h]
            intro x hx
            rcases List.mem_append.1 hx with hx | hx
            · exact ho x hx
            · rw [List.mem_singleton.1 hx]; exact ⟨by omega, by omega, by omega⟩
    · obtain rfl : i = l.length := by omega
      rw [List.take_length] at ho
      exact fin k (by omega) ho
theorem ref_encode_eq (l : List Opt) (hf : few l) (k : Nat) (hk : 210 ≤ k) : lessorref02_Encode.f k l = some (encR l) := by
  have hn := hf.1
  unfold lessorref02_Encode.f
  exact ref_encode0 l hf l.length 0 k (by omega) (by omega) (by omega) (by simp)

/-! ### few -/
theorem few_loop (l : List Opt) (hl : l.length ≤ 100) : ∀ (d i k : Nat), l.length ≤ i + d → i ≤ l.length → d < k →
    lessorref02_Few.l0 k l (i : Int) = some (decide (∀ x ∈ l.drop i, x.f1.length ≤ 1000)) := by
  intro d
  induction d with
  | zero =>
    intro i k h1 h2 hk
    obtain ⟨k, rfl⟩ : ∃ m, k = m + 1 := ⟨k - 1, by omega⟩
    simp only [lessorref02_Few.l0]
    rw [if_neg (by omega), List.drop_of_length_le (by omega)]
    simp
  | succ d ih =>
    intro i k h1 h2 hk
    obtain ⟨k, rfl⟩ : ∃ m, k = m + 1 := ⟨k - 1, by omega⟩
    by_cases h : i < l.length
    · simp only [lessorref02_Few.l0]
      rw [if_pos (by omega), if_pos (by omega), rd_at l h, List.drop_eq_getElem_cons h]
      by_cases c : (l[i].f1.length : Int) > 1000
      · rw [if_pos c, decide_eq_false (fun hh => by have := hh l[i] List.mem_cons_self; omega)]
      · rw [if_neg c, wrapO (by omega) (by omega)]
        have := ih (i + 1) k (by omega) (by omega) (by omega)
        rw [show ((i : Int) + 1) = ((i + 1 : Nat) : Int) from rfl, this]
        congr 1
        rw [decide_eq_decide]
        constructor
        · intro hh x hx
          rcases List.mem_cons.1 hx with rfl | hx
          · omega
          · exact hh x hx
        · intro hh x hx; exact hh x (List.mem_cons_of_mem _ hx)
    · simp only [lessorref02_Few.l0]
      rw [if_neg (by omega), List.drop_of_length_le (by omega)]
      simp
theorem few_eq (l : List Opt) (k : Nat) (hk : 101 ≤ k) : ∃ b : Bool, lessorref02_Few.f k l = some b ∧ (b = true ↔ few l) := by
  unfold lessorref02_Few.f few
  by_cases c : (l.length : Int) > 100
  · rw [if_pos c]; exact ⟨false, rfl, by simp; omega⟩
  · rw [if_neg c]
    have := few_loop l (by omega) l.length 0 k (by omega) (by omega) (by omega)
    rw [show ((0 : Nat) : Int) = 0 from rfl, List.drop_zero] at this
    refine ⟨_, this, ?_⟩
    rw [decide_eq_true_iff]
    exact ⟨fun h => ⟨by omega, h⟩, fun h => h.2⟩

end Go.Proofs.Ytmbfdmceameghaa.PO
