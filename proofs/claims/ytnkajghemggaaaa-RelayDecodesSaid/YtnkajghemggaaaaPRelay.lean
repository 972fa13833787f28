/-
  Tags as bytes, over lists: what relay.Encode, relay.Decode and the reference's compute. No condition of their own.
-/
import Derived.Test.YtnkajghemggaaaaPrF13
import Derived.Test.YtnkajghemggaaaaPrF14
import Derived.Test.YtnkajghemggaaaaPrF16
import Derived.Test.YtnkajghemggaaaaPrF17
import Derived.Test.YtnkajghemggaaaaHDecode
import Derived.Test.YtnkajghemggaaaaPrF12
namespace Go.Proofs.Ytnkajghemggaaaa.PL
open Go.RowKit Go.Proofs.Ytnkajghemggaaaa Go.Proofs.Ytnkajghemggaaaa.Pr Go.Proofs.YtnkajghemggaaaaW.PrintWords Go.Proofs.YtnkajghemggaaaaW.PrintLast Go.Proofs.YtnkajghemggaaaaW.PrintMore
set_option linter.unusedVariables false
set_option linter.unusedSimpArgs false

abbrev Opt := S48
theorem wrapO {x : Int} (h0 : 0 ≤ x) (h1 : x < 9223372036854775808) : wrap64 x = x := by unfold wrap64; omega
theorem rd_at (l : List Opt) {i : Nat} (h : i < l.length) : rd_T48 l (i : Int) = l[i] := by
  unfold rd_T48
  rw [Int.toNat_natCast, List.getD_eq_getElem?_getD, List.getElem?_eq_getElem h]
  rfl

def okOpt (x : Opt) : Prop := 1 ≤ x.f0 ∧ x.f0 ≤ 255 ∧ x.f1.length ≤ 253
instance (x : Opt) : Decidable (okOpt x) := by unfold okOpt; infer_instance
def enc1 (x : Opt) : List Int := [x.f0 % 256, (x.f1.length : Int) % 256] ++ x.f1
def enc (l : List Opt) : List Int := (l.map enc1).flatten
def encR (l : List Opt) : List Int × Int := if l ≠ [] ∧ ∀ x ∈ l, okOpt x then (if 255 < (enc l).length then ([], 3) else (enc l, 0)) else ([], 1)
def fewR (l : List Opt) : Prop := l.length ≤ 1000 ∧ ∀ x ∈ l, x.f1.length ≤ 1000
def few (l : List Opt) : Prop := l.length ≤ 100 ∧ ∀ x ∈ l, x.f1.length ≤ 1000
theorem enc_append (l m : List Opt) : enc (l ++ m) = enc l ++ enc m := by simp [enc]
theorem enc_one (x : Opt) : enc [x] = enc1 x := by simp [enc]
theorem enc1_len (x : Opt) : (enc1 x).length = x.f1.length + 2 := by simp [enc1]
theorem enc_len_le : ∀ (l : List Opt), (∀ x ∈ l, x.f1.length ≤ 1000) → (enc l).length ≤ l.length * 1002 := by
  intro l
  induction l with
  | nil => intro _; simp [enc]
  | cons x l ih =>
    intro h
    have h1 := ih (fun y hy => h y (by simp [hy]))
    have h2 := h x (by simp)
    have e : enc (x :: l) = enc1 x ++ enc l := by simp [enc]
    rw [e, List.length_append, enc1_len, List.length_cons]
    omega
theorem enc_take_le (l : List Opt) (i : Nat) : (enc (l.take i)).length ≤ (enc l).length := by
  have : enc l = enc (l.take i) ++ enc (l.drop i) := by rw [← enc_append, List.take_append_drop]
  rw [this, List.length_append]; omega

/-! ### option.Encode -/
theorem odd_eq (x : Opt) : relay_Encode_1.f x.f0 x.f1 = some (!decide (okOpt x)) := by
  unfold relay_Encode_1.f
  by_cases ok : okOpt x
  · rw [decide_eq_true ok]
    unfold okOpt at ok
    rw [if_neg (by omega), if_neg (by omega), decide_eq_false (by omega)]
    rfl
  · rw [decide_eq_false ok]
    unfold okOpt at ok
    split
    · rfl
    · split
      · rfl
      · rw [decide_eq_true (by omega)]
        rfl
theorem index_spec (l : List Opt) (hl : l.length ≤ 1000000) : ∀ (d i k : Nat), l.length ≤ i + d → i ≤ l.length → d < k →
    ∃ r : Int, slices_IndexFunc.l0 k l (l.length : Int) (i : Int) = some r ∧ ((0 ≤ r ∧ ∃ x ∈ l.drop i, ¬ okOpt x) ∨ (r < 0 ∧ ∀ x ∈ l.drop i, okOpt x)) := by
  intro d
  induction d with
  | zero =>
    intro i k h1 h2 hk
    obtain ⟨k, rfl⟩ : ∃ m, k = m + 1 := ⟨k - 1, by omega⟩
    refine ⟨-1, ?_, .inr ⟨by omega, ?_⟩⟩
    · simp only [slices_IndexFunc.l0]; rw [if_neg (by omega)]
    · rw [List.drop_of_length_le (by omega)]; simp
  | succ d ih =>
    intro i k h1 h2 hk
    obtain ⟨k, rfl⟩ : ∃ m, k = m + 1 := ⟨k - 1, by omega⟩
    by_cases h : i < l.length
    · simp only [slices_IndexFunc.l0]
      rw [if_pos (by omega), if_pos (by omega), if_pos (by omega), rd_at l h, odd_eq]
      simp only [Option.bind_some]
      rw [List.drop_eq_getElem_cons h]
      by_cases ok : okOpt l[i]
      · rw [decide_eq_true ok, wrapO (by omega) (by omega)]
        obtain ⟨r, hr, hs⟩ := ih (i + 1) k (by omega) (by omega) (by omega)
        refine ⟨r, by simpa using (show slices_IndexFunc.l0 k l (l.length : Int) ((i : Int) + 1) = some r from hr), ?_⟩
        rcases hs with ⟨a, x, hx, b⟩ | ⟨a, b⟩
        · exact .inl ⟨a, x, List.mem_cons_of_mem _ hx, b⟩
        · exact .inr ⟨a, fun x hx => by
            rcases List.mem_cons.1 hx with rfl | hx
            · exact ok
            · exact b x hx⟩
      · rw [decide_eq_false ok]
        exact ⟨i, by simp, .inl ⟨by omega, l[i], List.mem_cons_self, ok⟩⟩
    · refine ⟨-1, ?_, .inr ⟨by omega, ?_⟩⟩
      · simp only [slices_IndexFunc.l0]; rw [if_neg (by omega)]
      · rw [List.drop_of_length_le (by omega)]; simp
theorem contains_eq (l : List Opt) (hl : l.length ≤ 1000000) (a : Int) (k : Nat) (hk : l.length < k) : slices_ContainsFunc.f k l a = some (!decide (∀ x ∈ l, okOpt x)) := by
  obtain ⟨r, hr, hs⟩ := index_spec l hl l.length 0 k (by omega) (by omega) hk
  unfold slices_ContainsFunc.f slices_IndexFunc.f
  rw [show ((0 : Nat) : Int) = 0 from rfl] at hr
  rw [hr]
  simp only [Option.bind_some]
  rw [List.drop_zero] at hs
  rcases hs with ⟨h1, x, hx, h2⟩ | ⟨h1, h2⟩
  · rw [decide_eq_true (by omega), decide_eq_false (fun h => h2 (h x hx))]; rfl
  · rw [decide_eq_false (by omega), decide_eq_true h2]; rfl
theorem encode_loop (l : List Opt) (hf : fewR l) : ∀ (d i k : Nat), l.length ≤ i + d → i ≤ l.length → d < k →
    relay_Encode.l0 k (enc (l.take i)) l (l.length : Int) (i : Int) = some (if 255 < (enc l).length then ([], 3) else (enc l, 0)) := by
  obtain ⟨hn, hx⟩ := hf
  have hel := enc_len_le l hx
  have hel' : (enc l).length ≤ 1002000 := by omega
  have fin : ∀ k, relay_Encode.l0 (k + 1) (enc l) l (l.length : Int) (l.length : Int) = some (if 255 < (enc l).length then ([], 3) else (enc l, 0)) := by
    intro k
    simp only [relay_Encode.l0]
    rw [if_neg (by omega)]
    by_cases c : 255 < (enc l).length
    · rw [if_pos (by omega), if_pos c]
    · rw [if_neg (by omega), if_neg c]
  intro d
  induction d with
  | zero =>
    intro i k h1 h2 hk
    obtain ⟨k, rfl⟩ : ∃ m, k = m + 1 := ⟨k - 1, by omega⟩
    obtain rfl : i = l.length := by omega
    rw [List.take_length]
    exact fin k
  | succ d ih =>
    intro i k h1 h2 hk
    obtain ⟨k, rfl⟩ : ∃ m, k = m + 1 := ⟨k - 1, by omega⟩
    by_cases h : i < l.length
    · simp only [relay_Encode.l0]
      have ht := enc_take_le l i
      have ht1 := enc_take_le l (i + 1)
      have hx1 := hx l[i] (List.getElem_mem h)
      rw [if_pos (by omega), if_pos (by omega), if_pos (by omega), rd_at l h]
      simp only [Option.bind_some]
      rw [if_pos (by simp; omega), if_pos (by simp; omega), wrapO (by omega) (by omega)]
      have e : enc (l.take i) ++ [l[i].f0 % 256, (l[i].f1.length : Int) % 256] ++ l[i].f1 = enc (l.take (i + 1)) := by
        rw [List.take_succ_eq_append_getElem h, enc_append, enc_one, enc1, List.append_assoc]
      rw [e]
      exact ih (i + 1) k (by omega) (by omega) (by omega)
    · obtain rfl : i = l.length := by omega
      rw [List.take_length]
      exact fin k
theorem encode_eq (l : List Opt) (hf : fewR l) (k : Nat) (hk : 1002 ≤ k) : relay_Encode.f k l = some (encR l) := by
  have hn := hf.1
  obtain ⟨k, rfl⟩ : ∃ m, k = m + 1 := ⟨k - 1, by omega⟩
  unfold relay_Encode.f encR
  by_cases e : l = []
  · subst e
    simp [relay_Encode.j0]
  · have hl : l.length ≠ 0 := fun h => e (List.eq_nil_of_length_eq_zero h)
    rw [if_neg (by omega), contains_eq l (by omega) _ (k + 1) (by omega)]
    simp only [Option.bind_some, relay_Encode.j0]
    by_cases ok : ∀ x ∈ l, okOpt x
    · rw [decide_eq_true ok, if_neg (by decide), if_pos ⟨e, ok⟩]
      exact encode_loop l hf l.length 0 k (by omega) (by omega) (by omega)
    · rw [decide_eq_false ok, if_pos (by decide), if_neg (fun h => ok h.2)]

/-! ### the reference's -/
theorem ref_encode1 (l : List Opt) (hf : fewR l) : ∀ (d i k : Nat), l.length ≤ i + d → i ≤ l.length → d < k → ((enc (l.take i)).length ≤ 255) →
    lessorref26_Encode.l1 k l (enc (l.take i)) (i : Int) = some (if 255 < (enc l).length then ([], 3) else (enc l, 0)) := by
  obtain ⟨hn, hx⟩ := hf
  intro d
  induction d with
  | zero =>
    intro i k h1 h2 hk hs
    obtain ⟨k, rfl⟩ : ∃ m, k = m + 1 := ⟨k - 1, by omega⟩
    rw [List.take_of_length_le (by omega)] at hs ⊢
    simp only [lessorref26_Encode.l1]
    rw [if_neg (by omega), if_neg (by omega)]
  | succ d ih =>
    intro i k h1 h2 hk hs
    obtain ⟨k, rfl⟩ : ∃ m, k = m + 1 := ⟨k - 1, by omega⟩
    by_cases h : i < l.length
    · simp only [lessorref26_Encode.l1]
      have ht1 := enc_take_le l (i + 1)
      have hx1 := hx l[i] (List.getElem_mem h)
      rw [if_pos (by omega), if_pos (by omega), rd_at l h]
      simp only [Option.bind_some]
      rw [if_pos (by simp; omega), if_pos (by simp; omega)]
      have e : enc (l.take i) ++ [l[i].f0 % 256, (l[i].f1.length : Int) % 256] ++ l[i].f1 = enc (l.take (i + 1)) := by
        rw [List.take_succ_eq_append_getElem h, enc_append, enc_one, enc1, List.append_assoc]
      rw [e]
      by_cases c : 255 < (enc (l.take (i + 1))).length
      · rw [if_pos (by omega), if_pos (by omega)]
      · rw [if_neg (by omega), wrapO (by omega) (by omega)]
        exact ih (i + 1) k (by omega) (by omega) (by omega) (by omega)
    · obtain rfl : i = l.length := by omega
      rw [List.take_of_length_le (by omega)] at hs ⊢
      simp only [lessorref26_Encode.l1]
      rw [if_neg (by omega), if_neg (by omega)]
theorem ref_encode0 (l : List Opt) (hf : fewR l) (he : l ≠ []) : ∀ (d i k : Nat), l.length ≤ i + d → i ≤ l.length → d + 1001 < k → (∀ x ∈ l.take i, okOpt x) →
    lessorref26_Encode.l0 k l (i : Int) = some (encR l) := by
  have hn := hf.1
  have fin : ∀ k, 1001 < k → (∀ x ∈ l, okOpt x) → lessorref26_Encode.l0 k l (l.length : Int) = some (encR l) := by
    intro k hk ok
    obtain ⟨k, rfl⟩ : ∃ m, k = m + 1 := ⟨k - 1, by omega⟩
    simp only [lessorref26_Encode.l0]
    rw [if_neg (by omega)]
    unfold encR
    rw [if_pos ⟨he, ok⟩]
    exact ref_encode1 l hf l.length 0 k (by omega) (by omega) (by omega) (by simp [enc])
  intro d
  induction d with
  | zero =>
    intro i k h1 h2 hk ho
    obtain rfl : i = l.length := by omega
    rw [List.take_length] at ho
    exact fin k (by omega) ho
  | succ d ih =>
    intro i k h1 h2 hk ho
    by_cases h : i < l.length
    · obtain ⟨k, rfl⟩ : ∃ m, k = m + 1 := ⟨k - 1, by omega⟩
      simp only [lessorref26_Encode.l0]
      rw [if_pos (by omega), if_pos (by omega), rd_at l h]
      have bad : ¬ okOpt l[i] → encR l = ([], 1) := fun hb => by unfold encR; rw [if_neg (fun h' => hb (h'.2 _ (List.getElem_mem h)))]
      by_cases c1 : l[i].f0 < 1
      · rw [if_pos c1, bad (by unfold okOpt; omega)]
      · rw [if_neg c1]
        by_cases c2 : l[i].f0 > 255
        · rw [if_pos c2, bad (by unfold okOpt; omega)]
        · rw [if_neg c2]
          by_cases c3 : (l[i].f1.length : Int) > 253
          · rw [if_pos c3, bad (by unfold okOpt; omega)]
          · rw [if_neg c3, wrapO (by omega) (by omega)]
            refine ih (i + 1) k (by omega) (by omega) (by omega) ?_
            rw [List.take_succ_eq_append_getElem h]
            intro x hx
            rcases List.mem_append.1 hx with hx | hx
            · exact ho x hx
            · rw [List.mem_singleton.1 hx]; exact ⟨by omega, by omega, by omega⟩
    · obtain rfl : i = l.length := by omega
      rw [List.take_length] at ho
      exact fin k (by omega) ho
theorem ref_encode_eq (l : List Opt) (hf : fewR l) (k : Nat) (hk : 2010 ≤ k) : lessorref26_Encode.f k l = some (encR l) := by
  have hn := hf.1
  unfold lessorref26_Encode.f
  by_cases e : l = []
  · subst e; simp [encR]
  · have hl : l.length ≠ 0 := fun h => e (List.eq_nil_of_length_eq_zero h)
    rw [if_neg (by omega)]
    exact ref_encode0 l hf e l.length 0 k (by omega) (by omega) (by omega) (by simp)

/-! ### few -/
theorem few_loop (l : List Opt) (hl : l.length ≤ 100) : ∀ (d i k : Nat), l.length ≤ i + d → i ≤ l.length → d < k →
    lessorref02_Few.l0 k l (i : Int) = some (decide (∀ x ∈ l.drop i, x.f1.length ≤ 1000)) := by
  intro d
  induction d with
  | zero =>
    intro i k h1 h2 hk
    obtain ⟨k, rfl⟩ : ∃ m, k = m + 1 := ⟨k - 1, by omega⟩
    simp only [lessorref02_Few.l0]
    rw [if_neg (by omega), List.drop_of_length_le (by omega)]
    simp
  | succ d ih =>
    intro i k h1 h2 hk
    obtain ⟨k, rfl⟩ : ∃ m, k = m + 1 := ⟨k - 1, by omega⟩
    by_cases h : i < l.length
    · simp only [lessorref02_Few.l0]
      rw [if_pos (by omega), if_pos (by omega), rd_at l h, List.drop_eq_getElem_cons h]
      by_cases c : (l[i].f1.length : Int) > 1000
      · rw [if_pos c, decide_eq_false (fun hh => by have := hh l[i] List.mem_cons_self; omega)]
      · rw [if_neg c, wrapO (by omega) (by omega)]
        have := ih (i + 1) k (by omega) (by omega) (by omega)
        rw [show ((i : Int) + 1) = ((i + 1 : Nat) : Int) from rfl, this]
        congr 1
        rw [decide_eq_decide]
        constructor
        · intro hh x hx
          rcases List.mem_cons.1 hx with rfl | hx
          · omega
          · exact hh x hx
        · intro hh x hx; exact hh x (List.mem_cons_of_mem _ hx)
    · simp only [lessorref02_Few.l0]
      rw [if_neg (by omega), List.drop_of_length_le (by omega)]
      simp
theorem few_eq (l : List Opt) (k : Nat) (hk : 101 ≤ k) : ∃ b : Bool, lessorref02_Few.f k l = some b ∧ (b = true ↔ few l) := by
  unfold lessorref02_Few.f few
  by_cases c : (l.length : Int) > 100
  · rw [if_pos c]; exact ⟨false, rfl, by simp; omega⟩
  · rw [if_neg c]
    have := few_loop l (by omega) l.length 0 k (by omega) (by omega) (by omega)
    rw [show ((0 : Nat) : Int) = 0 from rfl, List.drop_zero] at this
    refine ⟨_, this, ?_⟩
    rw [decide_eq_true_iff]
    exact ⟨fun h => ⟨by omega, h⟩, fun h => h.2⟩

/-! ### the same lists -/
theorem same_loop (l : List Opt) (hl : l.length ≤ 1000000) : ∀ (d i k : Nat), l.length ≤ i + d → i ≤ l.length → d < k → lessorref02_Same.l0 k l l (i : Int) = some true := by
  intro d
  induction d with
  | zero =>
    intro i k h1 h2 hk
    obtain ⟨k, rfl⟩ : ∃ m, k = m + 1 := ⟨k - 1, by omega⟩
    simp only [lessorref02_Same.l0]
    rw [if_neg (by omega)]
  | succ d ih =>
    intro i k h1 h2 hk
    obtain ⟨k, rfl⟩ : ∃ m, k = m + 1 := ⟨k - 1, by omega⟩
    by_cases h : i < l.length
    · simp only [lessorref02_Same.l0]
      rw [if_pos (by omega), if_pos (by omega), if_pos (by omega)]
      simp only [if_true]
      rw [show wrap64 ((i : Int) + 1) = ((i + 1 : Nat) : Int) from by unfold wrap64; omega]
      exact ih (i + 1) k (by omega) (by omega) (by omega)
    · obtain rfl : i = l.length := by omega
      simp only [lessorref02_Same.l0]
      rw [if_neg (by omega)]
theorem same_refl (l : List Opt) (hl : l.length ≤ 1000000) (k : Nat) (hk : l.length < k) : lessorref02_Same.f k l l = some true := by
  unfold lessorref02_Same.f
  rw [if_pos rfl]
  exact same_loop l hl l.length 0 k (by omega) (by omega) hk
/-! ### Decode -/
theorem rd_of {l : List Int} {i : Nat} (h : i < l.length) : rd l (i : Int) = l[i] := by
  unfold rd
  rw [Int.toNat_natCast, List.getD_eq_getElem?_getD, List.getElem?_eq_getElem h]
  rfl
theorem rdL_ne {l : List Int} : ∀ (n : Nat) (acc r : List Opt), l.length ≤ n → rdL l acc = some r → acc.length ≤ r.length ∧ (l ≠ [] → acc.length < r.length) := by
  intro n
  induction n generalizing l with
  | zero =>
    intro acc r hl h
    obtain rfl : l = [] := List.eq_nil_of_length_eq_zero (by omega)
    unfold rdL at h
    obtain rfl := Option.some.inj h
    exact ⟨Nat.le_refl _, fun h => absurd rfl h⟩
  | succ n ih =>
    intro acc r hl h
    match l, hl, h with
    | [], _, h =>
      unfold rdL at h
      obtain rfl := Option.some.inj h
      exact ⟨Nat.le_refl _, fun h => absurd rfl h⟩
    | [x], _, h => rw [rd_lone] at h; cases h
    | x :: m :: s, hl, h =>
      by_cases c : m.toNat ≤ s.length ∧ x ≠ 0
      · rw [rd_step c.1 c.2] at h
        have := (ih _ _ (by simp only [List.length_drop, List.length_cons] at hl ⊢; omega) h).1
        simp only [List.length_append, List.length_singleton] at this
        exact ⟨by omega, fun _ => by omega⟩
      · rw [rd_stop c] at h; cases h
def decR (l : List Int) : List Opt × Int := match rdL l [] with | some r => if l ≠ [] ∧ l.length ≤ 255 then (r, 0) else ([], 2) | none => ([], 2)
theorem rlDec_eq (l : List Int) : rlDec l = decR l := by
  unfold rlDec decR
  cases h : rdL l [] with
  | none => rw [rdRes_none h]; simp
  | some r =>
    rw [rdRes_some h]
    have h1 := rdL_ne _ _ _ (Nat.le_refl _) h
    by_cases e : l = []
    · subst e
      unfold rdL at h
      obtain rfl := Option.some.inj h
      simp
    · have h2 := h1.2 e
      simp only [List.length_nil] at h2
      simp [h2, e]
theorem decode_eq (l : List Int) (hb : ∀ x ∈ l, 0 ≤ x ∧ x ≤ 255) (hl : l.length < 1099511627776) : relay_Decode.f l = some (decR l) := by
  unfold relay_Decode.f
  rw [if_pos ⟨hb, hl⟩, rlDec_eq]
theorem ref_decode_loop (l : List Int) (hb : ∀ x ∈ l, 0 ≤ x ∧ x ≤ 255) (hl : l.length ≤ 255) : ∀ (d i k : Nat) (acc : List Opt), l.length ≤ i + d → i ≤ l.length → d < k → acc.length ≤ i →
    lessorref26_Decode.l0 k l acc (i : Int) = some (match rdL (l.drop i) acc with | some r => (r, 0) | none => ([], 2)) := by
  have fin : ∀ k acc, lessorref26_Decode.l0 (k + 1) l acc (l.length : Int) = some (match rdL (l.drop l.length) acc with | some r => (r, 0) | none => ([], 2)) := by
    intro k acc
    simp only [lessorref26_Decode.l0]
    rw [if_neg (by omega), List.drop_length, rdL]
  intro d
  induction d with
  | zero =>
    intro i k acc h1 h2 hk ha
    obtain ⟨k, rfl⟩ : ∃ m, k = m + 1 := ⟨k - 1, by omega⟩
    obtain rfl : i = l.length := by omega
    exact fin k acc
  | succ d ih =>
    intro i k acc h1 h2 hk ha
    obtain ⟨k, rfl⟩ : ∃ m, k = m + 1 := ⟨k - 1, by omega⟩
    by_cases h : i < l.length
    · simp only [lessorref26_Decode.l0]
      rw [if_pos (by omega), if_pos (by omega), rd_of h, List.drop_eq_getElem_cons h, wrapO (x := (i : Int) + 1) (by omega) (by omega)]
      have hx := hb l[i] (List.getElem_mem h)
      by_cases h3 : i + 1 < l.length
      · rw [List.drop_eq_getElem_cons h3]
        have hm := hb l[i + 1] (List.getElem_mem h3)
        have e3 : rd l ((i : Int) + 1) = l[i + 1] := rd_of h3
        by_cases c1 : l[i] = 0
        · rw [if_pos c1, rd_stop (fun hh => hh.2 c1)]
        · rw [if_neg c1, if_neg (by omega), if_pos (by omega), if_pos (by omega), e3, wrapO (x := (i : Int) + 2) (by omega) (by omega), wrapO (x := l[i + 1]) (by omega) (by omega), wrapO (x := l[i]) (by omega) (by omega)]
          obtain ⟨m, em⟩ : ∃ m : Nat, l[i + 1] = m := Int.eq_ofNat_of_zero_le hm.1
          rw [em] at hm ⊢
          rw [wrapO (x := (i : Int) + 2 + m) (by omega) (by omega)]
          by_cases c2 : i + 2 + m ≤ l.length
          · rw [if_neg (by omega), rd_step (by rw [List.length_drop, Int.toNat_natCast]; omega) c1]
            simp only [Option.bind_some]
            rw [if_pos (by omega), if_pos (by omega), if_pos (by omega), if_pos (by simp; omega), if_pos (by omega)]
            have e4 : ([] : List Int) ++ (l.take ((i : Int) + 2 + m).toNat).drop ((i : Int) + 2).toNat = (l.drop (i + 1 + 1)).take (m : Int).toNat := by
              rw [show ((i : Int) + 2 + m).toNat = (i + 1 + 1) + m from by omega, show ((i : Int) + 2).toNat = i + 1 + 1 from by omega, Int.toNat_natCast, List.nil_append, List.drop_take]
              congr 1
              omega
            rw [e4]
            have := ih (i + 2 + m) k (acc ++ [⟨l[i], (l.drop (i + 1 + 1)).take (m : Int).toNat⟩]) (by omega) (by omega) (by omega) (by simp; omega)
            rw [List.drop_drop, Int.toNat_natCast, show i + 1 + 1 + m = i + 2 + m from by omega]
            rw [Int.toNat_natCast] at this
            exact this
          · rw [if_pos (by omega), rd_stop (by rw [List.length_drop, Int.toNat_natCast]; omega)]
      · have hli : l.length = i + 1 := by omega
        have hz : l.drop (i + 1) = [] := List.drop_of_length_le (by omega)
        rw [hz, rd_lone]
        by_cases c1 : l[i] = 0
        · rw [if_pos c1]
        · rw [if_neg c1, if_pos (by omega)]
    · obtain rfl : i = l.length := by omega
      exact fin k acc
theorem ref_decode_eq (l : List Int) (hb : ∀ x ∈ l, 0 ≤ x ∧ x ≤ 255) (k : Nat) (hk : 300 ≤ k) : lessorref26_Decode.f k l = some (decR l) := by
  obtain ⟨k, rfl⟩ : ∃ m, k = m + 1 := ⟨k - 1, by omega⟩
  unfold lessorref26_Decode.f decR
  by_cases e : l = []
  · subst e
    simp [lessorref26_Decode.j0, rdL]
  · have hl : l.length ≠ 0 := fun h => e (List.eq_nil_of_length_eq_zero h)
    rw [if_neg (by omega)]
    simp only [lessorref26_Decode.j0]
    by_cases c : l.length ≤ 255
    · rw [decide_eq_false (by omega), if_neg (by decide)]
      have := ref_decode_loop l hb c l.length 0 k [] (by omega) (by omega) (by omega) (by simp)
      rw [List.drop_zero] at this
      rw [show ((0 : Nat) : Int) = 0 from rfl] at this
      rw [this]
      simp [e, c]
    · rw [decide_eq_true (by omega), if_pos rfl]
      cases rdL l [] with
      | none => rfl
      | some r => simp [c]

/-! ### back -/
theorem rdL_enc (l : List Opt) (ok : ∀ x ∈ l, okOpt x) : ∀ (acc : List Opt), rdL (enc l) acc = some (acc ++ l) := by
  induction l with
  | nil => intro acc; show rdL [] acc = _; rw [rdL, List.append_nil]
  | cons x l ih =>
    intro acc
    obtain ⟨h1, h2, h3⟩ := ok x (by simp)
    have e : enc (x :: l) = x.f0 :: (x.f1.length : Int) :: (x.f1 ++ enc l) := by
      show enc1 x ++ enc l = _
      unfold enc1
      rw [Int.emod_eq_of_lt (by omega) (by omega), Int.emod_eq_of_lt (by omega) (by omega)]
      rfl
    rw [e, rd_step (by simp) (by omega), Int.toNat_natCast, List.drop_left, List.take_left, ih (fun y hy => ok y (by simp [hy]))]
    simp
theorem enc_rdL : ∀ (n : Nat) (l : List Int) (acc r : List Opt), l.length ≤ n → (∀ x ∈ l, 0 ≤ x ∧ x ≤ 255) → l.length ≤ 255 → rdL l acc = some r → ∃ m, r = acc ++ m ∧ enc m = l ∧ (∀ x ∈ m, okOpt x) := by
  intro n
  induction n with
  | zero =>
    intro l acc r hl hb h5 h
    obtain rfl : l = [] := List.eq_nil_of_length_eq_zero (by omega)
    rw [rdL] at h
    obtain rfl := Option.some.inj h
    exact ⟨[], by simp, rfl, by simp⟩
  | succ n ih =>
    intro l acc r hl hb h5 h
    match l, hl, hb, h5, h with
    | [], _, _, _, h =>
      rw [rdL] at h
      obtain rfl := Option.some.inj h
      exact ⟨[], by simp, rfl, by simp⟩
    | [x], _, _, _, h => rw [rd_lone] at h; cases h
    | x :: q :: s, hl, hb, h5, h =>
      by_cases c : q.toNat ≤ s.length ∧ x ≠ 0
      · rw [rd_step c.1 c.2] at h
        simp only [List.length_cons] at hl h5
        have hx := hb x (by simp)
        have hq := hb q (by simp)
        obtain ⟨m, e1, e2, e3⟩ := ih (s.drop q.toNat) _ _ (by rw [List.length_drop]; omega) (fun y hy => hb y (List.mem_cons_of_mem _ (List.mem_cons_of_mem _ (List.mem_of_mem_drop hy)))) (by rw [List.length_drop]; omega) h
        have hlen : (s.take q.toNat).length = q.toNat := by rw [List.length_take]; omega
        refine ⟨⟨x, s.take q.toNat⟩ :: m, by rw [e1]; simp, ?_, ?_⟩
        · show enc1 _ ++ enc m = _
          rw [e2]
          unfold enc1
          show [x % 256, ((s.take q.toNat).length : Int) % 256] ++ s.take q.toNat ++ s.drop q.toNat = _
          rw [hlen, List.append_assoc, List.take_append_drop, Int.emod_eq_of_lt (by omega) (by omega), Int.emod_eq_of_lt (by omega) (by omega), Int.toNat_of_nonneg hq.1]
          rfl
        · intro y hy
          rcases List.mem_cons.1 hy with rfl | hy
          · refine ⟨?_, hx.2, ?_⟩
            · show 1 ≤ x; have := c.2; omega
            · show (s.take q.toNat).length ≤ 253; omega
          · exact e3 y hy
      · rw [rd_stop c] at h; cases h
theorem enc_bytes (l : List Opt) (hb : ∀ x ∈ l, ∀ y ∈ x.f1, 0 ≤ y ∧ y ≤ 255) : ∀ y ∈ enc l, 0 ≤ y ∧ y ≤ 255 := by
  intro y hy
  unfold enc at hy
  obtain ⟨z, hz, hyz⟩ := List.mem_flatten.1 hy
  obtain ⟨x, hx, rfl⟩ := List.mem_map.1 hz
  unfold enc1 at hyz
  simp only [List.mem_append, List.mem_cons, List.not_mem_nil, or_false] at hyz
  rcases hyz with (rfl | rfl) | h
  · omega
  · omega
  · exact hb x hx y h

theorem enc_ne {l : List Opt} (h : l ≠ []) : enc l ≠ [] := by
  cases l with
  | nil => exact absurd rfl h
  | cons x l => intro e; have : (enc (x :: l)).length = 0 := by rw [e]; rfl
                have e2 : enc (x :: l) = enc1 x ++ enc l := by simp [enc]
                rw [e2, List.length_append, enc1_len] at this; omega
theorem enc_len_ge (l : List Opt) : l.length * 2 ≤ (enc l).length ∧ ∀ x ∈ l, x.f1.length ≤ (enc l).length := by
  induction l with
  | nil => exact ⟨by simp, by simp⟩
  | cons x l ih =>
    have e2 : enc (x :: l) = enc1 x ++ enc l := by simp [enc]
    rw [e2, List.length_append, enc1_len, List.length_cons]
    refine ⟨by omega, fun y hy => ?_⟩
    rcases List.mem_cons.1 hy with rfl | hy
    · omega
    · have := ih.2 y hy; omega
theorem decR_cases (b : List Int) (hb : ∀ x ∈ b, 0 ≤ x ∧ x ≤ 255) : (∃ m, decR b = (m, 0) ∧ enc m = b ∧ (∀ x ∈ m, okOpt x) ∧ m ≠ [] ∧ b.length ≤ 255) ∨ decR b = ([], 2) := by
  unfold decR
  cases h : rdL b [] with
  | none => exact .inr rfl
  | some r =>
    by_cases c : b ≠ [] ∧ b.length ≤ 255
    · obtain ⟨m, e1, e2, e3⟩ := enc_rdL _ b [] r (Nat.le_refl _) hb c.2 h
      rw [List.nil_append] at e1
      subst e1
      refine .inl ⟨r, by simp [c], e2, e3, ?_, c.2⟩
      rintro rfl
      exact c.1 e2.symm
    · exact .inr (by simp only; rw [if_neg c])
theorem dec_few {m : List Opt} {b : List Int} (e : enc m = b) (_ : ∀ x ∈ m, okOpt x) (h : b.length ≤ 255) : fewR m := by
  have h1 := enc_len_ge m
  rw [e] at h1
  exact ⟨by omega, fun x hx => by have := h1.2 x hx; omega⟩
theorem rdL_len {l : List Int} : ∀ (n : Nat) (acc r : List Opt), l.length ≤ n → rdL l acc = some r → r.length ≤ acc.length + l.length := by
  intro n
  induction n generalizing l with
  | zero =>
    intro acc r hl h
    obtain rfl : l = [] := List.eq_nil_of_length_eq_zero (by omega)
    unfold rdL at h
    obtain rfl := Option.some.inj h
    simp
  | succ n ih =>
    intro acc r hl h
    match l, hl, h with
    | [], _, h =>
      unfold rdL at h
      obtain rfl := Option.some.inj h
      simp
    | [x], _, h => rw [rd_lone] at h; cases h
    | x :: m :: s, hl, h =>
      by_cases c : m.toNat ≤ s.length ∧ x ≠ 0
      · rw [rd_step c.1 c.2] at h
        have := ih _ _ (by simp only [List.length_drop, List.length_cons] at hl ⊢; omega) h
        simp only [List.length_append, List.length_singleton, List.length_drop, List.length_cons, List.length_nil] at this ⊢
        omega
      · rw [rd_stop c] at h; cases h
theorem decR_len (b : List Int) : (decR b).1.length ≤ 255 := by
  unfold decR
  cases h : rdL b [] with
  | none => simp
  | some r =>
    have := rdL_len _ _ _ (Nat.le_refl _) h
    simp only
    split
    · simp at this ⊢; omega
    · simp
theorem wf_byte {x : Int} (h : (Lit.int .u8 x).wf = true) : 0 ≤ x ∧ x ≤ 255 := by
  simp only [Lit.wf, IntKind.min, IntKind.max, IntKind.signed, IntKind.bits, Bool.and_eq_true, decide_eq_true_eq] at h
  have h1 : (IntKind.u8.min : Int) = 0 := rfl
  have h2 : (IntKind.u8.max : Int) = 255 := rfl
  first | exact h | (simp_all; done) | (simp_all; omega)
theorem opt_bytes {x : Opt} (h : (Lit.int .i64 x.f0).wf = true ∧ (x.f1.length ≤ maxLen ∧ ∀ y ∈ x.f1, (Lit.int .u8 y).wf = true)) : ∀ y ∈ x.f1, 0 ≤ y ∧ y ≤ 255 := fun y hy => wf_byte (h.2.2 y hy)

end Go.Proofs.Ytnkajghemggaaaa.PL
