/-
  Options and bytes, over lists: option.Encode, option.Decode and the reference's Decode. No condition of their own.
-/
import Derived.Test.YtcefkkcmpdlnjaaDoorPrF10
import Derived.Test.YtcefkkcmpdlnjaaDoorPrF7
import Derived.Test.YtcefkkcmpdlnjaaDoorPrF8
import Derived.Test.YtcefkkcmpdlnjaaDoorHODecode
import Derived.Test.YtcefkkcmpdlnjaaDoorPrF9
namespace Go.Proofs.YtcefkkcmpdlnjaaDoor.PD
open Go.RowKit Go.Proofs.YtcefkkcmpdlnjaaDoor Go.Proofs.YtcefkkcmpdlnjaaDoor.Pr Go.Proofs.YtcefkkcmpdlnjaaDoorW.PrintWords Go.Proofs.YtcefkkcmpdlnjaaDoorW.PrintLast Go.Proofs.YtcefkkcmpdlnjaaDoorW.PrintMore
set_option linter.unusedVariables false
set_option linter.unusedSimpArgs false

abbrev Opt := S35
theorem wrapO {x : Int} (h0 : 0 ≤ x) (h1 : x < 9223372036854775808) : wrap64 x = x := by unfold wrap64; omega
theorem rd_at (l : List Opt) {i : Nat} (h : i < l.length) : rd_T35 l (i : Int) = l[i] := by
  unfold rd_T35
  rw [Int.toNat_natCast, List.getD_eq_getElem?_getD, List.getElem?_eq_getElem h]
  rfl

def okOpt (x : Opt) : Prop := 1 ≤ x.f0 ∧ x.f0 ≤ 254 ∧ x.f1.length ≤ 255
instance (x : Opt) : Decidable (okOpt x) := by unfold okOpt; infer_instance
def enc1 (x : Opt) : List Int := [x.f0 % 256, (x.f1.length : Int) % 256] ++ x.f1
def enc (l : List Opt) : List Int := (l.map enc1).flatten
def encR (l : List Opt) : List Int × Int := if ∀ x ∈ l, okOpt x then (if 1024 ≤ (enc l).length then ([], 3) else (enc l ++ [255], 0)) else ([], 1)
def few (l : List Opt) : Prop := l.length ≤ 100 ∧ ∀ x ∈ l, x.f1.length ≤ 1000
theorem enc_append (l m : List Opt) : enc (l ++ m) = enc l ++ enc m := by simp [enc]
theorem enc_one (x : Opt) : enc [x] = enc1 x := by simp [enc]
theorem enc1_len (x : Opt) : (enc1 x).length = x.f1.length + 2 := by simp [enc1]
theorem enc_len_le : ∀ (l : List Opt), (∀ x ∈ l, x.f1.length ≤ 1000) → (enc l).length ≤ l.length * 1002 := by
  intro l
  induction l with
  | nil => intro _; simp [enc]
  | cons x l ih =>
    intro h
    have h1 := ih (fun y hy => h y (by simp [hy]))
    have h2 := h x (by simp)
    have e : enc (x :: l) = enc1 x ++ enc l := by simp [enc]
    rw [e, List.length_append, enc1_len, List.length_cons]
    omega
theorem enc_take_le (l : List Opt) (i : Nat) : (enc (l.take i)).length ≤ (enc l).length := by
  have : enc l = enc (l.take i) ++ enc (l.drop i) := by rw [← enc_append, List.take_append_drop]
  rw [this, List.length_append]; omega

/-! ### option.Encode -/
theorem odd_eq (x : Opt) : option_Encode_1.f x.f0 x.f1 = some (!decide (okOpt x)) := by
  unfold option_Encode_1.f
  by_cases ok : okOpt x
  · rw [decide_eq_true ok]
    unfold okOpt at ok
    rw [if_neg (by omega), if_neg (by omega), decide_eq_false (by omega)]
    rfl
  · rw [decide_eq_false ok]
    unfold okOpt at ok
    split
    · rfl
    · split
      · rfl
      · rw [decide_eq_true (by omega)]
        rfl
theorem index_spec (l : List Opt) (hl : l.length ≤ 1000000) : ∀ (d i k : Nat), l.length ≤ i + d → i ≤ l.length → d < k →
    ∃ r : Int, slices_IndexFunc.l0 k l (l.length : Int) (i : Int) = some r ∧ ((0 ≤ r ∧ ∃ x ∈ l.drop i, ¬ okOpt x) ∨ (r < 0 ∧ ∀ x ∈ l.drop i, okOpt x)) := by
  intro d
  induction d with
  | zero =>
    intro i k h1 h2 hk
    obtain ⟨k, rfl⟩ : ∃ m, k = m + 1 := ⟨k - 1, by omega⟩
    refine ⟨-1, ?_, .inr ⟨by omega, ?_⟩⟩
    · simp only [slices_IndexFunc.l0]; rw [if_neg (by omega)]
    · rw [List.drop_of_length_le (by omega)]; simp
  | succ d ih =>
    intro i k h1 h2 hk
    obtain ⟨k, rfl⟩ : ∃ m, k = m + 1 := ⟨k - 1, by omega⟩
    by_cases h : i < l.length
    · simp only [slices_IndexFunc.l0]
      rw [if_pos (by omega), if_pos (by omega), if_pos (by omega), rd_at l h, odd_eq]
      simp only [Option.bind_some]
      rw [List.drop_eq_getElem_cons h]
      by_cases ok : okOpt l[i]
      · rw [decide_eq_true ok, wrapO (by omega) (by omega)]
        obtain ⟨r, hr, hs⟩ := ih (i + 1) k (by omega) (by omega) (by omega)
        refine ⟨r, by simpa using (show slices_IndexFunc.l0 k l (l.length : Int) ((i : Int) + 1) = some r from hr), ?_⟩
        rcases hs with ⟨a, x, hx, b⟩ | ⟨a, b⟩
        · exact .inl ⟨a, x, List.mem_cons_of_mem _ hx, b⟩
        · exact .inr ⟨a, fun x hx => by
            rcases List.mem_cons.1 hx with rfl | hx
            · exact ok
            · exact b x hx⟩
      · rw [decide_eq_false ok]
        exact ⟨i, by simp, .inl ⟨by omega, l[i], List.mem_cons_self, ok⟩⟩
    · refine ⟨-1, ?_, .inr ⟨by omega, ?_⟩⟩
      · simp only [slices_IndexFunc.l0]; rw [if_neg (by omega)]
      · rw [List.drop_of_length_le (by omega)]; simp
theorem contains_eq (l : List Opt) (hl : l.length ≤ 1000000) (a : Int) (k : Nat) (hk : l.length < k) : slices_ContainsFunc.f k l a = some (!decide (∀ x ∈ l, okOpt x)) := by
  obtain ⟨r, hr, hs⟩ := index_spec l hl l.length 0 k (by omega) (by omega) hk
  unfold slices_ContainsFunc.f slices_IndexFunc.f
  rw [show ((0 : Nat) : Int) = 0 from rfl] at hr
  rw [hr]
  simp only [Option.bind_some]
  rw [List.drop_zero] at hs
  rcases hs with ⟨h1, x, hx, h2⟩ | ⟨h1, h2⟩
  · rw [decide_eq_true (by omega), decide_eq_false (fun h => h2 (h x hx))]; rfl
  · rw [decide_eq_false (by omega), decide_eq_true h2]; rfl
theorem encode_loop (l : List Opt) (hf : few l) : ∀ (d i k : Nat), l.length ≤ i + d → i ≤ l.length → d < k →
    option_Encode.l0 k (enc (l.take i)) l (l.length : Int) (i : Int) = some (if 1024 ≤ (enc l).length then ([], 3) else (enc l ++ [255], 0)) := by
  obtain ⟨hn, hx⟩ := hf
  have hel := enc_len_le l hx
  have hel' : (enc l).length ≤ 100200 := by omega
  intro d
  induction d with
  | zero =>
    intro i k h1 h2 hk
    obtain ⟨k, rfl⟩ : ∃ m, k = m + 1 := ⟨k - 1, by omega⟩
    simp only [option_Encode.l0]
    rw [if_neg (by omega), List.take_of_length_le (by omega), if_pos (by omega)]
    simp only [Option.bind_some]
    by_cases c : 1024 ≤ (enc l).length
    · rw [if_pos (by simp; omega), if_pos c]
    · rw [if_neg (by simp; omega), if_neg c]
  | succ d ih =>
    intro i k h1 h2 hk
    obtain ⟨k, rfl⟩ : ∃ m, k = m + 1 := ⟨k - 1, by omega⟩
    by_cases h : i < l.length
    · simp only [option_Encode.l0]
      have ht := enc_take_le l i
      have ht1 := enc_take_le l (i + 1)
      have hx1 := hx l[i] (List.getElem_mem h)
      rw [if_pos (by omega), if_pos (by omega), if_pos (by omega), rd_at l h]
      simp only [Option.bind_some]
      rw [if_pos (by simp; omega), if_pos (by simp; omega), wrapO (by omega) (by omega)]
      have e : enc (l.take i) ++ [l[i].f0 % 256, (l[i].f1.length : Int) % 256] ++ l[i].f1 = enc (l.take (i + 1)) := by
        rw [List.take_succ_eq_append_getElem h, enc_append, enc_one, enc1, List.append_assoc]
      rw [e]
      exact ih (i + 1) k (by omega) (by omega) (by omega)
    · obtain rfl : i = l.length := by omega
      simp only [option_Encode.l0]
      rw [if_neg (by omega), List.take_of_length_le (by omega), if_pos (by omega)]
      simp only [Option.bind_some]
      by_cases c : 1024 ≤ (enc l).length
      · rw [if_pos (by simp; omega), if_pos c]
      · rw [if_neg (by simp; omega), if_neg c]
theorem encode_eq (l : List Opt) (hf : few l) (k : Nat) (hk : 101 ≤ k) : option_Encode.f k l = some (encR l) := by
  have hn := hf.1
  unfold option_Encode.f encR
  rw [contains_eq l (by omega) _ k (by omega)]
  simp only [Option.bind_some]
  by_cases ok : ∀ x ∈ l, okOpt x
  · rw [decide_eq_true ok, if_neg (by decide), if_pos ok]
    exact encode_loop l hf l.length 0 k (by omega) (by omega) (by omega)
  · rw [decide_eq_false ok, if_pos (by decide), if_neg ok]

/-! ### few -/
theorem few_loop (l : List Opt) (hl : l.length ≤ 100) : ∀ (d i k : Nat), l.length ≤ i + d → i ≤ l.length → d < k →
    lessorref02_Few.l0 k l (i : Int) = some (decide (∀ x ∈ l.drop i, x.f1.length ≤ 1000)) := by
  intro d
  induction d with
  | zero =>
    intro i k h1 h2 hk
    obtain ⟨k, rfl⟩ : ∃ m, k = m + 1 := ⟨k - 1, by omega⟩
    simp only [lessorref02_Few.l0]
    rw [if_neg (by omega), List.drop_of_length_le (by omega)]
    simp
  | succ d ih =>
    intro i k h1 h2 hk
    obtain ⟨k, rfl⟩ : ∃ m, k = m + 1 := ⟨k - 1, by omega⟩
    by_cases h : i < l.length
    · simp only [lessorref02_Few.l0]
      rw [if_pos (by omega), if_pos (by omega), rd_at l h, List.drop_eq_getElem_cons h]
      by_cases c : (l[i].f1.length : Int) > 1000
      · rw [if_pos c, decide_eq_false (fun hh => by have := hh l[i] List.mem_cons_self; omega)]
      · rw [if_neg c, wrapO (by omega) (by omega)]
        have := ih (i + 1) k (by omega) (by omega) (by omega)
        rw [show ((i : Int) + 1) = ((i + 1 : Nat) : Int) from rfl, this]
        congr 1
        rw [decide_eq_decide]
        constructor
        · intro hh x hx
          rcases List.mem_cons.1 hx with rfl | hx
          · omega
          · exact hh x hx
        · intro hh x hx; exact hh x (List.mem_cons_of_mem _ hx)
    · simp only [lessorref02_Few.l0]
      rw [if_neg (by omega), List.drop_of_length_le (by omega)]
      simp
theorem few_eq (l : List Opt) (k : Nat) (hk : 101 ≤ k) : ∃ b : Bool, lessorref02_Few.f k l = some b ∧ (b = true ↔ few l) := by
  unfold lessorref02_Few.f few
  by_cases c : (l.length : Int) > 100
  · rw [if_pos c]; exact ⟨false, rfl, by simp; omega⟩
  · rw [if_neg c]
    have := few_loop l (by omega) l.length 0 k (by omega) (by omega) (by omega)
    rw [show ((0 : Nat) : Int) = 0 from rfl, List.drop_zero] at this
    refine ⟨_, this, ?_⟩
    rw [decide_eq_true_iff]
    exact ⟨fun h => ⟨by omega, h⟩, fun h => h.2⟩

/-! ### the same lists -/
theorem same_loop (l : List Opt) (hl : l.length ≤ 1000000) : ∀ (d i k : Nat), l.length ≤ i + d → i ≤ l.length → d < k → lessorref02_Same.l0 k l l (i : Int) = some true := by
  intro d
  induction d with
  | zero =>
    intro i k h1 h2 hk
    obtain ⟨k, rfl⟩ : ∃ m, k = m + 1 := ⟨k - 1, by omega⟩
    simp only [lessorref02_Same.l0]
    rw [if_neg (by omega)]
  | succ d ih =>
    intro i k h1 h2 hk
    obtain ⟨k, rfl⟩ : ∃ m, k = m + 1 := ⟨k - 1, by omega⟩
    by_cases h : i < l.length
    · simp only [lessorref02_Same.l0]
      rw [if_pos (by omega), if_pos (by omega), if_pos (by omega)]
      simp only [if_true]
      rw [show wrap64 ((i : Int) + 1) = ((i + 1 : Nat) : Int) from by unfold wrap64; omega]
      exact ih (i + 1) k (by omega) (by omega) (by omega)
    · obtain rfl : i = l.length := by omega
      simp only [lessorref02_Same.l0]
      rw [if_neg (by omega)]
theorem same_refl (l : List Opt) (hl : l.length ≤ 1000000) (k : Nat) (hk : l.length < k) : lessorref02_Same.f k l l = some true := by
  unfold lessorref02_Same.f
  rw [if_pos rfl]
  exact same_loop l hl l.length 0 k (by omega) (by omega) hk
/-! ### Decode -/
theorem rd_of {l : List Int} {i : Nat} (h : i < l.length) : rd l (i : Int) = l[i] := by
  unfold rd
  rw [Int.toNat_natCast, List.getD_eq_getElem?_getD, List.getElem?_eq_getElem h]
  rfl
theorem wf_byte {x : Int} (h : (Lit.int .u8 x).wf = true) : 0 ≤ x ∧ x ≤ 255 := by
  simp only [Lit.wf, IntKind.min, IntKind.max, IntKind.signed, IntKind.bits, Bool.and_eq_true, decide_eq_true_eq] at h
  have h1 : (IntKind.u8.min : Int) = 0 := rfl
  have h2 : (IntKind.u8.max : Int) = 255 := rfl
  first | exact h | (simp_all; done) | (simp_all; omega)
theorem opt_bytes {x : Opt} (h : (Lit.int .i64 x.f0).wf = true ∧ (x.f1.length ≤ maxLen ∧ ∀ y ∈ x.f1, (Lit.int .u8 y).wf = true)) : ∀ y ∈ x.f1, 0 ≤ y ∧ y ≤ 255 := fun y hy => wf_byte (h.2.2 y hy)

theorem enc_bytes (l : List Opt) (hb : ∀ x ∈ l, ∀ y ∈ x.f1, 0 ≤ y ∧ y ≤ 255) : ∀ y ∈ enc l, 0 ≤ y ∧ y ≤ 255 := by
  intro y hy
  unfold enc at hy
  obtain ⟨z, hz, hyz⟩ := List.mem_flatten.1 hy
  obtain ⟨x, hx, rfl⟩ := List.mem_map.1 hz
  unfold enc1 at hyz
  simp only [List.mem_append, List.mem_cons, List.not_mem_nil, or_false] at hyz
  rcases hyz with (rfl | rfl) | h
  · omega
  · omega
  · exact hb x hx y h


theorem zero_loop (l : List Int) (hl : l.length ≤ 1000000) : ∀ (d i k : Nat), l.length ≤ i + d → i ≤ l.length → d < k → lessorref02_zero.l0 k l (i : Int) = some (decide (∀ x ∈ l.drop i, x = 0)) := by
  intro d
  induction d with
  | zero =>
    intro i k h1 h2 hk
    obtain ⟨k, rfl⟩ : ∃ m, k = m + 1 := ⟨k - 1, by omega⟩
    simp only [lessorref02_zero.l0]
    rw [if_neg (by omega), List.drop_of_length_le (by omega)]
    simp
  | succ d ih =>
    intro i k h1 h2 hk
    obtain ⟨k, rfl⟩ : ∃ m, k = m + 1 := ⟨k - 1, by omega⟩
    by_cases h : i < l.length
    · simp only [lessorref02_zero.l0]
      rw [if_pos (by omega), if_pos (by omega), rd_of h, List.drop_eq_getElem_cons h, wrapO (by omega) (by omega)]
      by_cases c : l[i] = 0
      · rw [if_pos c]
        have := ih (i + 1) k (by omega) (by omega) (by omega)
        rw [show ((i : Int) + 1) = ((i + 1 : Nat) : Int) from rfl, this]
        congr 1
        rw [decide_eq_decide]
        constructor
        · intro hh x hx
          rcases List.mem_cons.1 hx with rfl | hx
          · exact c
          · exact hh x hx
        · intro hh x hx; exact hh x (List.mem_cons_of_mem _ hx)
      · rw [if_neg c, decide_eq_false (fun hh => c (hh _ List.mem_cons_self))]
    · simp only [lessorref02_zero.l0]
      rw [if_neg (by omega), List.drop_of_length_le (by omega)]
      simp
theorem zero_eq (l : List Int) (hl : l.length ≤ 1000000) (k : Nat) (hk : l.length < k) : lessorref02_zero.f k l = some (decide (∀ x ∈ l, x = 0)) := by
  unfold lessorref02_zero.f
  have := zero_loop l hl l.length 0 k (by omega) (by omega) hk
  rwa [show ((0 : Nat) : Int) = 0 from rfl, List.drop_zero] at this
def odOf (q : List Opt × Option (List Int)) : List Opt × Int := match q with | (pre, some r) => if ∀ x ∈ r, x = 0 then (pre, 0) else ([], 2) | (_, none) => ([], 2)
theorem odR_eq (l : List Int) : odR l = if 1024 < l.length then ([], 2) else odOf (pGo l []) := by
  unfold odR odOf
  split
  · rfl
  · rfl
theorem decode_eq (l : List Int) (hb : ∀ x ∈ l, 0 ≤ x ∧ x ≤ 255) (hl : l.length < 1099511627776) : option_Decode.f l = some (odR l) := by
  unfold option_Decode.f
  rw [if_pos ⟨hb, hl⟩]
theorem ref_decode_loop (l : List Int) (hb : ∀ x ∈ l, 0 ≤ x ∧ x ≤ 255) (hl : l.length ≤ 1024) : ∀ (d i k : Nat) (acc : List Opt), l.length ≤ i + d → i ≤ l.length → d + 1025 < k → acc.length ≤ i →
    lessorref02_Decode.l0 k l acc (i : Int) = some (odOf (pGo (l.drop i) acc)) := by
  have fin : ∀ k acc, lessorref02_Decode.l0 (k + 1) l acc (l.length : Int) = some (odOf (pGo (l.drop l.length) acc)) := by
    intro k acc
    simp only [lessorref02_Decode.l0]
    rw [if_neg (by omega), List.drop_length, pGo_nil]
    rfl
  intro d
  induction d with
  | zero =>
    intro i k acc h1 h2 hk ha
    obtain ⟨k, rfl⟩ : ∃ m, k = m + 1 := ⟨k - 1, by omega⟩
    obtain rfl : i = l.length := by omega
    exact fin k acc
  | succ d ih =>
    intro i k acc h1 h2 hk ha
    obtain ⟨k, rfl⟩ : ∃ m, k = m + 1 := ⟨k - 1, by omega⟩
    by_cases h : i < l.length
    · simp only [lessorref02_Decode.l0]
      rw [if_pos (by omega), if_pos (by omega), rd_of h, List.drop_eq_getElem_cons h, wrapO (x := (i : Int) + 1) (by omega) (by omega)]
      have hx := hb l[i] (List.getElem_mem h)
      obtain ⟨x, ex⟩ : ∃ x, l[i] = x := ⟨_, rfl⟩
      rw [ex] at hx ⊢
      by_cases c0 : x = 0
      · subst c0
        rw [if_pos rfl, pGo_zero]
        exact ih (i + 1) k acc (by omega) (by omega) (by omega) (by omega)
      · rw [if_neg c0]
        by_cases c5 : x = 255
        · subst c5
          rw [if_pos rfl, if_pos (by omega), if_pos (by omega), pGo_end, show ((i : Int) + 1).toNat = i + 1 from by omega, zero_eq _ (by rw [List.length_drop]; omega) k (by rw [List.length_drop]; omega)]
          simp only [Option.bind_some, odOf]
          by_cases z : ∀ x ∈ l.drop (i + 1), x = 0
          · rw [decide_eq_true z, if_pos rfl, if_pos z]
          · rw [decide_eq_false z, if_neg (by decide), if_neg z]
        · rw [if_neg c5]
          by_cases h3 : i + 1 < l.length
          · rw [List.drop_eq_getElem_cons h3]
            have hm := hb l[i + 1] (List.getElem_mem h3)
            have e3 : rd l ((i : Int) + 1) = l[i + 1] := rd_of h3
            rw [if_neg (by omega), if_pos (by omega), if_pos (by omega), e3, wrapO (x := (i : Int) + 2) (by omega) (by omega), wrapO (x := l[i + 1]) (by omega) (by omega), wrapO (x := x) (by omega) (by omega)]
            obtain ⟨m, em⟩ : ∃ m : Nat, l[i + 1] = m := Int.eq_ofNat_of_zero_le hm.1
            rw [em] at hm ⊢
            rw [wrapO (x := (i : Int) + 2 + m) (by omega) (by omega)]
            by_cases c2 : i + 2 + m ≤ l.length
            · rw [if_neg (by omega), pGo_step c0 c5 (by rw [List.length_drop, Int.toNat_natCast]; omega)]
              simp only [Option.bind_some]
              rw [if_pos (by omega), if_pos (by omega), if_pos (by omega), if_pos (by simp; omega), if_pos (by omega)]
              have e4 : ([] : List Int) ++ (l.take ((i : Int) + 2 + m).toNat).drop ((i : Int) + 2).toNat = (l.drop (i + 1 + 1)).take (m : Int).toNat := by
                rw [show ((i : Int) + 2 + m).toNat = (i + 1 + 1) + m from by omega, show ((i : Int) + 2).toNat = i + 1 + 1 from by omega, Int.toNat_natCast, List.nil_append, List.drop_take]
                congr 1
                omega
              rw [e4]
              have := ih (i + 2 + m) k (acc ++ [⟨x, (l.drop (i + 1 + 1)).take (m : Int).toNat⟩]) (by omega) (by omega) (by omega) (by simp; omega)
              rw [List.drop_drop, Int.toNat_natCast, show i + 1 + 1 + m = i + 2 + m from by omega]
              rw [Int.toNat_natCast] at this
              exact this
            · rw [if_pos (by omega), pGo_stop c0 c5 (by rw [List.length_drop, Int.toNat_natCast]; omega)]
              rfl
          · have hli : l.length = i + 1 := by omega
            have hz : l.drop (i + 1) = [] := List.drop_of_length_le (by omega)
            rw [hz, pGo_lone c0 c5, if_pos (by omega)]
            rfl
    · obtain rfl : i = l.length := by omega
      exact fin k acc
theorem ref_decode_eq (l : List Int) (hb : ∀ x ∈ l, 0 ≤ x ∧ x ≤ 255) (k : Nat) (hk : 2100 ≤ k) : lessorref02_Decode.f k l = some (odR l) := by
  unfold lessorref02_Decode.f
  rw [odR_eq]
  by_cases c : 1024 < l.length
  · rw [if_pos (by omega), if_pos c]
  · rw [if_neg (by omega), if_neg c]
    have := ref_decode_loop l hb (by omega) l.length 0 k [] (by omega) (by omega) (by omega) (by simp)
    rw [List.drop_zero] at this
    exact this
theorem pGo_len : ∀ (n : Nat) (l : List Int) (acc : List Opt), l.length ≤ n → (pGo l acc).1.length ≤ acc.length + l.length := by
  intro n
  induction n with
  | zero =>
    intro l acc hl
    obtain rfl : l = [] := List.eq_nil_of_length_eq_zero (by omega)
    rw [pGo_nil]; simp
  | succ n ih =>
    intro l acc hl
    match l, hl with
    | [], _ => rw [pGo_nil]; simp
    | x :: r, hl =>
      simp only [List.length_cons] at hl ⊢
      by_cases c0 : x = 0
      · subst c0; rw [pGo_zero]; have := ih r acc (by omega); omega
      · by_cases c5 : x = 255
        · subst c5; rw [pGo_end]; simp only; omega
        · match r, hl with
          | [], _ => rw [pGo_lone c0 c5]; simp
          | m :: s, hl =>
            simp only [List.length_cons] at hl ⊢
            by_cases c : m.toNat ≤ s.length
            · rw [pGo_step c0 c5 c]
              have := ih (s.drop m.toNat) (acc ++ [⟨x, s.take m.toNat⟩]) (by rw [List.length_drop]; omega)
              simp only [List.length_append, List.length_cons, List.length_nil, List.length_drop] at this
              omega
            · rw [pGo_stop c0 c5 c]; simp only; omega
theorem odR_len (l : List Int) : (odR l).1.length ≤ 1024 := by
  rw [odR_eq]
  split
  · simp
  · have := pGo_len _ l [] (Nat.le_refl _)
    unfold odOf
    simp only [List.length_nil] at this
    split
    · rename_i pre r e
      rw [e] at this
      split
      · simp only at this ⊢; omega
      · simp
    · simp

end Go.Proofs.YtcefkkcmpdlnjaaDoor.PD
