/-
  What is found of options, over lists: what option.Find, the reference's Find and Same compute.
-/
import Derived.Test.YtcefkkcmpdlnjaaHFind
import Derived.Test.YtcefkkcmpdlnjaaPOption
import Derived.Test.YtcefkkcmpdlnjaaPrF16
import Derived.Test.YtcefkkcmpdlnjaaPrF17
namespace Go.Proofs.Ytcefkkcmpdlnjaa.PF
open Go.RowKit Go.Proofs.Ytcefkkcmpdlnjaa Go.Proofs.Ytcefkkcmpdlnjaa.Pr Go.Proofs.Ytcefkkcmpdlnjaa.PO Go.Proofs.YtcefkkcmpdlnjaaW.PrintWords Go.Proofs.YtcefkkcmpdlnjaaW.PrintLast Go.Proofs.YtcefkkcmpdlnjaaW.PrintMore
set_option linter.unusedVariables false
set_option linter.unusedSimpArgs false

theorem find_eq {l : List Opt} (hf : ∀ x ∈ l, x.f1.length ≤ 1000) (code : Int) : option_Find.f l code = some (opFind l code) := by
  unfold option_Find.f
  rw [if_pos (fun x hx => by have := hf x hx; omega)]
theorem opFind_drop {l : List Opt} {i : Nat} (h : i < l.length) (code : Int) : opFind (l.drop i) code = if l[i].f0 = code then (l[i].f1, true) else opFind (l.drop (i + 1)) code := by
  unfold opFind
  rw [List.drop_eq_getElem_cons h, List.find?_cons]
  by_cases c : l[i].f0 = code
  · rw [if_pos c, show (l[i].f0 == code) = true from beq_iff_eq.2 c]
  · rw [if_neg c, show (l[i].f0 == code) = false from beq_eq_false_iff_ne.2 c]
theorem ref_find_loop (l : List Opt) (hl : l.length ≤ 1000000) (code : Int) : ∀ (d i k : Nat), l.length ≤ i + d → i ≤ l.length → d < k → lessorref02_Find.l0 k l code (i : Int) = some (opFind (l.drop i) code) := by
  intro d
  induction d with
  | zero =>
    intro i k h1 h2 hk
    obtain ⟨k, rfl⟩ : ∃ m, k = m + 1 := ⟨k - 1, by omega⟩
    simp only [lessorref02_Find.l0]
    rw [if_neg (by omega), List.drop_of_length_le (by omega)]
    rfl
  | succ d ih =>
    intro i k h1 h2 hk
    obtain ⟨k, rfl⟩ : ∃ m, k = m + 1 := ⟨k - 1, by omega⟩
    by_cases h : i < l.length
    · simp only [lessorref02_Find.l0]
      rw [if_pos (by omega), if_pos (by omega), rd_at l h, opFind_drop h]
      by_cases c : l[i].f0 = code
      · rw [if_pos c, if_pos c]
      · rw [if_neg c, if_neg c, show wrap64 ((i : Int) + 1) = ((i + 1 : Nat) : Int) from by unfold wrap64; omega]
        exact ih (i + 1) k (by omega) (by omega) (by omega)
    · obtain rfl : i = l.length := by omega
      simp only [lessorref02_Find.l0]
      rw [if_neg (by omega), List.drop_of_length_le (by omega)]
      rfl
theorem ref_find_eq (l : List Opt) (hl : l.length ≤ 1000000) (code : Int) (k : Nat) (hk : l.length < k) : lessorref02_Find.f k l code = some (opFind l code) := by
  have := ref_find_loop l hl code l.length 0 k (by omega) (by omega) hk
  rwa [List.drop_zero] at this
theorem opFind_of {l : List Opt} {p : List Int → Prop} (h : ∀ x ∈ l, p x.f1) (h0 : p []) (code : Int) : p (opFind l code).1 := by
  unfold opFind
  cases e : l.find? (fun x => x.f0 == code) with
  | none => exact h0
  | some x => exact h x (List.mem_of_find?_eq_some e)

/-! ### Same -/
theorem same_loop (l : List Opt) (hl : l.length ≤ 1000000) : ∀ (d i k : Nat), l.length ≤ i + d → i ≤ l.length → d < k → lessorref02_Same.l0 k l l (i : Int) = some true := by
  intro d
  induction d with
  | zero =>
    intro i k h1 h2 hk
    obtain ⟨k, rfl⟩ : ∃ m, k = m + 1 := ⟨k - 1, by omega⟩
    simp only [lessorref02_Same.l0]
    rw [if_neg (by omega)]
  | succ d ih =>
    intro i k h1 h2 hk
    obtain ⟨k, rfl⟩ : ∃ m, k = m + 1 := ⟨k - 1, by omega⟩
    by_cases h : i < l.length
    · simp only [lessorref02_Same.l0]
      rw [if_pos (by omega), if_pos (by omega), if_pos (by omega)]
      simp only [if_true]
      rw [show wrap64 ((i : Int) + 1) = ((i + 1 : Nat) : Int) from by unfold wrap64; omega]
      exact ih (i + 1) k (by omega) (by omega) (by omega)
    · obtain rfl : i = l.length := by omega
      simp only [lessorref02_Same.l0]
      rw [if_neg (by omega)]
theorem same_refl (l : List Opt) (hl : l.length ≤ 1000000) (k : Nat) (hk : l.length < k) : lessorref02_Same.f k l l = some true := by
  unfold lessorref02_Same.f
  rw [if_pos rfl]
  exact same_loop l hl l.length 0 k (by omega) (by omega) hk
end Go.Proofs.Ytcefkkcmpdlnjaa.PF
