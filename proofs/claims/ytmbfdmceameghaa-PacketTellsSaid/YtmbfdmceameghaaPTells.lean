/-
  What a packet is, whose it is and what it asks, over lists: what packet.Kind, Client, Asked and the reference's compute.
-/
import Derived.Test.YtmbfdmceameghaaHFind
import Derived.Test.YtmbfdmceameghaaPOption
import Derived.Laws.BitsLemmas
import Derived.Test.YtmbfdmceameghaaPrF12
import Derived.Test.YtmbfdmceameghaaPrF14
import Derived.Test.YtmbfdmceameghaaPrF16
import Derived.Test.YtmbfdmceameghaaPrF13
import Derived.Test.YtmbfdmceameghaaPrF15
import Derived.Test.YtmbfdmceameghaaPrF17
namespace Go.Proofs.Ytmbfdmceameghaa.PT
open Go.RowKit Go.Proofs.Ytmbfdmceameghaa Go.Proofs.Ytmbfdmceameghaa.Pr Go.Proofs.Ytmbfdmceameghaa.PO Go.Proofs.YtmbfdmceameghaaW.PrintWords Go.Proofs.YtmbfdmceameghaaW.PrintLast Go.Proofs.YtmbfdmceameghaaW.PrintMore
set_option linter.unusedVariables false
set_option linter.unusedSimpArgs false

theorem wrapN {x : Int} (h0 : 0 ≤ x) (h1 : x < 9223372036854775808) : wrap64 x = x := by unfold wrap64; omega
theorem wraps_i64N (n : Int) (h₀ : 0 ≤ n) (h₁ : n < 2 ^ 40) : IntKind.i64.wrap n = n := by rw [IntKind.wrap_i64]; omega
theorem or_joinN {x y : Int} (h0 : 0 ≤ x) (h1 : x ≤ 16777215) (h2 : 0 ≤ y) (h3 : y ≤ 255) : bits .or .i64 (x * 256) y = x * 256 + y :=
  bits_join .i64 40 (by decide) wraps_i64N 8 (x * 256) y (by omega) (by omega) (by omega) h2 (by omega) (by omega)
theorem find_eq {l : List Opt} (hf : ∀ x ∈ l, x.f1.length ≤ 1000) (code : Int) : option_Find.f l code = some (opFind l code) := by
  unfold option_Find.f
  rw [if_pos (fun x hx => by have := hf x hx; omega)]
theorem opFind_drop {l : List Opt} {i : Nat} (h : i < l.length) (code : Int) : opFind (l.drop i) code = if l[i].f0 = code then (l[i].f1, true) else opFind (l.drop (i + 1)) code := by
  unfold opFind
  rw [List.drop_eq_getElem_cons h, List.find?_cons]
  by_cases c : l[i].f0 = code
  · rw [if_pos c, show (l[i].f0 == code) = true from beq_iff_eq.2 c]
  · rw [if_neg c, show (l[i].f0 == code) = false from beq_eq_false_iff_ne.2 c]
theorem ref_find_loop (l : List Opt) (hl : l.length ≤ 1000000) (code : Int) : ∀ (d i k : Nat), l.length ≤ i + d → i ≤ l.length → d < k → lessorref02_Find.l0 k l code (i : Int) = some (opFind (l.drop i) code) := by
  intro d
  induction d with
  | zero =>
    intro i k h1 h2 hk
    obtain ⟨k, rfl⟩ : ∃ m, k = m + 1 := ⟨k - 1, by omega⟩
    simp only [lessorref02_Find.l0]
    rw [if_neg (by omega), List.drop_of_length_le (by omega)]
    rfl
  | succ d ih =>
    intro i k h1 h2 hk
    obtain ⟨k, rfl⟩ : ∃ m, k = m + 1 := ⟨k - 1, by omega⟩
    by_cases h : i < l.length
    · simp only [lessorref02_Find.l0]
      rw [if_pos (by omega), if_pos (by omega), rd_at l h, opFind_drop h]
      by_cases c : l[i].f0 = code
      · rw [if_pos c, if_pos c]
      · rw [if_neg c, if_neg c, show wrap64 ((i : Int) + 1) = ((i + 1 : Nat) : Int) from by unfold wrap64; omega]
        exact ih (i + 1) k (by omega) (by omega) (by omega)
    · obtain rfl : i = l.length := by omega
      simp only [lessorref02_Find.l0]
      rw [if_neg (by omega), List.drop_of_length_le (by omega)]
      rfl
theorem ref_find_eq (l : List Opt) (hl : l.length ≤ 1000000) (code : Int) (k : Nat) (hk : l.length < k) : lessorref02_Find.f k l code = some (opFind l code) := by
  have := ref_find_loop l hl code l.length 0 k (by omega) (by omega) hk
  rwa [List.drop_zero] at this
theorem opFind_of {l : List Opt} {p : List Int → Prop} (h : ∀ x ∈ l, p x.f1) (h0 : p []) (code : Int) : p (opFind l code).1 := by
  unfold opFind
  cases e : l.find? (fun x => x.f0 == code) with
  | none => exact h0
  | some x => exact h x (List.mem_of_find?_eq_some e)
def numT (l : List Int) : Int := l.foldl (fun n c => n * 256 + c) 0
theorem num4 {l : List Int} (hl : l.length = 4) (hb : ∀ x ∈ l, 0 ≤ x ∧ x ≤ 255) (k : Nat) (hk : 7 ≤ k) : option_Number.f k l = some (numT l, 0) ∧ lessorref03_of.f k l = some (numT l) := by
  obtain ⟨k, rfl⟩ : ∃ m, k = m + 7 := ⟨k - 7, by omega⟩
  obtain ⟨a, b, c, d, rfl⟩ : ∃ a b c d, l = [a, b, c, d] := by
    match l, hl with
    | [a, b, c, d], _ => exact ⟨a, b, c, d, rfl⟩
  have ha := hb a (by simp)
  have hb' := hb b (by simp)
  have hc := hb c (by simp)
  have hd := hb d (by simp)
  clear hb hl
  have e0 : wrap64 a = a := wrapN (by omega) (by omega)
  have e1 : wrap64 b = b := wrapN (by omega) (by omega)
  have e4 : wrap64 c = c := wrapN (by omega) (by omega)
  have e5 : wrap64 d = d := wrapN (by omega) (by omega)
  have e2 : wrap64 (a * 256) = a * 256 := wrapN (by omega) (by omega)
  have e3 : wrap64 (a * 256 + b) = a * 256 + b := wrapN (by omega) (by omega)
  have e6 : wrap64 ((a * 256 + b) * 256) = (a * 256 + b) * 256 := wrapN (by omega) (by omega)
  have e7 : wrap64 ((a * 256 + b) * 256 + c) = (a * 256 + b) * 256 + c := wrapN (by omega) (by omega)
  have e8 : wrap64 (((a * 256 + b) * 256 + c) * 256) = ((a * 256 + b) * 256 + c) * 256 := wrapN (by omega) (by omega)
  have e9 : wrap64 (((a * 256 + b) * 256 + c) * 256 + d) = ((a * 256 + b) * 256 + c) * 256 + d := wrapN (by omega) (by omega)
  have z0 : wrap64 0 = 0 := wrapN (by omega) (by omega)
  have z1 : wrap64 1 = 1 := wrapN (by omega) (by omega)
  have z2 : wrap64 2 = 2 := wrapN (by omega) (by omega)
  have z3 : wrap64 3 = 3 := wrapN (by omega) (by omega)
  have z4 : wrap64 4 = 4 := wrapN (by omega) (by omega)
  have o1 : bits .or .i64 0 a = a := by have := or_joinN (x := 0) (y := a) (by omega) (by omega) (by omega) (by omega); simpa using this
  have o2 : bits .or .i64 (a * 256) b = a * 256 + b := or_joinN (by omega) (by omega) (by omega) (by omega)
  have o3 : bits .or .i64 ((a * 256 + b) * 256) c = (a * 256 + b) * 256 + c := or_joinN (by omega) (by omega) (by omega) (by omega)
  have o4 : bits .or .i64 (((a * 256 + b) * 256 + c) * 256) d = ((a * 256 + b) * 256 + c) * 256 + d := or_joinN (by omega) (by omega) (by omega) (by omega)
  have hn : numT [a, b, c, d] = ((a * 256 + b) * 256 + c) * 256 + d := by simp [numT]
  rw [hn]
  constructor
  · simp [option_Number.f, option_Number.j0, option_Number.l0, rd, e0, e1, e2, e4, e5, e6, e8, z0, z1, z2, z3, z4, o1, o2, o3, o4]
  · simp [lessorref03_of.f, lessorref03_of.l0, rd, e0, e1, e2, e3, e4, e5, e6, e7, e8, e9, z0, z1, z2, z3, z4]
/-! ### Kind, Client, Asked -/
def bytesOk (l : List Opt) : Prop := ∀ x ∈ l, ∀ y ∈ x.f1, 0 ≤ y ∧ y ≤ 255
def kindOf (l : List Opt) : Int := if (opFind l 53).1.length = 1 then rd (opFind l 53).1 0 else 0
def clientOf (hw : List Int) (l : List Opt) : ByteArray := if (opFind l 61).1.length < 1 ∨ 32 < (opFind l 61).1.length then strOfNums hw else strOfNums (opFind l 61).1
def askedOf (ci : Int) (l : List Opt) : Int × Int :=
  (if (opFind l 50).1.length = 4 then numT (opFind l 50).1 % 4294967296 else ci, if (opFind l 51).1.length = 4 then numT (opFind l 51).1 else 0)
theorem opb {l : List Opt} (hb : bytesOk l) (code : Int) : ∀ y ∈ (opFind l code).1, 0 ≤ y ∧ y ≤ 255 := opFind_of (p := fun d => ∀ y ∈ d, 0 ≤ y ∧ y ≤ 255) hb (by simp) code
theorem rd_byte {d : List Int} (h : ∀ y ∈ d, 0 ≤ y ∧ y ≤ 255) (hl : d.length = 1) : wrap64 (rd d 0) = rd d 0 := by
  match d, hl with
  | [a], _ =>
    have := h a (by simp)
    have e : rd [a] 0 = a := rfl
    rw [e]
    exact wrapN (by omega) (by omega)
section
variable (a0 a1 a2 a3 a4 a5 a6 a7 : Int) (l8 : List Int) (l9 : List Opt) (hf : few l9) (hb : bytesOk l9)
include hf hb
theorem kind_eq : packet_Kind.f a0 a1 a2 a3 a4 a5 a6 a7 l8 l9 = some (kindOf l9) := by
  unfold packet_Kind.f kindOf
  rw [find_eq hf.2]
  simp only [Option.bind_some]
  by_cases c : (opFind l9 53).1.length = 1
  · rw [if_pos (by omega), if_pos (by omega), if_pos c, rd_byte (opb hb 53) c]
  · rw [if_neg (by omega), if_neg c]
theorem ref_kind_eq (k : Nat) (hk : 101 ≤ k) : lessorref03_Kind.f k a0 a1 a2 a3 a4 a5 a6 a7 l8 l9 = some (kindOf l9) := by
  unfold lessorref03_Kind.f kindOf
  rw [ref_find_eq l9 (by have := hf.1; omega) 53 k (by have := hf.1; omega)]
  simp only [Option.bind_some]
  by_cases c : (opFind l9 53).1.length = 1
  · rw [if_pos (by omega), if_pos (by omega), if_pos c, rd_byte (opb hb 53) c]
  · rw [if_neg (by omega), if_neg c]
omit hb in
theorem client_eq : packet_Client.f a0 a1 a2 a3 a4 a5 a6 a7 l8 l9 = some (clientOf l8 l9) := by
  unfold packet_Client.f clientOf
  rw [find_eq hf.2]
  simp only [Option.bind_some]
  by_cases c : (opFind l9 61).1.length < 1
  · rw [if_pos (by omega), if_pos (.inl c)]
  · rw [if_neg (by omega)]
    by_cases c2 : 32 < (opFind l9 61).1.length
    · rw [if_pos (by omega), if_pos (.inr c2)]
    · rw [if_neg (by omega), if_neg (by omega)]
omit hb in
theorem ref_client_eq (k : Nat) (hk : 101 ≤ k) : lessorref03_Client.f k a0 a1 a2 a3 a4 a5 a6 a7 l8 l9 = some (clientOf l8 l9) := by
  unfold lessorref03_Client.f clientOf
  rw [ref_find_eq l9 (by have := hf.1; omega) 61 k (by have := hf.1; omega)]
  simp only [Option.bind_some]
  by_cases c : (opFind l9 61).1.length < 1
  · rw [if_pos (by omega), if_pos (.inl c)]
  · rw [if_neg (by omega)]
    by_cases c2 : 32 < (opFind l9 61).1.length
    · rw [if_pos (by omega), if_pos (.inr c2)]
    · rw [if_neg (by omega), if_neg (by omega)]
theorem told_eq (code : Int) (k : Nat) (hk : 7 ≤ k) : packet_told.f k a0 a1 a2 a3 a4 a5 a6 a7 l8 l9 code = some (if (opFind l9 code).1.length = 4 then (numT (opFind l9 code).1, true) else (0, false)) := by
  unfold packet_told.f
  rw [find_eq hf.2]
  simp only [Option.bind_some]
  by_cases c : (opFind l9 code).1.length = 4
  · rw [if_pos (by omega), if_pos c, (num4 c (opb hb code) k hk).1]
    rfl
  · rw [if_neg (by omega), if_neg c]
theorem asked_eq (k : Nat) (hk : 7 ≤ k) : packet_Asked.f k a0 a1 a2 a3 a4 a5 a6 a7 l8 l9 = some (askedOf a4 l9) := by
  unfold packet_Asked.f askedOf
  simp only [told_eq a0 a1 a2 a3 a4 a5 a6 a7 l8 l9 hf hb _ k hk, Option.bind_some]
  by_cases c : (opFind l9 50).1.length = 4
  · by_cases d : (opFind l9 51).1.length = 4
    · simp [c, d]
    · simp [c, d]
  · by_cases d : (opFind l9 51).1.length = 4
    · simp [c, d]
    · simp [c, d]
theorem ref_asked_eq (k : Nat) (hk : 110 ≤ k) : lessorref03_Asked.f k a0 a1 a2 a3 a4 a5 a6 a7 l8 l9 = some (askedOf a4 l9) := by
  obtain ⟨k, rfl⟩ : ∃ m, k = m + 1 := ⟨k - 1, by omega⟩
  have j : ∀ x : Int, lessorref03_Asked.j0 (k + 1) x 0 a0 a1 a2 a3 a4 a5 a6 a7 l8 l9 = some (x, if (opFind l9 51).1.length = 4 then numT (opFind l9 51).1 else 0) := by
    intro x
    simp only [lessorref03_Asked.j0]
    rw [ref_find_eq l9 (by have := hf.1; omega) 51 k (by have := hf.1; omega)]
    simp only [Option.bind_some]
    by_cases d : (opFind l9 51).1.length = 4
    · rw [if_pos (by omega), if_pos d, (num4 d (opb hb 51) k (by omega)).2]
      rfl
    · rw [if_neg (by omega), if_neg d]
  unfold lessorref03_Asked.f askedOf
  rw [ref_find_eq l9 (by have := hf.1; omega) 50 (k + 1) (by have := hf.1; omega)]
  simp only [Option.bind_some]
  by_cases c : (opFind l9 50).1.length = 4
  · rw [if_pos (by omega), if_pos c, (num4 c (opb hb 50) (k + 1) (by omega)).2]
    simp only [Option.bind_some]
    exact j _
  · rw [if_neg (by omega), if_neg c]
    exact j _
end
end Go.Proofs.Ytmbfdmceameghaa.PT
