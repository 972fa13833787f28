/-
  What a packet asks, over lists: what packet.Kind, Client and Asked compute of options of any number, and numbers as data.
-/
import Derived.Test.YtmbfdmceameghaaPPut
import Derived.Test.YtmbfdmceameghaaPOption
import Derived.Laws.BitsLemmas
import Derived.Test.YtmbfdmceameghaaPrF12
import Derived.Test.YtmbfdmceameghaaPrF14
import Derived.Test.YtmbfdmceameghaaPrF16
import Derived.Test.YtmbfdmceameghaaPrF18
import Derived.Test.YtmbfdmceameghaaPrF7
namespace Go.Proofs.Ytmbfdmceameghaa.PA
open Go.RowKit Go.Proofs.Ytmbfdmceameghaa Go.Proofs.Ytmbfdmceameghaa.Pr Go.Proofs.Ytmbfdmceameghaa.PO Go.Proofs.YtmbfdmceameghaaW.PrintWords Go.Proofs.YtmbfdmceameghaaW.PrintLast Go.Proofs.YtmbfdmceameghaaW.PrintMore
set_option linter.unusedVariables false
set_option linter.unusedSimpArgs false

theorem wrapN {x : Int} (h0 : 0 ≤ x) (h1 : x < 9223372036854775808) : wrap64 x = x := by unfold wrap64; omega
theorem wraps_i64N (n : Int) (h₀ : 0 ≤ n) (h₁ : n < 2 ^ 40) : IntKind.i64.wrap n = n := by rw [IntKind.wrap_i64]; omega
theorem or_joinN {x y : Int} (h0 : 0 ≤ x) (h1 : x ≤ 16777215) (h2 : 0 ≤ y) (h3 : y ≤ 255) : bits .or .i64 (x * 256) y = x * 256 + y :=
  bits_join .i64 40 (by decide) wraps_i64N 8 (x * 256) y (by omega) (by omega) (by omega) h2 (by omega) (by omega)
theorem find_eq {l : List Opt} (hf : ∀ x ∈ l, x.f1.length ≤ 1000) (code : Int) : option_Find.f l code = some (opFind l code) := by
  unfold option_Find.f
  rw [if_pos (fun x hx => by have := hf x hx; omega)]
theorem opFind_of {l : List Opt} {p : List Int → Prop} (h : ∀ x ∈ l, p x.f1) (h0 : p []) (code : Int) : p (opFind l code).1 := by
  unfold opFind
  cases e : l.find? (fun x => x.f0 == code) with
  | none => exact h0
  | some x => exact h x (List.mem_of_find?_eq_some e)
def numT (l : List Int) : Int := l.foldl (fun n c => n * 256 + c) 0
theorem num4 {l : List Int} (hl : l.length = 4) (hb : ∀ x ∈ l, 0 ≤ x ∧ x ≤ 255) (k : Nat) (hk : 7 ≤ k) : option_Number.f k l = some (numT l, 0) := by
  obtain ⟨k, rfl⟩ : ∃ m, k = m + 7 := ⟨k - 7, by omega⟩
  obtain ⟨a, b, c, d, rfl⟩ : ∃ a b c d, l = [a, b, c, d] := by
    match l, hl with
    | [a, b, c, d], _ => exact ⟨a, b, c, d, rfl⟩
  have ha := hb a (by simp)
  have hb' := hb b (by simp)
  have hc := hb c (by simp)
  have hd := hb d (by simp)
  clear hb hl
  have e0 : wrap64 a = a := wrapN (by omega) (by omega)
  have e1 : wrap64 b = b := wrapN (by omega) (by omega)
  have e4 : wrap64 c = c := wrapN (by omega) (by omega)
  have e5 : wrap64 d = d := wrapN (by omega) (by omega)
  have e2 : wrap64 (a * 256) = a * 256 := wrapN (by omega) (by omega)
  have e6 : wrap64 ((a * 256 + b) * 256) = (a * 256 + b) * 256 := wrapN (by omega) (by omega)
  have e8 : wrap64 (((a * 256 + b) * 256 + c) * 256) = ((a * 256 + b) * 256 + c) * 256 := wrapN (by omega) (by omega)
  have z0 : wrap64 0 = 0 := wrapN (by omega) (by omega)
  have z1 : wrap64 1 = 1 := wrapN (by omega) (by omega)
  have z2 : wrap64 2 = 2 := wrapN (by omega) (by omega)
  have z3 : wrap64 3 = 3 := wrapN (by omega) (by omega)
  have z4 : wrap64 4 = 4 := wrapN (by omega) (by omega)
  have o1 : bits .or .i64 0 a = a := by have := or_joinN (x := 0) (y := a) (by omega) (by omega) (by omega) (by omega); simpa using this
  have o2 : bits .or .i64 (a * 256) b = a * 256 + b := or_joinN (by omega) (by omega) (by omega) (by omega)
  have o3 : bits .or .i64 ((a * 256 + b) * 256) c = (a * 256 + b) * 256 + c := or_joinN (by omega) (by omega) (by omega) (by omega)
  have o4 : bits .or .i64 (((a * 256 + b) * 256 + c) * 256) d = ((a * 256 + b) * 256 + c) * 256 + d := or_joinN (by omega) (by omega) (by omega) (by omega)
  have hn : numT [a, b, c, d] = ((a * 256 + b) * 256 + c) * 256 + d := by simp [numT]
  rw [hn]
  simp [option_Number.f, option_Number.j0, option_Number.l0, rd, e0, e1, e2, e4, e5, e6, e8, z0, z1, z2, z3, z4, o1, o2, o3, o4]

/-! ### Kind, Client, Asked -/
def bytesOk (l : List Opt) : Prop := ∀ x ∈ l, ∀ y ∈ x.f1, 0 ≤ y ∧ y ≤ 255
def kindOf (l : List Opt) : Int := if (opFind l 53).1.length = 1 then rd (opFind l 53).1 0 else 0
def clientOf (hw : List Int) (l : List Opt) : ByteArray := if (opFind l 61).1.length < 1 ∨ 32 < (opFind l 61).1.length then strOfNums hw else strOfNums (opFind l 61).1
def askedOf (ci : Int) (l : List Opt) : Int × Int :=
  (if (opFind l 50).1.length = 4 then numT (opFind l 50).1 % 4294967296 else ci, if (opFind l 51).1.length = 4 then numT (opFind l 51).1 else 0)
theorem opb {l : List Opt} (hb : bytesOk l) (code : Int) : ∀ y ∈ (opFind l code).1, 0 ≤ y ∧ y ≤ 255 := opFind_of (p := fun d => ∀ y ∈ d, 0 ≤ y ∧ y ≤ 255) hb (by simp) code
theorem rd_byte {d : List Int} (h : ∀ y ∈ d, 0 ≤ y ∧ y ≤ 255) (hl : d.length = 1) : wrap64 (rd d 0) = rd d 0 := by
  match d, hl with
  | [a], _ =>
    have := h a (by simp)
    have e : rd [a] 0 = a := rfl
    rw [e]
    exact wrapN (by omega) (by omega)
section
variable (a0 a1 a2 a3 a4 a5 a6 a7 : Int) (l8 : List Int) (l9 : List Opt) (hf : ∀ x ∈ l9, x.f1.length ≤ 1000) (hb : bytesOk l9)
include hf hb
theorem kind_eq : packet_Kind.f a0 a1 a2 a3 a4 a5 a6 a7 l8 l9 = some (kindOf l9) := by
  unfold packet_Kind.f kindOf
  rw [find_eq hf]
  simp only [Option.bind_some]
  by_cases c : (opFind l9 53).1.length = 1
  · rw [if_pos (by omega), if_pos (by omega), if_pos c, rd_byte (opb hb 53) c]
  · rw [if_neg (by omega), if_neg c]
omit hb in
theorem client_eq : packet_Client.f a0 a1 a2 a3 a4 a5 a6 a7 l8 l9 = some (clientOf l8 l9) := by
  unfold packet_Client.f clientOf
  rw [find_eq hf]
  simp only [Option.bind_some]
  by_cases c : (opFind l9 61).1.length < 1
  · rw [if_pos (by omega), if_pos (.inl c)]
  · rw [if_neg (by omega)]
    by_cases c2 : 32 < (opFind l9 61).1.length
    · rw [if_pos (by omega), if_pos (.inr c2)]
    · rw [if_neg (by omega), if_neg (by omega)]
theorem told_eq (code : Int) (k : Nat) (hk : 7 ≤ k) : packet_told.f k a0 a1 a2 a3 a4 a5 a6 a7 l8 l9 code = some (if (opFind l9 code).1.length = 4 then (numT (opFind l9 code).1, true) else (0, false)) := by
  unfold packet_told.f
  rw [find_eq hf]
  simp only [Option.bind_some]
  by_cases c : (opFind l9 code).1.length = 4
  · rw [if_pos (by omega), if_pos c, num4 c (opb hb code) k hk]
    rfl
  · rw [if_neg (by omega), if_neg c]
theorem asked_eq (k : Nat) (hk : 7 ≤ k) : packet_Asked.f k a0 a1 a2 a3 a4 a5 a6 a7 l8 l9 = some (askedOf a4 l9) := by
  unfold packet_Asked.f askedOf
  simp only [told_eq a0 a1 a2 a3 a4 a5 a6 a7 l8 l9 hf hb _ k hk, Option.bind_some]
  by_cases c : (opFind l9 50).1.length = 4
  · by_cases d : (opFind l9 51).1.length = 4
    · simp [c, d]
    · simp [c, d]
  · by_cases d : (opFind l9 51).1.length = 4
    · simp [c, d]
    · simp [c, d]
end
/-! ### numbers as data -/
def bytesR (n m : Int) : List Int × Int :=
  if n < 0 then ([], 1) else if m = 1 then (if n < 256 then ([n], 0) else ([], 1)) else if m = 4 then (if n < 4294967296 then ([n / 16777216, n / 65536 % 256, n / 256 % 256, n % 256], 0) else ([], 1)) else ([], 1)
theorem wz (x : Int) (h : -1 ≤ x ∧ x ≤ 1000) : wrap64 x = x := by unfold wrap64; omega
theorem td {n : Int} (h : 0 ≤ n) : Int.tdiv n 256 = n / 256 := Int.tdiv_eq_ediv_of_nonneg h
theorem tm {n : Int} (h : 0 ≤ n) : Int.tmod n 256 = n % 256 := Int.tmod_eq_emod_of_nonneg h
theorem byte1 {n : Int} (h2 : n ≤ 9223372036854775807) : lessorref02_Bytes.f 19 n 1 = some (bytesR n 1) := by
  by_cases h : 0 ≤ n
  · have w0 : wrap64 0 = 0 := wz _ (by omega)
    have w1 : wrap64 (-1) = -1 := wz _ (by omega)
    have hn : ¬ n < 0 := by omega
    have e1 : wrap64 (n / 256) = n / 256 := wrapN (by omega) (by omega)
    by_cases hb : n < 256
    · have hd : ¬ 0 < n / 256 := by omega
      have he : n % 256 = n := by omega
      simp [lessorref02_Bytes.f, lessorref02_Bytes.j0, lessorref02_Bytes.l0, bytesR, hn, hb, w0, w1, td h, tm h, e1, hd, he]
    · have hd : 0 < n / 256 := by omega
      simp [lessorref02_Bytes.f, lessorref02_Bytes.j0, lessorref02_Bytes.l0, bytesR, hn, hb, w0, w1, td h, tm h, e1, hd]
  · have h : n < 0 := by omega
    simp [lessorref02_Bytes.f, lessorref02_Bytes.j0, bytesR, h]
theorem byte4 {n : Int} (hm : n ≤ 9223372036854775807) : lessorref02_Bytes.f 19 n 4 = some (bytesR n 4) := by
  by_cases h : 0 ≤ n
  · have w0 : wrap64 0 = 0 := wz _ (by omega)
    have w1' : wrap64 1 = 1 := wz _ (by omega)
    have w2' : wrap64 2 = 2 := wz _ (by omega)
    have w3' : wrap64 3 = 3 := wz _ (by omega)
    have w1 : wrap64 (-1) = -1 := wz _ (by omega)
    have hn : ¬ n < 0 := by omega
    have e1 : wrap64 (n / 256) = n / 256 := wrapN (by omega) (by omega)
    have e2 : wrap64 (n / 256 / 256) = n / 256 / 256 := wrapN (by omega) (by omega)
    have e3 : wrap64 (n / 256 / 256 / 256) = n / 256 / 256 / 256 := wrapN (by omega) (by omega)
    have e4 : wrap64 (n / 256 / 256 / 256 / 256) = n / 256 / 256 / 256 / 256 := wrapN (by omega) (by omega)
    have h' : 0 ≤ n / 256 := by omega
    have h'' : 0 ≤ n / 256 / 256 := by omega
    have h3 : 0 ≤ n / 256 / 256 / 256 := by omega
    by_cases hb : n < 4294967296
    · have hd : ¬ 0 < n / 256 / 256 / 256 / 256 := by omega
      have he : n / 16777216 % 256 = n / 16777216 := by omega
      have he3 : n / 256 / 256 / 256 % 256 = n / 16777216 := by omega
      have he2 : n / 256 / 256 % 256 = n / 65536 % 256 := by omega
      simp [lessorref02_Bytes.f, lessorref02_Bytes.j0, lessorref02_Bytes.l0, bytesR, hn, hb, w0, w1, w1', w2', w3', td h, tm h, td h', tm h', td h'', tm h'', td h3, tm h3, e1, e2, e3, e4, hd, he3, he2, he, List.replicate]
    · have hd : 0 < n / 256 / 256 / 256 / 256 := by omega
      simp [lessorref02_Bytes.f, lessorref02_Bytes.j0, lessorref02_Bytes.l0, bytesR, hn, hb, w0, w1, w1', w2', w3', td h, tm h, td h', tm h', td h'', tm h'', td h3, tm h3, e1, e2, e3, e4, hd, List.replicate]
  · have h : n < 0 := by omega
    simp [lessorref02_Bytes.f, lessorref02_Bytes.j0, bytesR, h]
theorem of1 {n : Int} (h : (bytesR n 1).2 = 0) : (bytesR n 1).1 = [n] ∧ 0 ≤ n ∧ n < 256 := by
  unfold bytesR at h ⊢
  split at h
  · cases h
  · rename_i h1
    rw [if_neg h1]
    simp only [if_true] at h ⊢
    split at h
    · rename_i h2
      rw [if_pos h2]
      exact ⟨rfl, by omega, h2⟩
    · cases h
theorem of4 {n : Int} (h : (bytesR n 4).2 = 0) : (bytesR n 4).1 = [n / 16777216, n / 65536 % 256, n / 256 % 256, n % 256] ∧ 0 ≤ n ∧ n < 4294967296 := by
  unfold bytesR at h ⊢
  split at h
  · cases h
  · rename_i h1
    rw [if_neg h1]
    rw [if_neg (by decide), if_pos rfl] at h ⊢
    split at h
    · rename_i h2
      rw [if_pos h2]
      exact ⟨rfl, by omega, h2⟩
    · cases h
theorem bytesR_len (n m : Int) : (bytesR n m).1.length ≤ 4 := by
  unfold bytesR
  repeat' split
  all_goals simp
theorem bytesR_ok (n m : Int) : ∀ x ∈ (bytesR n m).1, 0 ≤ x ∧ x ≤ 255 := by
  intro x hx
  unfold bytesR at hx
  split at hx
  · simp at hx
  · split at hx
    · split at hx
      · simp at hx; omega
      · simp at hx
    · split at hx
      · split at hx
        · simp at hx
          rcases hx with h | h | h | h <;> omega
        · simp at hx
      · simp at hx
def putAll4 (l : List Opt) (x0 x1 x2 : Int) (name : List Int) : List Opt := opPut (opPut (opPut (opPut l 50 (bytesR x0 4).1) 51 (bytesR x1 4).1) 53 (bytesR x2 1).1) 61 name
theorem put_ok {l : List OptF} {code : Int} {data : List Int} (hl : bytesOk l) (hd : ∀ y ∈ data, 0 ≤ y ∧ y ≤ 255) : bytesOk (opPut l code data) := by
  intro x hx
  unfold opPut at hx
  split at hx
  · rcases List.mem_append.1 hx with hx | hx
    · rcases List.mem_append.1 hx with hx | hx
      · exact hl x (List.mem_of_mem_take hx)
      · rw [List.mem_singleton.1 hx]; exact hd
    · exact hl x (List.mem_of_mem_drop (List.mem_filter.1 hx).1)
  · rcases List.mem_append.1 hx with hx | hx
    · exact hl x hx
    · rw [List.mem_singleton.1 hx]; exact hd
theorem all4_len {l : List Opt} (h : ∀ x ∈ l, x.f1.length ≤ 1000) (x0 x1 x2 : Int) {name : List Int} (hn : name.length ≤ 32) : ∀ x ∈ putAll4 l x0 x1 x2 name, x.f1.length ≤ 1000 :=
  put_bytes (put_bytes (put_bytes (put_bytes h (by have := bytesR_len x0 4; omega)) (by have := bytesR_len x1 4; omega)) (by have := bytesR_len x2 1; omega)) (by omega)
theorem all4_ok {l : List Opt} (h : bytesOk l) (x0 x1 x2 : Int) {name : List Int} (hn : ∀ y ∈ name, 0 ≤ y ∧ y ≤ 255) : bytesOk (putAll4 l x0 x1 x2 name) :=
  put_ok (put_ok (put_ok (put_ok h (bytesR_ok x0 4)) (bytesR_ok x1 4)) (bytesR_ok x2 1)) hn
theorem all4_asked (l : List Opt) {x0 x1 : Int} (x2 : Int) (name : List Int) (ci : Int) (h0 : (bytesR x0 4).2 = 0) (h1 : (bytesR x1 4).2 = 0) : askedOf ci (putAll4 l x0 x1 x2 name) = (x0, x1) := by
  obtain ⟨e0, a0, b0⟩ := of4 h0
  obtain ⟨e1, a1, b1⟩ := of4 h1
  have f0 : opFind (putAll4 l x0 x1 x2 name) 50 = ((bytesR x0 4).1, true) := by
    unfold putAll4
    rw [put_other _ _ (by decide), put_other _ _ (by decide), put_other _ _ (by decide), put_found]
  have f1 : opFind (putAll4 l x0 x1 x2 name) 51 = ((bytesR x1 4).1, true) := by
    unfold putAll4
    rw [put_other _ _ (by decide), put_other _ _ (by decide), put_found]
  unfold askedOf
  rw [f0, f1]
  simp only [e0, e1, List.length_cons, List.length_nil, Nat.reduceAdd, if_true, Prod.mk.injEq]
  refine ⟨?_, ?_⟩
  · simp only [numT, List.foldl_cons, List.foldl_nil]; omega
  · simp only [numT, List.foldl_cons, List.foldl_nil]; omega
theorem all4_kind (l : List Opt) (x0 x1 : Int) {x2 : Int} (name : List Int) (h2 : (bytesR x2 1).2 = 0) : kindOf (putAll4 l x0 x1 x2 name) = x2 := by
  obtain ⟨e2, _, _⟩ := of1 h2
  have f2 : opFind (putAll4 l x0 x1 x2 name) 53 = ((bytesR x2 1).1, true) := by
    unfold putAll4
    rw [put_other _ _ (by decide), put_found]
  unfold kindOf
  rw [f2]
  simp only [e2]
  rfl
theorem all4_client (hw : List Int) (l : List Opt) (x0 x1 x2 : Int) {name : List Int} (hn : name.length ≤ 32) : clientOf hw (putAll4 l x0 x1 x2 name) = if name.length = 0 then strOfNums hw else strOfNums name := by
  have f3 : opFind (putAll4 l x0 x1 x2 name) 61 = (name, true) := by
    unfold putAll4
    rw [put_found]
  unfold clientOf
  rw [f3]
  by_cases h : name.length = 0
  · rw [if_pos h, if_pos (.inl (by show name.length < 1; omega))]
  · rw [if_neg h, if_neg (by show ¬ (name.length < 1 ∨ 32 < name.length); omega)]
theorem few3 (a0 a1 a2 a3 a4 a5 a6 a7 : Int) (l8 : List Int) (l9 : List Opt) : ∃ b : Bool, lessorref03_Few.f 500 a0 a1 a2 a3 a4 a5 a6 a7 l8 l9 = some b ∧ (b = true → few l9) := by
  obtain ⟨b, hb, hf⟩ := few_eq l9 500 (by omega)
  unfold lessorref03_Few.f
  rw [hb]
  simp only [Option.bind_some]
  cases b with
  | false => exact ⟨false, by simp, fun h => by cases h⟩
  | true => exact ⟨_, by rw [if_pos rfl], fun _ => hf.1 rfl⟩
end Go.Proofs.Ytmbfdmceameghaa.PA
