/- The statement OptionNumbers over numbers and lists: data as a number, a number as data, and back. No condition. -/
import Derived.Test.YtcefkkcmpdlnjaaPrF4
namespace Go.Proofs.Ytcefkkcmpdlnjaa.Pure
open Go.RowKit Go.Proofs.Ytcefkkcmpdlnjaa Go.Proofs.Ytcefkkcmpdlnjaa.Pr Go.Proofs.YtcefkkcmpdlnjaaW.PrintWords Go.Proofs.YtcefkkcmpdlnjaaW.PrintLast Go.Proofs.YtcefkkcmpdlnjaaW.PrintMore
set_option linter.unusedVariables false
set_option linter.unusedSimpArgs false

theorem wrapN {x : Int} (h0 : 0 ≤ x) (h1 : x < 9223372036854775808) : wrap64 x = x := by unfold wrap64; omega
theorem u8_wfN {x : Int} (h : (Lit.int .u8 x).wf = true) : 0 ≤ x ∧ x ≤ 255 := by
  simpa [Lit.wf, IntKind.min, IntKind.max, IntKind.signed, IntKind.bits] using h
theorem i64_wfN {x : Int} (h : (Lit.int .i64 x).wf = true) : -9223372036854775808 ≤ x ∧ x ≤ 9223372036854775807 := by
  simpa [Lit.wf, IntKind.min, IntKind.max, IntKind.signed, IntKind.bits] using h
theorem wraps_i64N (n : Int) (h₀ : 0 ≤ n) (h₁ : n < 2 ^ 40) : IntKind.i64.wrap n = n := by rw [IntKind.wrap_i64]; omega
theorem or_joinN {x y : Int} (h0 : 0 ≤ x) (h1 : x ≤ 16777215) (h2 : 0 ≤ y) (h3 : y ≤ 255) : bits .or .i64 (x * 256) y = x * 256 + y :=
  bits_join .i64 40 (by decide) wraps_i64N 8 (x * 256) y (by omega) (by omega) (by omega) h2 (by omega) (by omega)

theorem awakeN : lessorlaw02_awake.f 20 = some true := by decide +kernel

/-! ### numbers of data -/
def numOf (l : List Int) : Int := l.foldl (fun n c => n * 256 + c) 0
def numR (l : List Int) : Int × Int := if l.length = 1 ∨ l.length = 2 ∨ l.length = 4 then (numOf l, 0) else (0, 2)

theorem num1 {a : Int} (ha : 0 ≤ a ∧ a ≤ 255) : option_Number.f 19 [a] = some (a, 0) ∧ lessorref02_Number.f 19 [a] = some (a, 0) := by
  have e0 : wrap64 a = a := wrapN (by omega) (by omega)
  have o1 : bits .or .i64 (0 * 256) a = 0 * 256 + a := or_joinN (by omega) (by omega) (by omega) (by omega)
  constructor
  · simp [option_Number.f, option_Number.j0, option_Number.l0, rd, e0, wrap64]
    simpa using o1
  · simp [lessorref02_Number.f, lessorref02_Number.j0, lessorref02_Number.l0, rd, wrap64]
    omega
theorem num2 {a b : Int} (ha : 0 ≤ a ∧ a ≤ 255) (hb : 0 ≤ b ∧ b ≤ 255) : option_Number.f 19 [a, b] = some (a * 256 + b, 0) ∧ lessorref02_Number.f 19 [a, b] = some (a * 256 + b, 0) := by
  have e0 : wrap64 a = a := wrapN (by omega) (by omega)
  have e1 : wrap64 b = b := wrapN (by omega) (by omega)
  have e2 : wrap64 (a * 256) = a * 256 := wrapN (by omega) (by omega)
  have e3 : wrap64 (a * 256 + b) = a * 256 + b := wrapN (by omega) (by omega)
  have z0 : wrap64 0 = 0 := wrapN (by omega) (by omega)
  have z1 : wrap64 1 = 1 := wrapN (by omega) (by omega)
  have z2 : wrap64 2 = 2 := wrapN (by omega) (by omega)
  have o1 : bits .or .i64 0 a = a := by have := or_joinN (x := 0) (y := a) (by omega) (by omega) (by omega) (by omega); simpa using this
  have o2 : bits .or .i64 (a * 256) b = a * 256 + b := or_joinN (by omega) (by omega) (by omega) (by omega)
  constructor
  · simp [option_Number.f, option_Number.j0, option_Number.l0, rd, e0, e1, e2, z0, z1, z2, o1, o2]
  · simp [lessorref02_Number.f, lessorref02_Number.j0, lessorref02_Number.l0, rd, e0, e1, e2, e3, z0, z1, z2]
theorem num4 {a b c d : Int} (ha : 0 ≤ a ∧ a ≤ 255) (hb : 0 ≤ b ∧ b ≤ 255) (hc : 0 ≤ c ∧ c ≤ 255) (hd : 0 ≤ d ∧ d ≤ 255) :
    option_Number.f 19 [a, b, c, d] = some (((a * 256 + b) * 256 + c) * 256 + d, 0) ∧ lessorref02_Number.f 19 [a, b, c, d] = some (((a * 256 + b) * 256 + c) * 256 + d, 0) := by
  have e0 : wrap64 a = a := wrapN (by omega) (by omega)
  have e1 : wrap64 b = b := wrapN (by omega) (by omega)
  have e4 : wrap64 c = c := wrapN (by omega) (by omega)
  have e5 : wrap64 d = d := wrapN (by omega) (by omega)
  have e2 : wrap64 (a * 256) = a * 256 := wrapN (by omega) (by omega)
  have e3 : wrap64 (a * 256 + b) = a * 256 + b := wrapN (by omega) (by omega)
  have e6 : wrap64 ((a * 256 + b) * 256) = (a * 256 + b) * 256 := wrapN (by omega) (by omega)
  have e7 : wrap64 ((a * 256 + b) * 256 + c) = (a * 256 + b) * 256 + c := wrapN (by omega) (by omega)
  have e8 : wrap64 (((a * 256 + b) * 256 + c) * 256) = ((a * 256 + b) * 256 + c) * 256 := wrapN (by omega) (by omega)
  have e9 : wrap64 (((a * 256 + b) * 256 + c) * 256 + d) = ((a * 256 + b) * 256 + c) * 256 + d := wrapN (by omega) (by omega)
  have z0 : wrap64 0 = 0 := wrapN (by omega) (by omega)
  have z1 : wrap64 1 = 1 := wrapN (by omega) (by omega)
  have z2 : wrap64 2 = 2 := wrapN (by omega) (by omega)
  have z3 : wrap64 3 = 3 := wrapN (by omega) (by omega)
  have z4 : wrap64 4 = 4 := wrapN (by omega) (by omega)
  have o1 : bits .or .i64 0 a = a := by have := or_joinN (x := 0) (y := a) (by omega) (by omega) (by omega) (by omega); simpa using this
  have o2 : bits .or .i64 (a * 256) b = a * 256 + b := or_joinN (by omega) (by omega) (by omega) (by omega)
  have o3 : bits .or .i64 ((a * 256 + b) * 256) c = (a * 256 + b) * 256 + c := or_joinN (by omega) (by omega) (by omega) (by omega)
  have o4 : bits .or .i64 (((a * 256 + b) * 256 + c) * 256) d = ((a * 256 + b) * 256 + c) * 256 + d := or_joinN (by omega) (by omega) (by omega) (by omega)
  constructor
  · simp [option_Number.f, option_Number.j0, option_Number.l0, rd, e0, e1, e2, e4, e5, e6, e8, z0, z1, z2, z3, z4, o1, o2, o3, o4]
  · simp [lessorref02_Number.f, lessorref02_Number.j0, lessorref02_Number.l0, rd, e0, e1, e2, e3, e4, e5, e6, e7, e8, e9, z0, z1, z2, z3, z4]
theorem numX {l : List Int} (h : l.length ≠ 1 ∧ l.length ≠ 2 ∧ l.length ≠ 4) : option_Number.f 19 l = some (0, 2) ∧ lessorref02_Number.f 19 l = some (0, 2) := by
  constructor
  · unfold option_Number.f
    rw [if_neg (by omega), if_neg (by omega), if_neg (by omega)]
  · unfold lessorref02_Number.f
    rw [if_neg (by omega), if_neg (by omega)]
    have : ((l.length : Int) != 4) = true := by rw [bne_iff_ne]; omega
    rw [this]
    simp [lessorref02_Number.j0]

/-! ### data of numbers -/
theorem byteX {n m : Int} (h : (m ≠ 1 ∧ m ≠ 2 ∧ m ≠ 4)) : option_Bytes.f 19 n m = some ([], 1) ∧ lessorref02_Bytes.f 19 n m = some ([], 1) := by
  constructor
  · unfold option_Bytes.f
    rw [if_neg h.1, if_neg h.2.1, if_neg h.2.2]
  · unfold lessorref02_Bytes.f
    rw [if_neg h.1, if_neg h.2.1, if_neg h.2.2]
    simp [lessorref02_Bytes.j0]
def bytesR (n m : Int) : List Int × Int :=
  if n < 0 then ([], 1) else if m = 1 then (if n < 256 then ([n], 0) else ([], 1)) else if m = 2 then (if n < 65536 then ([n / 256, n % 256], 0) else ([], 1))
  else if m = 4 then (if n < 4294967296 then ([n / 16777216, n / 65536 % 256, n / 256 % 256, n % 256], 0) else ([], 1)) else ([], 1)

theorem shl8 : shl .i64 1 8 = 256 := by decide +kernel
theorem shl16 : shl .i64 1 16 = 65536 := by decide +kernel
theorem shl32 : shl .i64 1 32 = 4294967296 := by decide +kernel
theorem shr0 (n : Int) : shr .i64 n 0 = n := by show n / 2 ^ 0 = n; simp
theorem shr8 (n : Int) : shr .i64 n 8 = n / 256 := rfl
theorem shr16 (n : Int) : shr .i64 n 16 = n / 65536 := rfl
theorem shr24 (n : Int) : shr .i64 n 24 = n / 16777216 := rfl
theorem wz (x : Int) (h : -1 ≤ x ∧ x ≤ 1000) : wrap64 x = x := by unfold wrap64; omega
theorem td {n : Int} (h : 0 ≤ n) : Int.tdiv n 256 = n / 256 := Int.tdiv_eq_ediv_of_nonneg h
theorem tm {n : Int} (h : 0 ≤ n) : Int.tmod n 256 = n % 256 := Int.tmod_eq_emod_of_nonneg h
theorem byteNeg {n m : Int} (h : n < 0) : option_Bytes.f 19 n m = some ([], 1) ∧ lessorref02_Bytes.f 19 n m = some ([], 1) := by
  constructor
  · simp [option_Bytes.f, option_Bytes.j0, option_Bytes.j1, h]
  · simp [lessorref02_Bytes.f, lessorref02_Bytes.j0, h]
theorem byte1 {n : Int} (h : 0 ≤ n) (h2 : n ≤ 9223372036854775807) : option_Bytes.f 19 n 1 = some (bytesR n 1) ∧ lessorref02_Bytes.f 19 n 1 = some (bytesR n 1) := by
  have w8 : wrap64 8 = 8 := wz _ (by omega)
  have w0 : wrap64 0 = 0 := wz _ (by omega)
  have w1 : wrap64 (-1) = -1 := wz _ (by omega)
  have hn : ¬ n < 0 := by omega
  have e1 : wrap64 (n / 256) = n / 256 := wrapN (by omega) (by omega)
  by_cases hb : n < 256
  · have hc : ¬ 256 ≤ n := by omega
    have hd : ¬ 0 < n / 256 := by omega
    have he : n % 256 = n := by omega
    constructor
    · simp [option_Bytes.f, option_Bytes.j0, option_Bytes.j1, option_Bytes.l0, bytesR, hn, hb, hc, w8, w0, w1, shl8, shr0, he]
    · simp [lessorref02_Bytes.f, lessorref02_Bytes.j0, lessorref02_Bytes.l0, bytesR, hn, hb, w0, w1, td h, tm h, e1, hd, he]
  · have hc : 256 ≤ n := by omega
    have hd : 0 < n / 256 := by omega
    constructor
    · simp [option_Bytes.f, option_Bytes.j0, option_Bytes.j1, option_Bytes.l0, bytesR, hn, hb, hc, w8, w0, w1, shl8, shr0]
    · simp [lessorref02_Bytes.f, lessorref02_Bytes.j0, lessorref02_Bytes.l0, bytesR, hn, hb, w0, w1, td h, tm h, e1, hd]
theorem byte2 {n : Int} (h : 0 ≤ n) (h2 : n ≤ 9223372036854775807) : option_Bytes.f 19 n 2 = some (bytesR n 2) ∧ lessorref02_Bytes.f 19 n 2 = some (bytesR n 2) := by
  have w16 : wrap64 16 = 16 := wz _ (by omega)
  have w8 : wrap64 8 = 8 := wz _ (by omega)
  have w0 : wrap64 0 = 0 := wz _ (by omega)
  have w1' : wrap64 1 = 1 := wz _ (by omega)
  have w1 : wrap64 (-1) = -1 := wz _ (by omega)
  have hn : ¬ n < 0 := by omega
  have e1 : wrap64 (n / 256) = n / 256 := wrapN (by omega) (by omega)
  have e2 : wrap64 (n / 256 / 256) = n / 256 / 256 := wrapN (by omega) (by omega)
  have h' : 0 ≤ n / 256 := by omega
  by_cases hb : n < 65536
  · have hc : ¬ 65536 ≤ n := by omega
    have hd : ¬ 0 < n / 256 / 256 := by omega
    have he : n / 256 % 256 = n / 256 := by omega
    constructor
    · simp [option_Bytes.f, option_Bytes.j0, option_Bytes.j1, option_Bytes.l0, bytesR, hn, hb, hc, w16, w8, w0, w1, w1', shl16, shr0, shr8, he]
    · simp [lessorref02_Bytes.f, lessorref02_Bytes.j0, lessorref02_Bytes.l0, bytesR, hn, hb, w0, w1, w1', td h, tm h, td h', tm h', e1, e2, hd, he, List.replicate]
  · have hc : 65536 ≤ n := by omega
    have hd : 0 < n / 256 / 256 := by omega
    constructor
    · simp [option_Bytes.f, option_Bytes.j0, option_Bytes.j1, option_Bytes.l0, bytesR, hn, hb, hc, w16, w8, w0, w1, w1', shl16, shr0]
    · simp [lessorref02_Bytes.f, lessorref02_Bytes.j0, lessorref02_Bytes.l0, bytesR, hn, hb, w0, w1, w1', td h, tm h, td h', tm h', e1, e2, hd, List.replicate]
theorem byte4 {n : Int} (h : 0 ≤ n) (h2 : n ≤ 9223372036854775807) : option_Bytes.f 19 n 4 = some (bytesR n 4) ∧ lessorref02_Bytes.f 19 n 4 = some (bytesR n 4) := by
  have w32 : wrap64 32 = 32 := wz _ (by omega)
  have w24 : wrap64 24 = 24 := wz _ (by omega)
  have w16 : wrap64 16 = 16 := wz _ (by omega)
  have w8 : wrap64 8 = 8 := wz _ (by omega)
  have w0 : wrap64 0 = 0 := wz _ (by omega)
  have w1' : wrap64 1 = 1 := wz _ (by omega)
  have w2' : wrap64 2 = 2 := wz _ (by omega)
  have w3' : wrap64 3 = 3 := wz _ (by omega)
  have w1 : wrap64 (-1) = -1 := wz _ (by omega)
  have hn : ¬ n < 0 := by omega
  have e1 : wrap64 (n / 256) = n / 256 := wrapN (by omega) (by omega)
  have e2 : wrap64 (n / 256 / 256) = n / 256 / 256 := wrapN (by omega) (by omega)
  have e3 : wrap64 (n / 256 / 256 / 256) = n / 256 / 256 / 256 := wrapN (by omega) (by omega)
  have e4 : wrap64 (n / 256 / 256 / 256 / 256) = n / 256 / 256 / 256 / 256 := wrapN (by omega) (by omega)
  have h' : 0 ≤ n / 256 := by omega
  have h'' : 0 ≤ n / 256 / 256 := by omega
  have h3 : 0 ≤ n / 256 / 256 / 256 := by omega
  by_cases hb : n < 4294967296
  · have hc : ¬ 4294967296 ≤ n := by omega
    have hd : ¬ 0 < n / 256 / 256 / 256 / 256 := by omega
    have he : n / 16777216 % 256 = n / 16777216 := by omega
    have he3 : n / 256 / 256 / 256 % 256 = n / 16777216 := by omega
    have he2 : n / 256 / 256 % 256 = n / 65536 % 256 := by omega
    constructor
    · simp [option_Bytes.f, option_Bytes.j0, option_Bytes.j1, option_Bytes.l0, bytesR, hn, hb, hc, w32, w24, w16, w8, w0, w1, w1', w2', w3', shl32, shr0, shr8, shr16, shr24, he]
    · simp [lessorref02_Bytes.f, lessorref02_Bytes.j0, lessorref02_Bytes.l0, bytesR, hn, hb, w0, w1, w1', w2', w3', td h, tm h, td h', tm h', td h'', tm h'', td h3, tm h3, e1, e2, e3, e4, hd, he3, he2, he, List.replicate]
  · have hc : 4294967296 ≤ n := by omega
    have hd : 0 < n / 256 / 256 / 256 / 256 := by omega
    constructor
    · simp [option_Bytes.f, option_Bytes.j0, option_Bytes.j1, option_Bytes.l0, bytesR, hn, hb, hc, w32, w24, w16, w8, w0, w1, w1', shl32, shr0]
    · simp [lessorref02_Bytes.f, lessorref02_Bytes.j0, lessorref02_Bytes.l0, bytesR, hn, hb, w0, w1, w1', w2', w3', td h, tm h, td h', tm h', td h'', tm h'', td h3, tm h3, e1, e2, e3, e4, hd, List.replicate]
theorem bytes_all {n m : Int} (h1 : n ≤ 9223372036854775807) : option_Bytes.f 19 n m = some (bytesR n m) ∧ lessorref02_Bytes.f 19 n m = some (bytesR n m) := by
  by_cases h : n < 0
  · rw [show bytesR n m = ([], 1) from by simp [bytesR, h]]; exact byteNeg h
  · by_cases m1 : m = 1
    · subst m1; exact byte1 (by omega) h1
    · by_cases m2 : m = 2
      · subst m2; exact byte2 (by omega) h1
      · by_cases m4 : m = 4
        · subst m4; exact byte4 (by omega) h1
        · rw [show bytesR n m = ([], 1) from by simp [bytesR, h, m1, m2, m4]]; exact byteX ⟨m1, m2, m4⟩

theorem num_all {l : List Int} (hb : ∀ x ∈ l, 0 ≤ x ∧ x ≤ 255) : option_Number.f 19 l = some (numR l) ∧ lessorref02_Number.f 19 l = some (numR l) := by
  match l, hb with
  | [], _ => simpa [numR] using numX (l := []) (by simp)
  | [a], hb => simpa [numR, numOf] using num1 (hb a (by simp))
  | [a, b], hb => simpa [numR, numOf] using num2 (hb a (by simp)) (hb b (by simp))
  | [a, b, c], _ => simpa [numR] using numX (l := [a, b, c]) (by simp)
  | [a, b, c, d], hb => simpa [numR, numOf] using num4 (hb a (by simp)) (hb b (by simp)) (hb c (by simp)) (hb d (by simp))
  | a :: b :: c :: d :: e :: l, _ => simpa [numR] using numX (l := a :: b :: c :: d :: e :: l) (by simp)

/-- A number's data are its data's number. -/
theorem back1 {n m : Int} (h : (bytesR n m).2 = 0) : (∀ x ∈ (bytesR n m).1, 0 ≤ x ∧ x ≤ 255) ∧ numR (bytesR n m).1 = (n, 0) := by
  unfold bytesR at h ⊢
  split at h
  · simp at h
  · rename_i hn
    rw [if_neg hn]
    split at h
    · split at h
      · rename_i h1 h2
        rw [if_pos h1, if_pos h2]
        refine ⟨by simp; omega, by simp [numR, numOf]⟩
      · simp at h
    · rename_i h1
      rw [if_neg h1]
      split at h
      · split at h
        · rename_i h2 h3
          rw [if_pos h2, if_pos h3]
          refine ⟨by simp; omega, by simp [numR, numOf]; omega⟩
        · simp at h
      · rename_i h2
        rw [if_neg h2]
        split at h
        · split at h
          · rename_i h3 h4
            rw [if_pos h3, if_pos h4]
            refine ⟨by simp; omega, by simp [numR, numOf]; omega⟩
          · simp at h
        · simp at h
/-- Data's number has these data. -/
theorem back2 {l : List Int} (hb : ∀ x ∈ l, 0 ≤ x ∧ x ≤ 255) (h : (numR l).2 = 0) : bytesR (numR l).1 (l.length : Int) = (l, 0) := by
  match l, hb with
  | [], _ => simp [numR] at h
  | [a], hb =>
    have := hb a (by simp)
    simp only [numR, numOf, List.length_cons, List.length_nil, List.foldl]
    simp [bytesR]
    rw [if_neg (by omega), if_pos (by omega)]
  | [a, b], hb =>
    have h1 := hb a (by simp)
    have h2 := hb b (by simp)
    simp only [numR, numOf, List.length_cons, List.length_nil, List.foldl]
    simp [bytesR]
    rw [if_neg (by omega), if_pos (by omega)]
    simp
    omega
  | [a, b, c], _ => simp [numR] at h
  | [a, b, c, d], hb =>
    have h1 := hb a (by simp)
    have h2 := hb b (by simp)
    have h3 := hb c (by simp)
    have h4 := hb d (by simp)
    simp only [numR, numOf, List.length_cons, List.length_nil, List.foldl]
    simp [bytesR]
    rw [if_neg (by omega), if_pos (by omega)]
    simp
    omega
  | a :: b :: c :: d :: e :: l, _ => simp [numR] at h
theorem numR_le {l : List Int} (hb : ∀ x ∈ l, 0 ≤ x ∧ x ≤ 255) : (numR l).1 ≤ 9223372036854775807 := by
  match l, hb with
  | [], _ => simp [numR]
  | [a], hb => have := hb a (by simp); simp [numR, numOf]; omega
  | [a, b], hb =>
    have h1 := hb a (by simp)
    have h2 := hb b (by simp)
    simp [numR, numOf]; omega
  | [a, b, c], _ => simp [numR]
  | [a, b, c, d], hb =>
    have h1 := hb a (by simp)
    have h2 := hb b (by simp)
    have h3 := hb c (by simp)
    have h4 := hb d (by simp)
    simp [numR, numOf]; omega
  | a :: b :: c :: d :: e :: l, _ => simp [numR]

theorem up {α : Type} {f : Nat → Option α} {r : α} (hm : ∀ k, LeO (f k) (f (k + 1))) {k : Nat} (h : f k = some r) : ∀ j, k ≤ j → f j = some r := by
  intro j hj
  induction j with
  | zero => obtain rfl : k = 0 := by omega
            exact h
  | succ j ih =>
    by_cases e : k = j + 1
    · subst e; exact h
    · exact hm j r (ih (by omega))

theorem OptionNumbers : lessorlaw02_OptionNumbers.Pure := by
  intro l n m h1 h2 h3 h4 h5
  have hb : ∀ x ∈ l, 0 ≤ x ∧ x ≤ 255 := fun x hx => u8_wfN (h3 x hx)
  have hn := i64_wfN h4
  have N : ∀ {l : List Int} (hb : ∀ x ∈ l, 0 ≤ x ∧ x ≤ 255) (j : Nat), 19 ≤ j → option_Number.f j l = some (numR l) := fun hb j hj => up (fun k => option_Number.mono _ k) (num_all hb).1 j hj
  have N' : ∀ (j : Nat), 19 ≤ j → lessorref02_Number.f j l = some (numR l) := fun j hj => up (fun k => lessorref02_Number.mono _ k) (num_all hb).2 j hj
  have B : ∀ {n m : Int} (hn : n ≤ 9223372036854775807) (j : Nat), 19 ≤ j → option_Bytes.f j n m = some (bytesR n m) := fun hn j hj => up (fun k => option_Bytes.mono _ _ k) (bytes_all hn).1 j hj
  have B' : ∀ (j : Nat), 19 ≤ j → lessorref02_Bytes.f j n m = some (bytesR n m) := fun j hj => up (fun k => lessorref02_Bytes.mono _ _ k) (bytes_all hn.2).2 j hj
  have A : lessorlaw02_awake.f 30 = some true := up (fun k => lessorlaw02_awake.mono k) awakeN 30 (by omega)
  refine ⟨30, ?_⟩
  unfold lessorlaw02_OptionNumbers.f
  rw [A]
  simp only [Option.bind_some, if_true, lessorlaw02_OptionNumbers.j0]
  split
  · rfl
  · rw [N hb 29 (by omega), N' 29 (by omega), B hn.2 29 (by omega), B' 29 (by omega)]
    simp only [Option.bind_some, if_true, lessorlaw02_OptionNumbers.j1, bne_self_eq_false, Bool.false_eq_true, if_false]
    have tailOk : (numR l).2 = 0 → ∀ j, 19 ≤ j → ((option_Bytes.f j (numR l).1 (l.length : Int)).bind fun bt183 => (if bt183.2 = 0 then (some ((strOfNums bt183.1).toList == (strOfNums l).toList)) else (some false))) = some true := by
      intro h0 j hj
      rw [B (numR_le hb) j hj, back2 hb h0]
      simp
    by_cases g : (bytesR n m).2 = 0
    · obtain ⟨b1, b2⟩ := back1 g
      rw [if_pos g, N b1 28 (by omega), b2]
      simp only [Option.bind_some, if_true, lessorlaw02_OptionNumbers.j2, bne_self_eq_false, Bool.false_eq_true, if_false]
      by_cases h0 : (numR l).2 = 0
      · rw [if_pos h0]; exact tailOk h0 27 (by omega)
      · rw [if_neg h0]
    · rw [if_neg g]
      by_cases h0 : (numR l).2 = 0
      · rw [if_pos h0]; exact tailOk h0 28 (by omega)
      · rw [if_neg h0]

end Go.Proofs.Ytcefkkcmpdlnjaa.Pure
