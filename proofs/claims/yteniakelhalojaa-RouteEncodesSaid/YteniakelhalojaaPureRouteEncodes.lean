/- The statement RouteEncodes over numbers and lists. No condition. -/
import Derived.Test.YteniakelhalojaaStRouteEncodes
import Derived.Test.YteniakelhalojaaPRouteA
import Derived.Test.YteniakelhalojaaHEncode
namespace Go.Proofs.Yteniakelhalojaa.Pure
open Go.RowKit Go.Proofs.Yteniakelhalojaa Go.Proofs.Yteniakelhalojaa.Pn Go.Proofs.Yteniakelhalojaa.PR Go.Proofs.YteniakelhalojaaW.PrintWords Go.Proofs.YteniakelhalojaaW.PrintLast
set_option linter.unusedVariables false
set_option linter.unusedSimpArgs false

theorem rtRight_eq (x : Rt) (h : okU x.f0) : rtRight x = decide (okR x) := by
  unfold rtRight
  rw [right_eq x h]
  rfl
theorem tdivB (a : Int) (m : Int) (h : 0 ≤ a) (hm : 0 < m) : Int.tdiv a m = a / m := Int.tdiv_eq_ediv_of_nonneg h
theorem ref_bytes (x : Rt) (h0 : okU x.f0) (h2 : okU x.f2) (hb : 0 ≤ x.f1 ∧ x.f1 ≤ 32) : lessorref25_bytes.f x.f0 x.f1 x.f2 = some (rtEnc1 x) := by
  obtain ⟨a0, a1⟩ := h0
  obtain ⟨c0, c1⟩ := h2
  have e : wrap64 (Int.tdiv (wrap64 (x.f1 + 7)) 8) = (rtOct x.f1 : Int) := by
    have e1 : wrap64 (x.f1 + 7) = x.f1 + 7 := wrapR (by omega) (by omega)
    rw [e1, Int.tdiv_eq_ediv_of_nonneg (by omega)]
    unfold rtOct
    rw [wrapR (by omega) (by omega)]; omega
  have hl : rtOct x.f1 ≤ 4 := by unfold rtOct; omega
  have r4 : ∀ a : Int, 0 ≤ a → a < 4294967296 → ([(Int.tdiv a 16777216 % 4294967296) % 256, (Int.tdiv a 65536 % 4294967296) % 256, (Int.tdiv a 256 % 4294967296) % 256, a % 256] : List Int) = rt4 a := by
    intro a p q
    unfold rt4 rtB
    rw [tdivB a _ p (by omega), tdivB a _ p (by omega), tdivB a _ p (by omega)]
    simp <;> omega
  unfold lessorref25_bytes.f
  rw [e, r4 x.f0 a0 a1, r4 x.f2 c0 c1]
  simp only [Option.bind_some]
  have hrl : ∀ a, (rt4 a).length = 4 := fun _ => rfl
  rw [if_pos (by omega), if_pos (by rw [hrl]; omega), Int.toNat_natCast, if_pos (by rw [List.length_take, hrl]; simp; omega)]
  rw [if_pos (by rw [List.length_append, List.length_take, hrl, hrl]; simp; omega)]
  rfl
theorem rtEnc_take_le (l : List Rt) (i : Nat) : (rtEnc (l.take i)).length ≤ (rtEnc l).length := by
  have : rtEnc l = rtEnc (l.take i) ++ rtEnc (l.drop i) := by unfold rtEnc; rw [← List.flatten_append, ← List.map_append, List.take_append_drop]
  rw [this, List.length_append]; omega
def encRR (l : List Rt) : List Int × Int := if ∀ x ∈ l, okR x then (if 255 < (rtEnc l).length then ([], 3) else (rtEnc l, 0)) else ([], 1)
theorem enc_eq (l : List Rt) (hl : l.length ≤ 1000000) (hu : ∀ x ∈ l, okU x.f0 ∧ okU x.f2) : route_Encode.f l = some (encRR l) := by
  unfold route_Encode.f encRR
  rw [if_pos ⟨by omega, fun x hx => hu x hx⟩]
  have e : (∀ x ∈ l, rtRight x = true) ↔ (∀ x ∈ l, okR x) := by
    constructor
    · intro h x hx
      have := h x hx
      rw [rtRight_eq x (hu x hx).1] at this
      exact of_decide_eq_true this
    · intro h x hx
      rw [rtRight_eq x (hu x hx).1]
      exact decide_eq_true (h x hx)
  by_cases c : ∀ x ∈ l, okR x
  · rw [if_pos (e.2 c), if_pos c]
  · rw [if_neg (fun h => c (e.1 h)), if_neg c]
theorem ref_l1 (l : List Rt) (hl : l.length ≤ 1000000) (hu : ∀ x ∈ l, okU x.f0 ∧ okU x.f2) (hr : ∀ x ∈ l, okR x) : ∀ (d i k : Nat), l.length ≤ i + d → i ≤ l.length → d < k → (rtEnc (l.take i)).length ≤ 255 →
    lessorref25_Encode.l1 k l (rtEnc (l.take i)) (i : Int) = some (if 255 < (rtEnc l).length then ([], 3) else (rtEnc l, 0)) := by
  intro d
  induction d with
  | zero =>
    intro i k h1 h2 hk hs
    obtain ⟨k, rfl⟩ : ∃ m, k = m + 1 := ⟨k - 1, by omega⟩
    rw [List.take_of_length_le (by omega)] at hs ⊢
    simp only [lessorref25_Encode.l1]
    rw [if_neg (by omega), if_neg (by omega)]
  | succ d ih =>
    intro i k h1 h2 hk hs
    obtain ⟨k, rfl⟩ : ∃ m, k = m + 1 := ⟨k - 1, by omega⟩
    by_cases h : i < l.length
    · simp only [lessorref25_Encode.l1]
      have ht1 := rtEnc_take_le l (i + 1)
      have hx := hu l[i] (List.getElem_mem h)
      have hb := hr l[i] (List.getElem_mem h)
      have e : rtEnc (l.take i) ++ rtEnc1 l[i] = rtEnc (l.take (i + 1)) := by
        unfold rtEnc
        rw [List.take_succ_eq_append_getElem h, List.map_append, List.flatten_append, List.map_cons, List.map_nil, List.flatten_cons, List.flatten_nil, List.append_nil]
      have hl1 : (rtEnc1 l[i]).length ≤ 9 := by simp [rtEnc1, rt4]; omega
      rw [if_pos (by omega), if_pos (by omega), rd_rt l h, ref_bytes l[i] hx.1 hx.2 ⟨hb.1, hb.2.1⟩]
      simp only [Option.bind_some]
      rw [if_pos (by omega), e]
      by_cases c : 255 < (rtEnc (l.take (i + 1))).length
      · rw [if_pos (by omega), if_pos (by omega)]
      · rw [if_neg (by omega), wrapR (by omega) (by omega)]
        exact ih (i + 1) k (by omega) (by omega) (by omega) (by omega)
    · obtain rfl : i = l.length := by omega
      rw [List.take_length] at hs ⊢
      simp only [lessorref25_Encode.l1]
      rw [if_neg (by omega), if_neg (by omega)]
theorem ref_l0 (l : List Rt) (hl : l.length ≤ 1000000) (hu : ∀ x ∈ l, okU x.f0 ∧ okU x.f2) : ∀ (d i k : Nat), l.length ≤ i + d → i ≤ l.length → d + l.length + 50 < k → (∀ x ∈ l.take i, okR x) →
    lessorref25_Encode.l0 k l (i : Int) = some (encRR l) := by
  have fin : ∀ k, l.length + 50 < k → (∀ x ∈ l, okR x) → lessorref25_Encode.l0 k l (l.length : Int) = some (encRR l) := by
    intro k hk ok
    obtain ⟨k, rfl⟩ : ∃ m, k = m + 1 := ⟨k - 1, by omega⟩
    simp only [lessorref25_Encode.l0]
    rw [if_neg (by omega)]
    unfold encRR
    rw [if_pos ok]
    exact ref_l1 l hl hu ok l.length 0 k (by omega) (by omega) (by omega) (by simp [rtEnc])
  intro d
  induction d with
  | zero =>
    intro i k h1 h2 hk ho
    obtain rfl : i = l.length := by omega
    rw [List.take_length] at ho
    exact fin k (by omega) ho
  | succ d ih =>
    intro i k h1 h2 hk ho
    by_cases h : i < l.length
    · obtain ⟨k, rfl⟩ : ∃ m, k = m + 1 := ⟨k - 1, by omega⟩
      have hx := hu l[i] (List.getElem_mem h)
      simp only [lessorref25_Encode.l0]
      rw [if_pos (by omega), if_pos (by omega), rd_rt l h, ref_right_eq l[i] hx.1 k (by omega)]
      simp only [Option.bind_some]
      by_cases c : okR l[i]
      · rw [decide_eq_true c, if_pos rfl, wrapR (by omega) (by omega)]
        refine ih (i + 1) k (by omega) (by omega) (by omega) ?_
        intro x hx'
        rw [List.take_succ_eq_append_getElem h, List.mem_append, List.mem_singleton] at hx'
        rcases hx' with hx' | rfl
        · exact ho x hx'
        · exact c
      · rw [decide_eq_false c, if_neg (by decide)]
        unfold encRR
        rw [if_neg (fun hall => c (hall _ (List.getElem_mem h)))]
    · obtain rfl : i = l.length := by omega
      rw [List.take_length] at ho
      exact fin k (by omega) ho
theorem ref_enc_eq (l : List Rt) (hl : l.length ≤ 1000000) (hu : ∀ x ∈ l, okU x.f0 ∧ okU x.f2) (k : Nat) (hk : 2 * l.length + 50 < k) : lessorref25_Encode.f k l = some (encRR l) := by
  unfold lessorref25_Encode.f
  exact ref_l0 l hl hu l.length 0 k (by omega) (by omega) (by omega) (by simp)

theorem RouteEncodes : routeEncodes.Pure := by
  intro l hl hx
  refine ⟨1000, ?_⟩
  have A : lessorlaw25_awake.f = some true := by decide +kernel
  have hu : ∀ x ∈ l, okU x.f0 ∧ okU x.f2 := fun x hxl => ⟨okU_wf (hx x hxl).1, okU_wf (hx x hxl).2.2⟩
  unfold lessorlaw25_RouteEncodes.f
  rw [A]
  simp only [Option.bind_some, if_true, lessorlaw25_RouteEncodes.j0]
  by_cases c : (l.length : Int) > 200
  · simp only [decide_eq_true c, if_true]
  · simp only [decide_eq_false c, Bool.false_eq_true, if_false]
    rw [enc_eq l (by omega) hu, ref_enc_eq l (by omega) hu 999 (by omega)]
    simp only [Option.bind_some]
    cases l with
    | nil => simp
    | cons y l =>
      have hy := hu y (by simp)
      have e0 : rd_T32 (y :: l) 0 = y := rfl
      rw [e0, right_eq y hy.1, ref_right_eq y hy.1 999 (by omega)]
      simp

end Go.Proofs.Yteniakelhalojaa.Pure
