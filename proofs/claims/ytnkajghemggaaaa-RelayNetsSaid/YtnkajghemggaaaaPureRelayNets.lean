/- The statement RelayNets over numbers and lists. No condition. -/
import Derived.Test.YtnkajghemggaaaaStRelayNets
import Derived.Test.YtnkajghemggaaaaPRoute
namespace Go.Proofs.Ytnkajghemggaaaa.Pure
open Go.RowKit Go.Proofs.Ytnkajghemggaaaa Go.Proofs.Ytnkajghemggaaaa.Pn Go.Proofs.Ytnkajghemggaaaa.PR Go.Proofs.YtnkajghemggaaaaW.PrintWords Go.Proofs.YtnkajghemggaaaaW.PrintLast
set_option linter.unusedVariables false
set_option linter.unusedSimpArgs false

abbrev Opt := S48
theorem rd_opt (l : List Opt) {i : Nat} (h : i < l.length) : rd_T48 l (i : Int) = l[i] := by
  unfold rd_T48
  rw [Int.toNat_natCast, List.getD_eq_getElem?_getD, List.getElem?_eq_getElem h]
  rfl
theorem few_loop (l : List Opt) (hl : l.length ≤ 100) : ∀ (d i k : Nat), l.length ≤ i + d → i ≤ l.length → d < k → ∃ b, lessorref02_Few.l0 k l (i : Int) = some b := by
  intro d
  induction d with
  | zero =>
    intro i k h1 h2 hk
    obtain ⟨k, rfl⟩ : ∃ m, k = m + 1 := ⟨k - 1, by omega⟩
    simp only [lessorref02_Few.l0]
    rw [if_neg (by omega)]
    exact ⟨_, rfl⟩
  | succ d ih =>
    intro i k h1 h2 hk
    obtain ⟨k, rfl⟩ : ∃ m, k = m + 1 := ⟨k - 1, by omega⟩
    simp only [lessorref02_Few.l0]
    by_cases h : i < l.length
    · rw [if_pos (by omega), if_pos (by omega), rd_opt l h, wrapR (by omega) (by omega)]
      split
      · exact ⟨_, rfl⟩
      · exact ih (i + 1) k (by omega) (by omega) (by omega)
    · rw [if_neg (by omega)]
      exact ⟨_, rfl⟩
theorem few2_total (l : List Opt) (k : Nat) (hk : 101 < k) : ∃ b, lessorref02_Few.f k l = some b := by
  unfold lessorref02_Few.f
  split
  · exact ⟨_, rfl⟩
  · exact few_loop l (by omega) l.length 0 k (by omega) (by omega) (by omega)

theorem RelayNets : relayNets.Pure := by
  intro l p hl hx hp
  refine ⟨500, ?_⟩
  obtain ⟨h0, h1, h2, h3, h4, h5, h6, h7, h8, h9⟩ := hp
  have A : lessorlaw26_awake.f 500 = some true := by decide +kernel
  obtain ⟨b, hb⟩ := few2_total p.f9 500 (by omega)
  unfold lessorlaw26_RelayNets.f lessorref03_Few.f
  rw [A, hb]
  simp only [Option.bind_some, if_true, lessorlaw26_RelayNets.j0]
  have u4 : okU p.f4 := okU_wf h4
  have u7 : okU p.f7 := okU_wf h7
  have hu : ∀ x ∈ l, okU x.f0 := by
    intro x hxl
    exact okU_wf (hx x hxl).1
  cases b with
  | false => simp
  | true =>
    simp only [if_true, Option.bind_some]
    by_cases c : (p.f8.length : Int) < 1000
    · simp only [decide_eq_true c, if_true]
      by_cases d : (l.length : Int) > 100
      · simp only [decide_eq_true d, if_true]
      · simp only [decide_eq_false d, Bool.false_eq_true, if_false]
        obtain ⟨r4, a4, b4, _⟩ := best_eq l p.f4 (by omega) hu u4 499 (by omega)
        obtain ⟨r7, a7, b7, _⟩ := best_eq l p.f7 (by omega) hu u7 499 (by omega)
        unfold relay_Net.f lessorref26_Net.f
        rw [a4, b4, a7, b7]
        simp only [Option.bind_some]
        split <;> (try split) <;> simp
    · simp only [decide_eq_false c, Bool.false_eq_true, if_false]

end Go.Proofs.Ytnkajghemggaaaa.Pure
