/-
  Routes: the right ones, and the same of equals. No condition.
-/
import Derived.Test.YteniakelhalojaaPRouteQ
import Derived.Test.YteniakelhalojaaHEncode
import Derived.Test.YteniakelhalojaaPnF16
namespace Go.Proofs.Yteniakelhalojaa.PR
open Go.RowKit Go.Proofs.Yteniakelhalojaa Go.Proofs.Yteniakelhalojaa.Pn Go.Proofs.YteniakelhalojaaW.PrintWords Go.Proofs.YteniakelhalojaaW.PrintLast Go.Proofs.YteniakelhalojaaW.PrintMore
set_option linter.unusedVariables false
set_option linter.unusedSimpArgs false

theorem rtRight_eq (x : Rt) (h : okU x.f0) : rtRight x = decide (okR x) := by
  unfold rtRight
  rw [right_eq x h]
  rfl
theorem same_loop (l : List Rt) : ∀ (d i k : Nat), l.length ≤ i + d → i ≤ l.length → l.length ≤ 1000000 → d < k → lessorref25_Same.l0 k l l (i : Int) = some true := by
  intro d
  induction d with
  | zero =>
    intro i k h1 h2 h3 hk
    obtain ⟨k, rfl⟩ : ∃ m, k = m + 1 := ⟨k - 1, by omega⟩
    simp only [lessorref25_Same.l0]
    rw [if_neg (by omega)]
  | succ d ih =>
    intro i k h1 h2 h3 hk
    obtain ⟨k, rfl⟩ : ∃ m, k = m + 1 := ⟨k - 1, by omega⟩
    simp only [lessorref25_Same.l0]
    by_cases h : i < l.length
    · rw [if_pos (by omega), if_pos (by omega), if_pos (by omega), if_neg (by simp), wrapR (by omega) (by omega)]
      exact ih (i + 1) k (by omega) (by omega) h3 (by omega)
    · rw [if_neg (by omega)]
theorem same_refl (l : List Rt) (hl : l.length ≤ 1000000) (k : Nat) (hk : l.length < k) : lessorref25_Same.f k l l = some true := by
  unfold lessorref25_Same.f
  rw [if_pos rfl]
  exact same_loop l l.length 0 k (by omega) (by omega) hl (by omega)
end Go.Proofs.Yteniakelhalojaa.PR
