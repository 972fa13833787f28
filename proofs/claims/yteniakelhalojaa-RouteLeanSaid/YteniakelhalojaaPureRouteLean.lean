/- The statement RouteLean over numbers and lists. No condition. -/
import Derived.Test.YteniakelhalojaaStRouteLean
import Derived.Test.YteniakelhalojaaPLean
namespace Go.Proofs.Yteniakelhalojaa.routeLean.Pure
open Go.RowKit Go.Proofs.Yteniakelhalojaa Go.Proofs.Yteniakelhalojaa.Pn Go.Proofs.Yteniakelhalojaa.PR Go.Proofs.YteniakelhalojaaW.PrintWords Go.Proofs.YteniakelhalojaaW.PrintLast
set_option linter.unusedVariables false
set_option linter.unusedSimpArgs false

theorem lean_f (l : List Rt) (hx : ∀ x ∈ l, rtFine x) (hl : l.length ≤ 1000) : route_Lean.f l = some (leanUp l l.length) := by
  unfold route_Lean.f
  rw [if_pos ⟨hx, by omega⟩]
theorem best_f (l : List Rt) (a : Int) (hx : ∀ x ∈ l, rtFine x) (ha : (Lit.int .u32 a).wf = true) (hl : l.length ≤ 1000) : route_Best.f l a = some (lgUp (fun _ => true) a l l.length) := by
  unfold route_Best.f
  rw [if_pos ⟨hx, ha, by omega⟩]
theorem j1_ok (m : List Rt) (hx : ∀ x ∈ m, rtFine x) (hl : m.length ≤ 1000) (h : leanUp m m.length = m) (k : Nat) (hk : m.length + 2 ≤ k) : lessorlaw25_RouteLean.j1 (k + 1) m false = some true := by
  unfold lessorlaw25_RouteLean.j1
  dsimp only
  rw [if_neg (by decide), lean_f m hx hl, h]
  simp only [Option.bind_some]
  rw [same_refl m (by omega) k (by omega)]
  rfl
theorem RouteLean : routeLean.Pure := by
  intro l a hl hx ha
  refine ⟨1000, ?_⟩
  have A : lessorlaw25_awake.f = some true := by decide +kernel
  unfold lessorlaw25_RouteLean.f
  rw [A]
  simp only [Option.bind_some, if_true]
  unfold lessorlaw25_RouteLean.j0
  dsimp only
  by_cases c : (l.length : Int) > 60
  · rw [decide_eq_true c, if_pos rfl]
  · rw [decide_eq_false c, if_neg (by decide)]
    have hfine : ∀ x ∈ l, rtFine x := fun x h => hx x h
    have hu : ∀ x ∈ l, okU x.f0 := fun x h => okU_wf (hfine x h).1
    obtain ⟨m, hm⟩ : ∃ m, m = leanUp l l.length := ⟨_, rfl⟩
    have hml : m.length ≤ l.length := by rw [hm]; exact leanUp_len l l.length
    have hmf : ∀ x ∈ m, rtFine x := fun x h => hfine x (leanUp_mem (hm ▸ h))
    have hag : leanUp m m.length = m := by rw [lean_again l hu m hm m.length (Nat.le_refl _), List.take_length]
    rw [lean_f l hfine (by omega), ← hm, best_f l a hfine ha (by omega)]
    simp only [Option.bind_some]
    rw [best_f m a hmf ha (by omega)]
    simp only [Option.bind_some]
    have hj := j1_ok m hmf (by omega) hag 998 (by omega)
    rw [best_lt l a, best_lt m a]
    rcases via_eq l hu m hm a 33 with ⟨h1, h2⟩ | ⟨n, k, h1, h2, h3, h4, h5⟩
    · rw [h1, h2]
      rw [if_neg (by decide), if_neg (by omega), if_neg (by omega), if_neg (by decide)]
      exact hj
    · rw [h1, h3]
      rw [show (decide ((n : Int) < 0) != decide ((k : Int) < 0)) = false from by rw [decide_eq_false (by omega), decide_eq_false (by omega)]; rfl]
      rw [if_neg (by decide), if_neg (by omega), if_neg (by omega), if_pos (by omega), if_pos (by omega), if_pos (by omega), if_pos (by omega), if_pos (by omega)]
      rw [rd_rt l h2, rd_rt m h4]
      rw [getD_at m h4, getD_at l h2] at h5
      rw [h5, show (l[n].f2 != l[n].f2) = false from by simp]
      exact hj
end Go.Proofs.Yteniakelhalojaa.routeLean.Pure
