/- The statement RouteBests over numbers and lists. No condition. -/
import Derived.Test.YteniakelhalojaaStRouteBests
import Derived.Test.YteniakelhalojaaPBests
namespace Go.Proofs.Yteniakelhalojaa.routeBests.Pure
open Go.RowKit Go.Proofs.Yteniakelhalojaa Go.Proofs.Yteniakelhalojaa.Pn Go.Proofs.Yteniakelhalojaa.PR Go.Proofs.YteniakelhalojaaW.PrintWords Go.Proofs.YteniakelhalojaaW.PrintLast
set_option linter.unusedVariables false
set_option linter.unusedSimpArgs false

theorem RouteBests : routeBests.Pure := by
  intro l a hl hx ha
  refine ⟨12000, ?_⟩
  have A : lessorlaw25_awake.f = some true := by decide +kernel
  unfold lessorlaw25_RouteBests.f
  rw [A]
  simp only [Option.bind_some, if_true]
  unfold lessorlaw25_RouteBests.j0
  dsimp only
  by_cases c : (l.length : Int) > 100
  · rw [decide_eq_true c, if_pos rfl]
  · rw [decide_eq_false c, if_neg (by decide)]
    have hfine : ∀ x ∈ l, rtFine x := fun x h => hx x h
    have hu : ∀ x ∈ l, okU x.f0 := fun x h => okU_wf (hfine x h).1
    have hau := okU_wf ha
    have hml := leanUp_len l l.length
    have e1 : route_Lean.f l = some (leanUp l l.length) := by unfold route_Lean.f; rw [if_pos ⟨hfine, by omega⟩]
    have e2 : route_Best.f l a = some (lgUp (fun _ => true) a l l.length) := by unfold route_Best.f; rw [if_pos ⟨hfine, ha, by omega⟩]
    rw [e1]
    simp only [Option.bind_some]
    rw [ref_lean_eq l (by omega) hu 11999 (by omega)]
    simp only [Option.bind_some]
    rw [same_refl _ (by omega) 11999 (by omega)]
    simp only [Option.bind_some, if_true]
    rw [e2]
    simp only [Option.bind_some]
    rw [ref_best_eq a l (by omega) hu hau 11999 (by omega)]
    simp only [Option.bind_some, if_true]
    cases l with
    | nil => simp
    | cons y l =>
      have e0 : rd_T32 (y :: l) 0 = y := rfl
      rw [if_neg (by simp only [List.length_cons]; omega), if_pos (by simp only [List.length_cons]; omega), e0, in_eq y a (hu y (by simp)) hau, ref_in_eq y a (hu y (by simp)) hau 11999 (by omega)]
      simp
end Go.Proofs.Yteniakelhalojaa.routeBests.Pure
