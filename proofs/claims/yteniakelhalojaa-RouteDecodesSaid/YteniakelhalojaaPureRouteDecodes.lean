/- The statement RouteDecodes over numbers and lists. No condition. -/
import Derived.Test.YteniakelhalojaaPnF7
import Derived.Test.YteniakelhalojaaPRtB
namespace Go.Proofs.Yteniakelhalojaa.Pure
open Go.RowKit Go.Proofs.Yteniakelhalojaa Go.Proofs.Yteniakelhalojaa.Pn Go.Proofs.Yteniakelhalojaa.PR Go.Proofs.YteniakelhalojaaW.PrintWords Go.Proofs.YteniakelhalojaaW.PrintLast
set_option linter.unusedVariables false
set_option linter.unusedSimpArgs false

theorem rdR_len (b : List Int) (hb : bytesR b) : (rdR b).1.length ≤ 1000 := by
  unfold rdR
  by_cases c : 255 < b.length
  · rw [if_pos c]; simp
  · rw [if_neg c]
    cases h : rdGo b [] with
    | none => simp
    | some m =>
      obtain ⟨q, hq, he, _⟩ := rdGo_back b.length b [] m (Nat.le_refl _) hb h
      have h1 : ∀ l : List Rt, l.length ≤ (rtEnc l).length := by
        intro l
        induction l with
        | nil => simp
        | cons x l ih =>
          have e3 : rtEnc (x :: l) = rtEnc1 x ++ rtEnc l := by unfold rtEnc; rw [List.map_cons, List.flatten_cons]
          rw [e3, List.length_append, List.length_cons]
          have : 1 ≤ (rtEnc1 x).length := by unfold rtEnc1; simp
          omega
      have h2 := h1 q
      rw [he] at h2
      rw [List.nil_append] at hq
      show m.length ≤ 1000
      rw [hq]; omega
theorem bytes_of_wf {l : List Int} (h : ∀ x ∈ l, (Lit.int .u8 x).wf = true) : bytesR l := by
  intro x hx
  have e1 : IntKind.u8.min = 0 := by decide
  have e2 : IntKind.u8.max = 255 := by decide
  have := h x hx
  simp [Lit.wf, e1, e2] at this
  omega
theorem RouteDecodes : lessorlaw25_RouteDecodes.Pure := by
  intro l0 hl hm hx
  refine ⟨3000, ?_⟩
  have hb := bytes_of_wf hx
  have A : lessorlaw25_awake.f = some true := by decide +kernel
  unfold lessorlaw25_RouteDecodes.f
  rw [A]
  simp only [Option.bind_some, if_true, lessorlaw25_RouteDecodes.j0]
  by_cases c : (l0.length : Int) > 1000
  · rw [decide_eq_true c, if_pos rfl]
  · have hlen := rdR_len l0 hb
    rw [decide_eq_false c, if_neg (by decide), dec_eq l0 hb (by omega), ref_dec_eq l0 hb (by omega) 2999 (by omega)]
    simp only [Option.bind_some]
    rw [same_refl _ (by omega) 2999 (by omega)]
    simp

end Go.Proofs.Yteniakelhalojaa.Pure
