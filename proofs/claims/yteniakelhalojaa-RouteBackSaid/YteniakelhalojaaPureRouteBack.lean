/- The statement RouteBack over numbers and lists. No condition. -/
import Derived.Test.YteniakelhalojaaStRouteBack
import Derived.Test.YteniakelhalojaaPRtB
namespace Go.Proofs.Yteniakelhalojaa.routeBack.Pure
open Go.RowKit Go.Proofs.Yteniakelhalojaa Go.Proofs.Yteniakelhalojaa.Pn Go.Proofs.Yteniakelhalojaa.PR Go.Proofs.YteniakelhalojaaW.PrintWords Go.Proofs.YteniakelhalojaaW.PrintLast
set_option linter.unusedVariables false
set_option linter.unusedSimpArgs false

theorem bytes_wf {l : List Int} (h : ∀ x ∈ l, (Lit.int .u8 x).wf = true) : bytesR l := by
  intro x hx
  have e1 : IntKind.u8.min = 0 := by decide
  have e2 : IntKind.u8.max = 255 := by decide
  have := h x hx
  simp [Lit.wf, e1, e2] at this
  omega
theorem enc_bytes (l : List Rt) : bytesR (rtEnc l) := by
  intro x hx
  unfold rtEnc at hx
  obtain ⟨y, hy, hxy⟩ := List.mem_flatten.1 hx
  obtain ⟨z, hz, rfl⟩ := List.mem_map.1 hy
  have r4 : ∀ a : Int, ∀ v ∈ rt4 a, 0 ≤ v ∧ v ≤ 255 := by
    intro a v hv
    have hb : ∀ j, 0 ≤ rtB a j ∧ rtB a j ≤ 255 := fun j => by unfold rtB; omega
    simp only [rt4, List.mem_cons, List.not_mem_nil, or_false] at hv
    rcases hv with rfl | rfl | rfl | rfl
    · exact hb 0
    · exact hb 1
    · exact hb 2
    · exact hb 3
  unfold rtEnc1 at hxy
  rcases List.mem_append.1 hxy with h | h
  · rcases List.mem_append.1 h with h | h
    · rw [List.mem_singleton.1 h]; omega
    · exact r4 _ _ (List.mem_of_mem_take h)
  · exact r4 _ _ h
theorem back1 (b : List Int) (hb : bytesR b) (hl : b.length ≤ 1000) (k : Nat) : lessorlaw25_RouteBack.j1 (k + 1) b = some true := by
  unfold lessorlaw25_RouteBack.j1
  dsimp only
  rw [dec_eq b hb (by omega)]
  simp only [Option.bind_some]
  unfold rdR
  by_cases c : 255 < b.length
  · rw [if_pos c]; simp
  · rw [if_neg c]
    cases h : rdGo b [] with
    | none => simp
    | some m =>
      obtain ⟨q, hq, he, ha⟩ := rdGo_back b.length b [] m (Nat.le_refl _) hb h
      rw [List.nil_append] at hq
      subst hq
      have h1 : ∀ l : List Rt, l.length ≤ (rtEnc l).length := by
        intro l
        induction l with
        | nil => simp
        | cons x l ih =>
          have e3 : rtEnc (x :: l) = rtEnc1 x ++ rtEnc l := by unfold rtEnc; rw [List.map_cons, List.flatten_cons]
          rw [e3, List.length_append, List.length_cons]
          have : 1 ≤ (rtEnc1 x).length := by unfold rtEnc1; simp
          omega
      have h2 := h1 m
      rw [he] at h2
      have e : encRR m = (b, 0) := by
        unfold encRR
        rw [if_pos (fun x hx => (ha x hx).1), he, if_neg c]
      simp only [if_pos]
      rw [enc_eq m (by omega) (fun x hx => (ha x hx).2), e]
      simp
theorem RouteBack : routeBack.Pure := by
  intro l0 l1 hl hx hl1 hx1
  refine ⟨3000, ?_⟩
  have hb := bytes_wf hx1
  have hu : ∀ x ∈ l0, okU x.f0 ∧ okU x.f2 := fun x hxl => ⟨okU_wf (hx x hxl).1, okU_wf (hx x hxl).2.2⟩
  have A : lessorlaw25_awake.f = some true := by decide +kernel
  unfold lessorlaw25_RouteBack.f
  rw [A]
  simp only [Option.bind_some, if_true]
  by_cases c : (l0.length : Int) > 100
  · rw [if_pos c]; unfold lessorlaw25_RouteBack.j0; dsimp only; rw [if_pos rfl]
  · rw [if_neg c]
    unfold lessorlaw25_RouteBack.j0
    dsimp only
    by_cases c2 : (l1.length : Int) > 1000
    · rw [decide_eq_true c2, if_pos rfl]
    · have hj := back1 l1 hb (by omega) 2998
      rw [decide_eq_false c2, if_neg (by decide), enc_eq l0 (by omega) hu]
      simp only [Option.bind_some]
      rw [hj]
      by_cases ok : ∀ x ∈ l0, okR x
      · by_cases cl : 255 < (rtEnc l0).length
        · have e : encRR l0 = ([], 3) := by unfold encRR; rw [if_pos ok, if_pos cl]
          rw [e]; simp
        · have e : encRR l0 = (rtEnc l0, 0) := by unfold encRR; rw [if_pos ok, if_neg cl]
          have e2 : rdR (rtEnc l0) = (l0, 0) := by unfold rdR; rw [if_neg cl, rdGo_enc l0 [] ok hu, List.nil_append]
          rw [e]
          simp only [if_pos]
          rw [dec_eq _ (enc_bytes l0) (by omega), e2]
          simp only [Option.bind_some]
          rw [same_refl l0 (by omega) 2999 (by omega)]
          simp
      · have e : encRR l0 = ([], 1) := by unfold encRR; rw [if_neg ok]
        rw [e]; simp
end Go.Proofs.Yteniakelhalojaa.routeBack.Pure
