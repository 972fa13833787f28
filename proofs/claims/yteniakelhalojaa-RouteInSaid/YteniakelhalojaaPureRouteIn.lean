/- The statement RouteIn over numbers and lists. No condition. -/
import Derived.Test.YteniakelhalojaaStRouteIn
import Derived.Test.YteniakelhalojaaPRouteA
import Derived.Test.YteniakelhalojaaHEncode
namespace Go.Proofs.Yteniakelhalojaa.Pure
open Go.RowKit Go.Proofs.Yteniakelhalojaa Go.Proofs.Yteniakelhalojaa.Pn Go.Proofs.Yteniakelhalojaa.PR Go.Proofs.YteniakelhalojaaW.PrintWords Go.Proofs.YteniakelhalojaaW.PrintLast
set_option linter.unusedVariables false
set_option linter.unusedSimpArgs false

theorem in_all (a : Int) (ha : okU a) : route_In.f 0 0 0 a = some true := by
  have h := in_eq ⟨0, 0, 0⟩ a ⟨by decide, by decide⟩ ha
  rw [h]
  congr 1
  rw [decide_eq_true_iff]
  obtain ⟨a0, a1⟩ := ha
  obtain ⟨m, hm⟩ := Int.eq_ofNat_of_zero_le a0
  refine ⟨⟨by decide, by decide, by decide⟩, ?_⟩
  show a.toNat / 2 ^ (32 - (0 : Int).toNat) = (0 : Int).toNat / _
  rw [hm]
  simp only [Int.toNat_natCast]
  simp
  omega
theorem in_self (a : Int) (ha : okU a) : route_In.f a 32 0 a = some true := by
  have h := in_eq ⟨a, 32, 0⟩ a ha ha
  rw [h]
  congr 1
  rw [decide_eq_true_iff]
  refine ⟨⟨(by decide : (0 : Int) ≤ 32), (by decide : (32 : Int) ≤ 32), ?_⟩, rfl⟩
  show a.toNat % 2 ^ (32 - (32 : Int).toNat) = 0
  simp [Nat.mod_one]
theorem in_loop (l : List Rt) (a : Int) (hl : l.length ≤ 1000000) (hu : ∀ x ∈ l, okU x.f0) (ha : okU a) (r : Int) (hr : BestAt l a l.length r) : ∀ (d i k : Nat), l.length ≤ i + d → i ≤ l.length → d < k →
    lessorlaw25_RouteIn.l0 k l a r (i : Int) = some true := by
  have fin : ∀ k, 0 < k → lessorlaw25_RouteIn.l0 k l a r (l.length : Int) = some true := by
    intro k hk
    obtain ⟨k, rfl⟩ : ∃ m, k = m + 1 := ⟨k - 1, by omega⟩
    simp only [lessorlaw25_RouteIn.l0]
    rw [if_neg (by omega)]
    rcases hr with ⟨rfl, hn⟩ | ⟨q, hq, rfl, hqi, hin, hb⟩
    · rw [if_pos (by omega)]
    · rw [if_neg (by omega), if_pos (by omega), if_pos (by omega), rd_rt l hq, in_eq l[q] a (hu _ (List.getElem_mem hq)) ha, decide_eq_true hin]
      rfl
  intro d
  induction d with
  | zero =>
    intro i k h1 h2 hk
    obtain rfl : i = l.length := by omega
    exact fin k hk
  | succ d ih =>
    intro i k h1 h2 hk
    by_cases h : i < l.length
    · obtain ⟨k, rfl⟩ : ∃ m, k = m + 1 := ⟨k - 1, by omega⟩
      have hx := hu l[i] (List.getElem_mem h)
      have go : lessorlaw25_RouteIn.l0 k l a r ((i : Int) + 1) = some true := ih (i + 1) k (by omega) (by omega) (by omega)
      simp only [lessorlaw25_RouteIn.l0]
      rw [if_pos (by omega), if_pos (by omega), rd_rt l h, in_eq l[i] a hx ha, wrapR (by omega) (by omega)]
      simp only [Option.bind_some]
      by_cases c : inR l[i] a
      · rw [decide_eq_true c, if_pos rfl]
        rcases hr with ⟨rfl, hn⟩ | ⟨q, hq, rfl, hqi, hin, hb⟩
        · exact absurd c (hn i h h)
        · have hb' := hb i h h c
          rw [if_neg (by omega), if_neg (by omega), if_pos (by omega), if_pos (by omega), rd_rt l hq, if_neg (by omega)]
          by_cases e : l[q].f1 = l[i].f1
          · have := hb'.2 e.symm
            rw [if_pos e, if_neg (by omega)]
            exact go
          · rw [if_neg e]
            exact go
      · rw [decide_eq_false c, if_neg (by decide)]
        exact go
    · obtain rfl : i = l.length := by omega
      exact fin k (by omega)

theorem RouteIn : routeIn.Pure := by
  intro l a hl hx hw
  refine ⟨1000, ?_⟩
  have A : lessorlaw25_awake.f = some true := by decide +kernel
  have ha : okU a := okU_wf hw
  have hu : ∀ x ∈ l, okU x.f0 := fun x hxl => okU_wf (hx x hxl).1
  unfold lessorlaw25_RouteIn.f
  rw [A]
  simp only [Option.bind_some, if_true]
  by_cases c : (l.length : Int) > 100
  · rw [if_pos c]
    simp only [lessorlaw25_RouteIn.j0, if_true]
    rw [decide_eq_true c]
  · rw [if_neg c, in_all a ha]
    simp only [Option.bind_some, if_true]
    rw [in_self a ha]
    simp only [Option.bind_some, Bool.not_true, lessorlaw25_RouteIn.j0, Bool.false_eq_true, if_false]
    obtain ⟨r, h1, h2⟩ := best1_eq l a (by omega) hu ha 999 (by omega)
    rw [h1]
    simp only [Option.bind_some]
    exact in_loop l a (by omega) hu ha r h2 l.length 0 999 (by omega) (by omega) (by omega)

end Go.Proofs.Yteniakelhalojaa.Pure
