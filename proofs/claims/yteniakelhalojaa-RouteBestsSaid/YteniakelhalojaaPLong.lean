/-
  The longest of routes for which a test holds, over lists: what the walk's rounds compute. No condition.
-/
import Derived.Test.YteniakelhalojaaHLongest
import Derived.Test.YteniakelhalojaaPRouteQ
namespace Go.Proofs.Yteniakelhalojaa.PR
open Go.RowKit Go.Proofs.Yteniakelhalojaa Go.Proofs.Yteniakelhalojaa.Pn Go.Proofs.YteniakelhalojaaW.PrintWords Go.Proofs.YteniakelhalojaaW.PrintLast Go.Proofs.YteniakelhalojaaW.PrintMore
set_option linter.unusedVariables false
set_option linter.unusedSimpArgs false

abbrev d0 : Rt := ⟨0, 0, 0⟩
def lgQ (p : Rt → Bool) (a : Int) (x : Rt) : Bool := p x && decide (inR x a)
def lgStep (p : Rt → Bool) (a : Int) (l : List Rt) (b : Int) (i : Nat) : Int := if lgQ p a (l.getD i d0) = true ∧ (b = -1 ∨ (l.getD i d0).f1 > (l.getD b.toNat d0).f1) then (i : Int) else b
def lgUp (p : Rt → Bool) (a : Int) (l : List Rt) : Nat → Int
  | 0 => -1
  | i + 1 => lgStep p a l (lgUp p a l i) i
theorem lgUp_in (p : Rt → Bool) (a : Int) (l : List Rt) : ∀ i : Nat, -1 ≤ lgUp p a l i ∧ lgUp p a l i < i := by
  intro i
  induction i with
  | zero => exact ⟨Int.le_refl _, (by decide : (-1 : Int) < ((0 : Nat) : Int))⟩
  | succ i ih =>
    show -1 ≤ lgStep p a l (lgUp p a l i) i ∧ lgStep p a l (lgUp p a l i) i < ((i + 1 : Nat) : Int)
    unfold lgStep
    split <;> omega
theorem getD_at (l : List Rt) {i : Nat} (h : i < l.length) : l.getD i d0 = l[i] := by rw [List.getD_eq_getElem?_getD, List.getElem?_eq_getElem h]; rfl
theorem longG_loop (p : Rt → Bool) (a : Int) (l : List Rt) (hl : l.length < 9223372036854775807) (hu : ∀ x ∈ l, okU x.f0) (ha : okU a) :
    ∀ (d i k : Nat), l.length ≤ i + d → i ≤ l.length → d < k → longG.l0 p k l a (lgUp p a l i) l (l.length : Int) (i : Int) = some (lgUp p a l l.length) := by
  intro d
  induction d with
  | zero =>
    intro i k h1 h2 hk
    obtain ⟨k, rfl⟩ : ∃ m, k = m + 1 := ⟨k - 1, by omega⟩
    obtain rfl : i = l.length := by omega
    simp only [longG.l0]
    rw [if_neg (by omega)]
  | succ d ih =>
    intro i k h1 h2 hk
    obtain ⟨k, rfl⟩ : ∃ m, k = m + 1 := ⟨k - 1, by omega⟩
    by_cases h : i < l.length
    · have next := ih (i + 1) k (by omega) (by omega) (by omega)
      have hstep : lgUp p a l (i + 1) = lgStep p a l (lgUp p a l i) i := rfl
      rw [hstep] at next
      have hbr := lgUp_in p a l i
      obtain ⟨b, hb⟩ : ∃ b, lgUp p a l i = b := ⟨_, rfl⟩
      rw [hb] at next hbr ⊢
      clear hb hstep ih
      obtain ⟨x, hx⟩ : ∃ x, l[i] = x := ⟨_, rfl⟩
      have hg : l.getD i d0 = x := (getD_at l h).trans hx
      have hxu : okU x.f0 := hu x (hx ▸ List.getElem_mem h)
      have hw : wrap64 ((i : Int) + 1) = ((i + 1 : Nat) : Int) := by rw [wrapR (by omega) (by omega)]; rfl
      simp only [longG.l0]
      rw [if_pos (by omega), if_pos (by omega), if_pos (by omega), rd_rt l h, hx, hw]
      clear hw
      simp only [tst, Option.bind_some]
      have hin := in_eq x a hxu ha
      have no : (¬ (lgQ p a x = true ∧ (b = -1 ∨ x.f1 > (l.getD b.toNat d0).f1))) → lgStep p a l b i = b := fun hn => by unfold lgStep; rw [hg, if_neg hn]
      have yes : (lgQ p a x = true ∧ (b = -1 ∨ x.f1 > (l.getD b.toNat d0).f1)) → lgStep p a l b i = i := fun hn => by unfold lgStep; rw [hg, if_pos hn]
      by_cases cp : p x = true
      · rw [if_pos cp, hin]
        simp only [Option.bind_some]
        by_cases ci : inR x a
        · have hq : lgQ p a x = true := by unfold lgQ; rw [cp, decide_eq_true ci]; rfl
          rw [decide_eq_true ci, if_pos rfl]
          by_cases cb : b = -1
          · rw [if_pos cb]
            rw [yes ⟨hq, Or.inl cb⟩] at next
            exact next
          · obtain ⟨n, rfl⟩ : ∃ n : Nat, b = n := Int.eq_ofNat_of_zero_le (by omega)
            have hn : n < l.length := by omega
            have hgn : l.getD (n : Int).toNat d0 = l[n] := by rw [Int.toNat_natCast]; exact getD_at l hn
            rw [if_neg cb, if_pos (by omega), if_pos (by omega), rd_rt l hn]
            rw [hgn] at no yes
            by_cases cf : x.f1 > l[n].f1
            · rw [if_pos cf]
              rw [yes ⟨hq, Or.inr cf⟩] at next
              exact next
            · rw [if_neg cf]
              rw [no (fun hh => hh.2.elim cb cf)] at next
              exact next
        · rw [decide_eq_false ci, if_neg (by decide)]
          rw [no (fun hh => by have h1 := hh.1; unfold lgQ at h1; rw [decide_eq_false ci, Bool.and_false] at h1; cases h1)] at next
          exact next
      · rw [if_neg cp]
        rw [no (fun hh => by have h1 := hh.1; unfold lgQ at h1; rw [Bool.and_eq_true] at h1; exact cp h1.1)] at next
        exact next
    · obtain rfl : i = l.length := by omega
      simp only [longG.l0]
      rw [if_neg (by omega)]
theorem longG_eq (p : Rt → Bool) (a : Int) (l : List Rt) (hl : l.length < 9223372036854775807) (hu : ∀ x ∈ l, okU x.f0) (ha : okU a) : longG.f p (l.length + 1) l a = some (lgUp p a l l.length) := by
  unfold longG.f
  exact longG_loop p a l hl hu ha l.length 0 (l.length + 1) (by omega) (by omega) (by omega)
end Go.Proofs.Yteniakelhalojaa.PR
