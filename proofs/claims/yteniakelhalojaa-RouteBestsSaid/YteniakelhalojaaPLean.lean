/-
  Lean routes, over lists: the best way to any address is the same one of the lean routes, by its Via; these are lean already. No condition but that networks are numbers in range.
-/
import Derived.Test.YteniakelhalojaaHLean
import Derived.Test.YteniakelhalojaaPRtR
namespace Go.Proofs.Yteniakelhalojaa.PR
open Go.RowKit Go.Proofs.Yteniakelhalojaa Go.Proofs.Yteniakelhalojaa.Pn Go.Proofs.YteniakelhalojaaW.PrintWords Go.Proofs.YteniakelhalojaaW.PrintLast Go.Proofs.YteniakelhalojaaW.PrintMore
set_option linter.unusedVariables false
set_option linter.unusedSimpArgs false

/-! ### the place of the longest -/
theorem lgUp_congr (p p' : Rt → Bool) (a a' : Int) (l : List Rt) (h : ∀ j, j < l.length → lgQ p a (l.getD j d0) = lgQ p' a' (l.getD j d0)) : ∀ i, i ≤ l.length → lgUp p a l i = lgUp p' a' l i := by
  intro i
  induction i with
  | zero => intro _; rfl
  | succ i ih =>
    intro hi
    show lgStep p a l (lgUp p a l i) i = lgStep p' a' l (lgUp p' a' l i) i
    rw [ih (by omega)]
    unfold lgStep
    rw [h i (by omega)]
def LgAt (q : Rt → Bool) (l : List Rt) (i : Nat) (b : Int) : Prop :=
  (b = -1 ∧ ∀ j, j < i → q (l.getD j d0) = false) ∨
  (∃ n : Nat, b = n ∧ n < i ∧ q (l.getD n d0) = true ∧ ∀ j, j < i → q (l.getD j d0) = true → (l.getD j d0).f1 ≤ (l.getD n d0).f1 ∧ ((l.getD j d0).f1 = (l.getD n d0).f1 → n ≤ j))
theorem lgUp_at (p : Rt → Bool) (a : Int) (l : List Rt) : ∀ i, LgAt (lgQ p a) l i (lgUp p a l i) := by
  intro i
  induction i with
  | zero => exact Or.inl ⟨rfl, fun j hj => by omega⟩
  | succ i ih =>
    show LgAt (lgQ p a) l (i + 1) (lgStep p a l (lgUp p a l i) i)
    obtain ⟨b, hb⟩ : ∃ b, lgUp p a l i = b := ⟨_, rfl⟩
    rw [hb] at ih ⊢
    obtain ⟨q, hq⟩ : ∃ q, lgQ p a = q := ⟨_, rfl⟩
    have hs : lgStep p a l b i = if q (l.getD i d0) = true ∧ (b = -1 ∨ (l.getD i d0).f1 > (l.getD b.toNat d0).f1) then (i : Int) else b := by rw [← hq]; rfl
    rw [hs]
    rw [hq] at ih ⊢
    clear hs hq hb
    rcases ih with ⟨rfl, hn⟩ | ⟨n, rfl, hni, hqn, hm⟩
    · by_cases c : q (l.getD i d0) = true
      · rw [if_pos ⟨c, Or.inl rfl⟩]
        refine Or.inr ⟨i, rfl, by omega, c, fun j hj hqj => ?_⟩
        have : j = i := by
          rcases Nat.lt_or_ge j i with h | h
          · rw [hn j h] at hqj; cases hqj
          · omega
        subst this
        exact ⟨Int.le_refl _, fun _ => Nat.le_refl _⟩
      · rw [if_neg (fun h => c h.1)]
        refine Or.inl ⟨rfl, fun j hj => ?_⟩
        rcases Nat.lt_or_ge j i with h | h
        · exact hn j h
        · obtain rfl : j = i := by omega
          simpa using c
    · rw [Int.toNat_natCast]
      by_cases c : q (l.getD i d0) = true ∧ ((n : Int) = -1 ∨ (l.getD i d0).f1 > (l.getD n d0).f1)
      · rw [if_pos c]
        obtain ⟨c1, c2⟩ := c
        have c3 : (l.getD i d0).f1 > (l.getD n d0).f1 := c2.resolve_left (by omega)
        refine Or.inr ⟨i, rfl, by omega, c1, fun j hj hqj => ?_⟩
        rcases Nat.lt_or_ge j i with h | h
        · have := (hm j h hqj).1
          exact ⟨by omega, fun e => by omega⟩
        · obtain rfl : j = i := by omega
          exact ⟨Int.le_refl _, fun _ => Nat.le_refl _⟩
      · rw [if_neg c]
        refine Or.inr ⟨n, rfl, by omega, hqn, fun j hj hqj => ?_⟩
        rcases Nat.lt_or_ge j i with h | h
        · exact hm j h hqj
        · obtain rfl : j = i := by omega
          have c3 : ¬ (l.getD j d0).f1 > (l.getD n d0).f1 := fun h3 => c ⟨hqj, Or.inr h3⟩
          exact ⟨by omega, fun _ => by omega⟩
/-! ### nets that contain an address -/
theorem in_up {r y : Rt} {a : Int} (hr : inR r a) (h : y.f1 ≤ r.f1) : inR y a ↔ inR y r.f0 := by
  obtain ⟨⟨r0, r1, r2⟩, ra⟩ := hr
  unfold inR
  have key : okR y → a.toNat / 2 ^ sh y = r.f0.toNat / 2 ^ sh y := by
    intro hy
    have hle : sh r ≤ sh y := by unfold sh; omega
    have e : 2 ^ sh y = 2 ^ sh r * 2 ^ (sh y - sh r) := by rw [← Nat.pow_add]; congr 1; omega
    rw [e, ← Nat.div_div_eq_div_mul, ← Nat.div_div_eq_div_mul, ra]
  constructor
  · rintro ⟨hy, e⟩; exact ⟨hy, (key hy).symm.trans e⟩
  · rintro ⟨hy, e⟩; exact ⟨hy, (key hy).trans e⟩
theorem in_uniq {x y : Rt} {a : Int} (ux : okU x.f0) (uy : okU y.f0) (hx : inR x a) (hy : inR y a) (h : x.f1 = y.f1) : x.f0 = y.f0 := by
  obtain ⟨⟨_, _, x2⟩, xa⟩ := hx
  obtain ⟨⟨_, _, y2⟩, ya⟩ := hy
  have hs : sh x = sh y := by unfold sh; rw [h]
  rw [hs] at x2 xa
  have e1 := Nat.div_add_mod x.f0.toNat (2 ^ sh y)
  have e2 := Nat.div_add_mod y.f0.toNat (2 ^ sh y)
  rw [x2, ← xa] at e1
  rw [y2, ← ya] at e2
  have := ux.1
  have := uy.1
  omega
/-! ### lean routes -/
def sameK (x y : Rt) : Prop := x.f0 = y.f0 ∧ x.f1 = y.f1
theorem seen_iff (l : List Rt) (i : Nat) (x : Rt) (hi : i ≤ l.length) : seenB l i x = true ↔ ∃ j, j < i ∧ sameK (l.getD j d0) x := by
  unfold seenB
  rw [List.any_eq_true]
  constructor
  · rintro ⟨y, hy, e⟩
    obtain ⟨j, hj, rfl⟩ := List.getElem_of_mem hy
    rw [List.length_take] at hj
    rw [List.getElem_take] at e
    simp only [Bool.and_eq_true, beq_iff_eq] at e
    exact ⟨j, by omega, by rw [getD_at l (by omega)]; exact e⟩
  · rintro ⟨j, hj, e⟩
    rw [getD_at l (by omega)] at e
    exact ⟨l[j], List.mem_take_iff_getElem.2 ⟨j, by omega, rfl⟩, by simp only [Bool.and_eq_true, beq_iff_eq]; exact e⟩
structure LeanAt (l : List Rt) (i : Nat) (m : List Rt) : Prop where
  from_ : ∀ x ∈ m, ∃ j, j < i ∧ l.getD j d0 = x ∧ leanX l (seenB l j x) x = true
  to_ : ∀ j, j < i → leanX l (seenB l j (l.getD j d0)) (l.getD j d0) = true → l.getD j d0 ∈ m
  apart : m.Pairwise (fun x y => ¬ sameK x y)
theorem leanX_seen {l : List Rt} {s : Bool} {x : Rt} (h : leanX l s x = true) : s = false := by
  cases s with
  | false => rfl
  | true => simp [leanX] at h
theorem leanUp_at (l : List Rt) : ∀ i, i ≤ l.length → LeanAt l i (leanUp l i) := by
  intro i
  induction i with
  | zero => intro _; exact ⟨fun x hx => by simp [leanUp] at hx, fun j hj => by omega, by simp [leanUp]⟩
  | succ i ih =>
    intro hi
    obtain ⟨h1, h2, h3⟩ := ih (by omega)
    show LeanAt l (i + 1) (if leanX l (seenB l i (l.getD i d0)) (l.getD i d0) = true then leanUp l i ++ [l.getD i d0] else leanUp l i)
    by_cases c : leanX l (seenB l i (l.getD i d0)) (l.getD i d0) = true
    · rw [if_pos c]
      refine ⟨fun x hx => ?_, fun j hj hc => ?_, ?_⟩
      · rcases List.mem_append.1 hx with hx | hx
        · obtain ⟨j, hj, e⟩ := h1 x hx
          exact ⟨j, by omega, e⟩
        · obtain rfl := List.mem_singleton.1 hx
          exact ⟨i, by omega, rfl, c⟩
      · rcases Nat.lt_or_ge j i with h | h
        · exact List.mem_append.2 (Or.inl (h2 j h hc))
        · obtain rfl : j = i := by omega
          exact List.mem_append.2 (Or.inr (by simp))
      · refine List.pairwise_append.2 ⟨h3, by simp, fun x hx y hy => ?_⟩
        obtain rfl := List.mem_singleton.1 hy
        obtain ⟨j, hj, rfl, _⟩ := h1 x hx
        intro hk
        have := leanX_seen c
        rw [(seen_iff l i _ (by omega)).2 ⟨j, hj, hk⟩] at this
        cases this
    · rw [if_neg c]
      refine ⟨fun x hx => ?_, fun j hj hc => ?_, h3⟩
      · obtain ⟨j, hj, e⟩ := h1 x hx
        exact ⟨j, by omega, e⟩
      · rcases Nat.lt_or_ge j i with h | h
        · exact h2 j h hc
        · obtain rfl : j = i := by omega
          exact absurd hc c
theorem leanUp_skip (l : List Rt) (i : Nat) : True := trivial
def ltP (B : Int) : Rt → Bool := fun y => decide (y.f1 < B)
theorem lgQ_lt {B a : Int} {x : Rt} : lgQ (ltP B) a x = true ↔ x.f1 < B ∧ inR x a := by
  unfold lgQ ltP
  rw [Bool.and_eq_true, decide_eq_true_iff, decide_eq_true_iff]
theorem okR_key {x y : Rt} (h : sameK x y) : okR x ↔ okR y := by unfold okR sh; rw [h.1, h.2]
theorem inR_key {x y : Rt} {a : Int} (h : sameK x y) : inR x a ↔ inR y a := by unfold inR; rw [okR_key h]; unfold sh; rw [h.1, h.2]
/-- The law: the best of the lean routes has the best one's Via. -/
theorem via_eq (l : List Rt) (hu : ∀ x ∈ l, okU x.f0) (m : List Rt) (hm : m = leanUp l l.length) (a : Int) : ∀ B : Nat,
    (lgUp (ltP B) a l l.length = -1 ∧ lgUp (ltP B) a m m.length = -1) ∨
    ∃ n k : Nat, lgUp (ltP B) a l l.length = n ∧ n < l.length ∧ lgUp (ltP B) a m m.length = k ∧ k < m.length ∧ (m.getD k d0).f2 = (l.getD n d0).f2 := by
  have hL := leanUp_at l l.length (Nat.le_refl _)
  rw [← hm] at hL
  have hml : ∀ k, k < m.length → ∃ j, j < l.length ∧ l.getD j d0 = m.getD k d0 ∧ leanX l (seenB l j (m.getD k d0)) (m.getD k d0) = true := by
    intro k hk
    rw [getD_at m hk]
    exact hL.from_ _ (List.getElem_mem hk)
  have hul : ∀ j, j < l.length → okU (l.getD j d0).f0 := fun j hj => by rw [getD_at l hj]; exact hu _ (List.getElem_mem hj)
  intro B
  induction B using Nat.strongRecOn with
  | _ B ih =>
    rcases lgUp_at (ltP B) a l l.length with ⟨hb, hn⟩ | ⟨n, hb, hnl, hqn, hmax⟩
    · refine Or.inl ⟨hb, ?_⟩
      rcases lgUp_at (ltP B) a m m.length with ⟨hc, _⟩ | ⟨k, hc, hk, hqk, _⟩
      · exact hc
      · obtain ⟨j, hj, e, _⟩ := hml k hk
        rw [← e, hn j hj] at hqk
        cases hqk
    · obtain ⟨r, hr⟩ : ∃ r, l.getD n d0 = r := ⟨_, rfl⟩
      have hq := lgQ_lt.1 hqn
      rw [hr] at hq hmax
      have hru : okU r.f0 := hr ▸ hul n hnl
      have first : ∀ j, j < l.length → sameK (l.getD j d0) r → n ≤ j := by
        intro j hj hk
        have := hmax j hj (lgQ_lt.2 ⟨by rw [hk.2]; exact hq.1, (inR_key hk).2 hq.2⟩)
        exact this.2 hk.2
      have hns : seenB l n r = false := by
        cases hs : seenB l n r with
        | false => rfl
        | true =>
          obtain ⟨j, hj, hk⟩ := (seen_iff l n r (by omega)).1 hs
          have := first j (by omega) hk
          omega
      have same : ∀ k, k < m.length → inR (m.getD k d0) a → (m.getD k d0).f1 = r.f1 → m.getD k d0 = r ∧ leanX l (seenB l n r) r = true := by
        intro k hk hin hf
        obtain ⟨j, hj, e, hx⟩ := hml k hk
        have huk : okU (m.getD k d0).f0 := e ▸ hul j hj
        have hkey : sameK (m.getD k d0) r := ⟨in_uniq huk hru hin hq.2 hf, hf⟩
        have h1 := first j hj (by rw [e]; exact hkey)
        have h2 : j = n := by
          rcases Nat.lt_or_ge n j with h | h
          · have := leanX_seen hx
            rw [(seen_iff l j _ (by omega)).2 ⟨n, h, by rw [hr]; exact ⟨hkey.1.symm, hkey.2.symm⟩⟩] at this
            cases this
          · omega
        subst h2
        have e2 : m.getD k d0 = r := e.symm.trans hr
        rw [e2] at hx
        exact ⟨e2, hx⟩
      by_cases kept : leanX l (seenB l n r) r = true
      · have hmem : r ∈ m := by
          have := hL.to_ n hnl
          rw [hr] at this
          exact this kept
        obtain ⟨k', hk', e'⟩ := List.getElem_of_mem hmem
        rcases lgUp_at (ltP B) a m m.length with ⟨hc, hcn⟩ | ⟨k, hc, hk, hqk, hkm⟩
        · have := hcn k' hk'
          rw [getD_at m hk', e', (lgQ_lt.2 hq : lgQ (ltP B) a r = true)] at this
          cases this
        · have hge := (hkm k' hk' (by rw [getD_at m hk', e']; exact lgQ_lt.2 hq)).1
          rw [getD_at m hk', e'] at hge
          obtain ⟨j, hj, e, _⟩ := hml k hk
          have hle := (hmax j hj (by rw [e]; exact hqk)).1
          rw [e] at hle
          have hs := (same k hk (lgQ_lt.1 hqk).2 (by omega)).1
          exact Or.inr ⟨n, k, hb, hnl, hc, hk, by rw [hs, hr]⟩
      · obtain ⟨R, hR⟩ := Int.eq_ofNat_of_zero_le hq.2.1.1
        have hRB : R < B := by have := hq.1; omega
        have hright : rtRight r = true := by rw [rtRight_eq r hru]; exact decide_eq_true hq.2.1
        have hupR : upR l r = lgUp (ltP R) a l l.length := by
          unfold upR
          refine lgUp_congr _ _ _ _ l (fun j hj => ?_) l.length (Nat.le_refl _)
          rw [Bool.eq_iff_iff, show (fun y : Rt => decide (y.f1 < r.f1)) = ltP r.f1 from rfl, lgQ_lt, hR, lgQ_lt]
          constructor
          · rintro ⟨h1, h2⟩; exact ⟨h1, (in_up hq.2 (by omega)).2 h2⟩
          · rintro ⟨h1, h2⟩; exact ⟨h1, (in_up hq.2 (by omega)).1 h2⟩
        have hm2 : lgUp (ltP B) a m m.length = lgUp (ltP R) a m m.length := by
          refine lgUp_congr _ _ _ _ m (fun j hj => ?_) m.length (Nat.le_refl _)
          rw [Bool.eq_iff_iff, lgQ_lt, lgQ_lt]
          constructor
          · rintro ⟨h1, h2⟩
            obtain ⟨j', hj', e, _⟩ := hml j hj
            have hle := (hmax j' hj' (by rw [e]; exact lgQ_lt.2 ⟨h1, h2⟩)).1
            rw [e] at hle
            refine ⟨?_, h2⟩
            rcases Int.lt_or_eq_of_le hle with h | h
            · omega
            · exact absurd (same j hj h2 h).2 kept
          · rintro ⟨h1, h2⟩; exact ⟨by omega, h2⟩
        have hup : ∃ u : Nat, upR l r = u ∧ u < l.length ∧ (l.getD u d0).f2 = r.f2 := by
          have hin := lgUp_in (ltP R) a l l.length
          rw [← hupR] at hin
          by_cases h : upR l r < 0
          · exfalso
            have e : upR l r = -1 := by omega
            exact kept (by unfold leanX; rw [hns, hright, e]; rfl)
          · obtain ⟨u, hu'⟩ := Int.eq_ofNat_of_zero_le (show 0 ≤ upR l r by omega)
            refine ⟨u, hu', by omega, ?_⟩
            apply Classical.byContradiction
            intro hne
            refine kept ?_
            unfold leanX
            rw [hns, hright, hu', Int.toNat_natCast, show ((l.getD u d0).f2 != r.f2) = true from bne_iff_ne.2 hne]
            simp
        obtain ⟨u, hu1, hu2, hu3⟩ := hup
        rcases ih R hRB with ⟨h1, _⟩ | ⟨n', k, h1, h2, h3, h4, h5⟩
        · rw [← hupR, hu1] at h1; omega
        · have : n' = u := by rw [← hupR, hu1] at h1; omega
          subst this
          exact Or.inr ⟨n, k, hb, hnl, hm2.trans h3, h4, by rw [h5, hu3, hr]⟩
theorem best_lt (l : List Rt) (a : Int) : lgUp (fun _ => true) a l l.length = lgUp (ltP ((33 : Nat) : Int)) a l l.length := by
  refine lgUp_congr _ _ _ _ l (fun j hj => ?_) l.length (Nat.le_refl _)
  rw [Bool.eq_iff_iff, lgQ_lt]
  unfold lgQ
  rw [Bool.true_and, decide_eq_true_iff]
  constructor
  · intro h; have := h.1.2.1; exact ⟨by omega, h⟩
  · intro h; exact h.2
/-- Lean routes are lean. -/
theorem lean_again (l : List Rt) (hu : ∀ x ∈ l, okU x.f0) (m : List Rt) (hm : m = leanUp l l.length) : ∀ i, i ≤ m.length → leanUp m i = m.take i := by
  have hL := leanUp_at l l.length (Nat.le_refl _)
  rw [← hm] at hL
  intro i
  induction i with
  | zero => intro _; simp [leanUp]
  | succ i ih =>
    intro hi
    have hi2 : i < m.length := by omega
    obtain ⟨x, hx⟩ : ∃ x, m.getD i d0 = x := ⟨_, rfl⟩
    have hxi : m[i] = x := (getD_at m hi2).symm.trans hx
    have hxm : x ∈ m := hxi ▸ List.getElem_mem hi2
    obtain ⟨j, hj, e, hX⟩ := hL.from_ x hxm
    have hs : seenB m i x = false := by
      cases hs : seenB m i x with
      | false => rfl
      | true =>
        obtain ⟨k, hk, hkey⟩ := (seen_iff m i x (by omega)).1 hs
        rw [getD_at m (by omega)] at hkey
        have := (List.pairwise_iff_getElem.1 hL.apart) k i (by omega) hi2 hk
        rw [hxi] at this
        exact absurd hkey this
    have hok : leanX m (seenB m i x) x = true := by
      have hX2 := hX
      unfold leanX at hX
      simp only [Bool.and_eq_true, Bool.or_eq_true, Bool.not_eq_true'] at hX
      obtain ⟨_, h1, h2⟩ := hX
      unfold leanX
      rw [hs, h1]
      have hxu : okU x.f0 := hu x (e ▸ (getD_at l hj).symm ▸ List.getElem_mem hj)
      have hR : okR x := by rw [rtRight_eq x hxu] at h1; exact of_decide_eq_true h1
      obtain ⟨R, hRR⟩ := Int.eq_ofNat_of_zero_le hR.1
      have e1 : upR l x = lgUp (ltP (R : Int)) x.f0 l l.length := by unfold upR; rw [hRR]; rfl
      have e2 : upR m x = lgUp (ltP (R : Int)) x.f0 m m.length := by unfold upR; rw [hRR]; rfl
      rcases via_eq l hu m hm x.f0 R with ⟨h3, h4⟩ | ⟨n, k, h3, h4, h5, h6, h7⟩
      · rw [e2, h4]; rfl
      · rw [e1, h3] at h2
        rw [e2, h5, Int.toNat_natCast, h7]
        rcases h2 with h2 | h2
        · rw [beq_iff_eq] at h2; omega
        · rw [Int.toNat_natCast] at h2
          rw [h2]; simp
    show (if leanX m (seenB m i (m.getD i d0)) (m.getD i d0) = true then leanUp m i ++ [m.getD i d0] else leanUp m i) = _
    rw [hx, if_pos hok, ih (by omega), List.take_succ_eq_append_getElem hi2, hxi]
theorem leanUp_mem {l : List Rt} {x : Rt} (h : x ∈ leanUp l l.length) : x ∈ l := by
  obtain ⟨j, hj, e, _⟩ := (leanUp_at l l.length (Nat.le_refl _)).from_ x h
  rw [getD_at l hj] at e
  exact e ▸ List.getElem_mem hj
end Go.Proofs.Yteniakelhalojaa.PR
