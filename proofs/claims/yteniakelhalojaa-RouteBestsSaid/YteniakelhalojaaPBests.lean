/-
  The reference's best, upper and lean routes, over lists. No condition but that numbers are in range.
-/
import Derived.Test.YteniakelhalojaaPLean
import Derived.Test.YteniakelhalojaaPnF18
import Derived.Test.YteniakelhalojaaPnF19
namespace Go.Proofs.Yteniakelhalojaa.PR
open Go.RowKit Go.Proofs.Yteniakelhalojaa Go.Proofs.Yteniakelhalojaa.Pn Go.Proofs.YteniakelhalojaaW.PrintWords Go.Proofs.YteniakelhalojaaW.PrintLast Go.Proofs.YteniakelhalojaaW.PrintMore
set_option linter.unusedVariables false
set_option linter.unusedSimpArgs false

theorem ref_in_eq (x : Rt) (a : Int) (h : okU x.f0) (ha : okU a) (k : Nat) (hk : 40 ≤ k) : lessorref25_In.f k x.f0 x.f1 x.f2 a = some (decide (inR x a)) := by
  unfold lessorref25_In.f
  rw [ref_right_eq x h k hk]
  simp only [Option.bind_some]
  by_cases c : okR x
  · rw [decide_eq_true c, if_pos rfl]
    have c' := c
    obtain ⟨c0, c1, c2⟩ := c
    obtain ⟨b, hb⟩ := Int.eq_ofNat_of_zero_le c0
    obtain ⟨n, hn⟩ := Int.eq_ofNat_of_zero_le h.1
    obtain ⟨m, hm⟩ := Int.eq_ofNat_of_zero_le ha.1
    have h1 := head_eq b n k (by omega) (by have := h.2; omega) (by omega)
    have h2 := head_eq b m k (by omega) (by have := ha.2; omega) (by omega)
    rw [hb, hn, hm, h1, h2]
    simp only [Option.bind_some]
    congr 1
    rw [Bool.eq_iff_iff, beq_iff_eq, decide_eq_true_iff]
    unfold inR sh
    rw [hb, hn]
    simp only [Int.toNat_natCast]
    constructor
    · intro e; exact ⟨c', by omega⟩
    · rintro ⟨_, e⟩; omega
  · rw [decide_eq_false c, if_neg (by decide), decide_eq_false (fun h => c h.1)]
theorem ref_best_loop (a : Int) (l : List Rt) (hl : l.length < 9223372036854775807) (hu : ∀ x ∈ l, okU x.f0) (ha : okU a) :
    ∀ (d i k : Nat), l.length ≤ i + d → i ≤ l.length → d + 50 < k → lessorref25_Best.l0 k l a (lgUp (fun _ => true) a l i) (i : Int) = some (lgUp (fun _ => true) a l l.length) := by
  intro d
  induction d with
  | zero =>
    intro i k h1 h2 hk
    obtain ⟨k, rfl⟩ : ∃ m, k = m + 1 := ⟨k - 1, by omega⟩
    obtain rfl : i = l.length := by omega
    simp only [lessorref25_Best.l0]
    rw [if_neg (by omega)]
  | succ d ih =>
    intro i k h1 h2 hk
    obtain ⟨k, rfl⟩ : ∃ m, k = m + 1 := ⟨k - 1, by omega⟩
    by_cases h : i < l.length
    · have next := ih (i + 1) k (by omega) (by omega) (by omega)
      have hstep : lgUp (fun _ => true) a l (i + 1) = lgStep (fun _ => true) a l (lgUp (fun _ => true) a l i) i := rfl
      rw [hstep] at next
      have hbr := lgUp_in (fun _ => true) a l i
      obtain ⟨b, hb⟩ : ∃ b, lgUp (fun _ => true) a l i = b := ⟨_, rfl⟩
      rw [hb] at next hbr ⊢
      clear hb hstep ih
      obtain ⟨x, hx⟩ : ∃ x, l[i] = x := ⟨_, rfl⟩
      have hg : l.getD i d0 = x := (getD_at l h).trans hx
      have hxu : okU x.f0 := hu x (hx ▸ List.getElem_mem h)
      have hw : wrap64 ((i : Int) + 1) = ((i + 1 : Nat) : Int) := by rw [wrapR (by omega) (by omega)]; rfl
      simp only [lessorref25_Best.l0]
      rw [if_pos (by omega), if_pos (by omega), rd_rt l h, hx, hw, ref_in_eq x a hxu ha k (by omega)]
      clear hw
      simp only [Option.bind_some]
      have hq : lgQ (fun _ => true) a x = decide (inR x a) := by unfold lgQ; rw [Bool.true_and]
      have no : (¬ (lgQ (fun _ => true) a x = true ∧ (b = -1 ∨ x.f1 > (l.getD b.toNat d0).f1))) → lgStep (fun _ => true) a l b i = b := fun hn => by unfold lgStep; rw [hg, if_neg hn]
      have yes : (lgQ (fun _ => true) a x = true ∧ (b = -1 ∨ x.f1 > (l.getD b.toNat d0).f1)) → lgStep (fun _ => true) a l b i = i := fun hn => by unfold lgStep; rw [hg, if_pos hn]
      by_cases ci : inR x a
      · rw [decide_eq_true ci] at hq
        rw [decide_eq_true ci, if_pos rfl]
        by_cases cb : b < 0
        · rw [if_pos cb]
          rw [yes ⟨hq, Or.inl (by omega)⟩] at next
          exact next
        · obtain ⟨n, rfl⟩ : ∃ n : Nat, b = n := Int.eq_ofNat_of_zero_le (by omega)
          have hn : n < l.length := by omega
          have hgn : l.getD (n : Int).toNat d0 = l[n] := by rw [Int.toNat_natCast]; exact getD_at l hn
          rw [if_neg cb, if_pos (by omega), if_pos (by omega), rd_rt l hn]
          rw [hgn] at no yes
          by_cases cf : x.f1 > l[n].f1
          · rw [if_pos cf]
            rw [yes ⟨hq, Or.inr cf⟩] at next
            exact next
          · rw [if_neg cf]
            rw [no (fun hh => hh.2.elim (fun e => by omega) cf)] at next
            exact next
      · rw [decide_eq_false ci, if_neg (by decide)]
        rw [no (fun hh => by rw [hq, decide_eq_false ci] at hh; cases hh.1)] at next
        exact next
    · obtain rfl : i = l.length := by omega
      simp only [lessorref25_Best.l0]
      rw [if_neg (by omega)]
theorem ref_best_eq (a : Int) (l : List Rt) (hl : l.length ≤ 1000) (hu : ∀ x ∈ l, okU x.f0) (ha : okU a) (k : Nat) (hk : l.length + 60 ≤ k) : lessorref25_Best.f k l a = some (lgUp (fun _ => true) a l l.length) := by
  unfold lessorref25_Best.f
  exact ref_best_loop a l (by omega) hu ha l.length 0 k (by omega) (by omega) (by omega)
theorem ref_upper_loop (y0 y1 y2 : Int) (l : List Rt) (hl : l.length < 9223372036854775807) (hu : ∀ x ∈ l, okU x.f0) (ha : okU y0) :
    ∀ (d i k : Nat), l.length ≤ i + d → i ≤ l.length → d + 50 < k → lessorref25_upper.l0 k l (lgUp (ltP y1) y0 l i) (i : Int) y0 y1 y2 = some (lgUp (ltP y1) y0 l l.length) := by
  intro d
  induction d with
  | zero =>
    intro i k h1 h2 hk
    obtain ⟨k, rfl⟩ : ∃ m, k = m + 1 := ⟨k - 1, by omega⟩
    obtain rfl : i = l.length := by omega
    simp only [lessorref25_upper.l0]
    rw [if_neg (by omega)]
  | succ d ih =>
    intro i k h1 h2 hk
    obtain ⟨k, rfl⟩ : ∃ m, k = m + 1 := ⟨k - 1, by omega⟩
    by_cases h : i < l.length
    · have next := ih (i + 1) k (by omega) (by omega) (by omega)
      have hstep : lgUp (ltP y1) y0 l (i + 1) = lgStep (ltP y1) y0 l (lgUp (ltP y1) y0 l i) i := rfl
      rw [hstep] at next
      have hbr := lgUp_in (ltP y1) y0 l i
      obtain ⟨b, hb⟩ : ∃ b, lgUp (ltP y1) y0 l i = b := ⟨_, rfl⟩
      rw [hb] at next hbr ⊢
      clear hb hstep ih
      obtain ⟨x, hx⟩ : ∃ x, l[i] = x := ⟨_, rfl⟩
      have hg : l.getD i d0 = x := (getD_at l h).trans hx
      have hxu : okU x.f0 := hu x (hx ▸ List.getElem_mem h)
      have hw : wrap64 ((i : Int) + 1) = ((i + 1 : Nat) : Int) := by rw [wrapR (by omega) (by omega)]; rfl
      simp only [lessorref25_upper.l0]
      rw [if_pos (by omega), if_pos (by omega), rd_rt l h, hx, hw, ref_in_eq x y0 hxu ha k (by omega)]
      clear hw
      simp only [Option.bind_some]
      have no : (¬ (lgQ (ltP y1) y0 x = true ∧ (b = -1 ∨ x.f1 > (l.getD b.toNat d0).f1))) → lgStep (ltP y1) y0 l b i = b := fun hn => by unfold lgStep; rw [hg, if_neg hn]
      have yes : (lgQ (ltP y1) y0 x = true ∧ (b = -1 ∨ x.f1 > (l.getD b.toNat d0).f1)) → lgStep (ltP y1) y0 l b i = i := fun hn => by unfold lgStep; rw [hg, if_pos hn]
      by_cases ci : inR x y0
      · rw [decide_eq_true ci, if_pos rfl]
        by_cases cl : x.f1 < y1
        · have hq : lgQ (ltP y1) y0 x = true := lgQ_lt.2 ⟨cl, ci⟩
          rw [if_pos cl]
          by_cases cb : b < 0
          · rw [if_pos cb]
            rw [yes ⟨hq, Or.inl (by omega)⟩] at next
            exact next
          · obtain ⟨n, rfl⟩ : ∃ n : Nat, b = n := Int.eq_ofNat_of_zero_le (by omega)
            have hn : n < l.length := by omega
            have hgn : l.getD (n : Int).toNat d0 = l[n] := by rw [Int.toNat_natCast]; exact getD_at l hn
            rw [if_neg cb, if_pos (by omega), if_pos (by omega), rd_rt l hn]
            rw [hgn] at no yes
            by_cases cf : x.f1 > l[n].f1
            · rw [if_pos cf]
              rw [yes ⟨hq, Or.inr cf⟩] at next
              exact next
            · rw [if_neg cf]
              rw [no (fun hh => hh.2.elim (fun e => by omega) cf)] at next
              exact next
        · rw [if_neg cl]
          rw [no (fun hh => cl (lgQ_lt.1 hh.1).1)] at next
          exact next
      · rw [decide_eq_false ci, if_neg (by decide)]
        rw [no (fun hh => ci (lgQ_lt.1 hh.1).2)] at next
        exact next
    · obtain rfl : i = l.length := by omega
      simp only [lessorref25_upper.l0]
      rw [if_neg (by omega)]
theorem ref_upper_eq (x : Rt) (l : List Rt) (hl : l.length ≤ 1000) (hu : ∀ x ∈ l, okU x.f0) (ha : okU x.f0) (k : Nat) (hk : l.length + 60 ≤ k) : lessorref25_upper.f k l x.f0 x.f1 x.f2 = some (upR l x) := by
  unfold lessorref25_upper.f
  exact ref_upper_loop x.f0 x.f1 x.f2 l (by omega) hu ha l.length 0 k (by omega) (by omega) (by omega)
theorem seen_succ (l : List Rt) {j : Nat} (hj : j < l.length) (x : Rt) : seenB l (j + 1) x = (seenB l j x || (l[j].f0 == x.f0 && l[j].f1 == x.f1)) := by
  unfold seenB
  rw [List.take_succ_eq_append_getElem hj, List.any_append]
  simp
theorem ref_lean_in (l : List Rt) (hl : l.length ≤ 1000) (hu : ∀ x ∈ l, okU x.f0) (i K0 : Nat) (hi : i < l.length) (hK : l.length + 100 ≤ K0) (R : List Rt) (ih : ∀ k, K0 ≤ k → lessorref25_Lean.l0 k l (leanUp l (i + 1)) ((i + 1 : Nat) : Int) = some R) :
    ∀ (d j k : Nat), j + d = i → K0 + d + 1 ≤ k → lessorref25_Lean.l1 k l (leanUp l i) (i : Int) (seenB l j l[i]) (j : Int) = some R := by
  obtain ⟨x, hx⟩ : ∃ x, l[i] = x := ⟨_, rfl⟩
  have hg : l.getD i d0 = x := (getD_at l hi).trans hx
  have hxu : okU x.f0 := hu x (hx ▸ List.getElem_mem hi)
  have hw : wrap64 ((i : Int) + 1) = ((i + 1 : Nat) : Int) := by rw [wrapR (by omega) (by omega)]; rfl
  have HW := Lib.hid hw
  clear hw
  rw [hx]
  intro d
  induction d with
  | zero =>
    intro j k hj hk
    obtain rfl : j = i := by omega
    obtain ⟨k, rfl⟩ : ∃ m, k = m + 1 := ⟨k - 1, by omega⟩
    have next := ih k (by omega)
    have hs : leanUp l (j + 1) = if leanX l (seenB l j x) x = true then leanUp l j ++ [x] else leanUp l j := by
      show (if leanX l (seenB l j (l.getD j d0)) (l.getD j d0) = true then leanUp l j ++ [l.getD j d0] else leanUp l j) = _
      rw [hg]
    rw [hs] at next
    have hlen := leanUp_len l j
    have hin := lgUp_in (ltP x.f1) x.f0 l l.length
    have hupd : upR l x = lgUp (ltP x.f1) x.f0 l l.length := rfl
    rw [← hupd] at hin
    simp only [lessorref25_Lean.l1]
    rw [if_neg (by omega), if_pos (by omega), if_pos (by omega), rd_rt l hi, hx, ref_right_eq x hxu k (by omega)]
    simp only [Option.bind_some]
    rw [ref_upper_eq x l hl hu hxu k (by omega)]
    simp only [Option.bind_some]
    rw [HW.out]
    obtain ⟨s, hsv⟩ : ∃ s, seenB l j x = s := ⟨_, rfl⟩
    rw [hsv] at next ⊢
    by_cases c : okR x
    · have hr : rtRight x = true := by rw [rtRight_eq x hxu]; exact decide_eq_true c
      rw [decide_eq_true c, if_pos rfl]
      cases s with
      | true =>
        rw [if_pos rfl]
        rw [if_neg (by simp [leanX])] at next
        exact next
      | false =>
        rw [if_neg (by decide)]
        by_cases cu : upR l x < 0
        · rw [if_pos cu, if_pos (by omega)]
          rw [if_pos (by unfold leanX; rw [hr, show upR l x = -1 from by omega]; rfl)] at next
          exact next
        · obtain ⟨u, hu'⟩ := Int.eq_ofNat_of_zero_le (show 0 ≤ upR l x by omega)
          rw [hu'] at hin
          have hul : u < l.length := by omega
          rw [hu', if_neg (by omega), if_pos (by omega), if_pos (by omega), rd_rt l hul]
          have hX : leanX l false x = (l[u].f2 != x.f2) := by
            unfold leanX
            rw [hr, hu', Int.toNat_natCast, getD_at l hul, show ((u : Int) == -1) = false from beq_eq_false_iff_ne.2 (by omega)]
            simp
          rw [hX] at next
          by_cases cv : l[u].f2 = x.f2
          · rw [if_pos cv]
            rw [cv, if_neg (by simp)] at next
            exact next
          · rw [if_neg cv, if_pos (by omega)]
            rw [if_pos (bne_iff_ne.2 cv)] at next
            exact next
    · have hr : rtRight x = false := by rw [rtRight_eq x hxu]; exact decide_eq_false c
      rw [decide_eq_false c, if_neg (by decide)]
      rw [if_neg (by unfold leanX; rw [hr]; simp)] at next
      exact next
  | succ d ihd =>
    intro j k hj hk
    obtain ⟨k, rfl⟩ : ∃ m, k = m + 1 := ⟨k - 1, by omega⟩
    have next := ihd (j + 1) k (by omega) (by omega)
    have hjl : j < l.length := by omega
    rw [seen_succ l hjl] at next
    have hw2 : wrap64 ((j : Int) + 1) = ((j + 1 : Nat) : Int) := by rw [wrapR (by omega) (by omega)]; rfl
    simp only [lessorref25_Lean.l1]
    rw [if_pos (by omega), hw2]
    clear hw2
    obtain ⟨s, hsv⟩ : ∃ s, seenB l j x = s := ⟨_, rfl⟩
    rw [hsv] at next ⊢
    cases s with
    | true => rw [if_pos rfl]; exact next
    | false =>
      rw [if_neg (by decide), if_pos (by omega), if_pos (by omega), if_pos (by omega), if_pos (by omega), rd_rt l hjl, rd_rt l hi, hx]
      by_cases c : l[j].f0 = x.f0
      · rw [if_pos c]
        rw [c] at next
        simpa using next
      · rw [if_neg c]
        rw [beq_eq_false_iff_ne.2 c] at next
        simpa using next
theorem ref_lean_loop (l : List Rt) (hl : l.length ≤ 1000) (hu : ∀ x ∈ l, okU x.f0) : ∀ (d i k : Nat), l.length ≤ i + d → i ≤ l.length → d * (l.length + 2) + l.length + 110 ≤ k → lessorref25_Lean.l0 k l (leanUp l i) (i : Int) = some (leanUp l l.length) := by
  intro d
  induction d with
  | zero =>
    intro i k h1 h2 hk
    obtain ⟨k, rfl⟩ : ∃ m, k = m + 1 := ⟨k - 1, by omega⟩
    obtain rfl : i = l.length := by omega
    simp only [lessorref25_Lean.l0]
    rw [if_neg (by omega)]
  | succ d ih =>
    intro i k h1 h2 hk
    obtain ⟨k, rfl⟩ : ∃ m, k = m + 1 := ⟨k - 1, by omega⟩
    rw [Nat.succ_mul] at hk
    simp only [lessorref25_Lean.l0]
    by_cases h : i < l.length
    · rw [if_pos (by omega)]
      have hin := ref_lean_in l hl hu i (d * (l.length + 2) + l.length + 110) h (by omega) (leanUp l l.length) (fun k' hk' => ih (i + 1) k' (by omega) (by omega) hk') i 0 k (by omega) (by omega)
      exact hin
    · obtain rfl : i = l.length := by omega
      rw [if_neg (by omega)]
theorem ref_lean_eq (l : List Rt) (hl : l.length ≤ 100) (hu : ∀ x ∈ l, okU x.f0) (k : Nat) (hk : 11000 ≤ k) : lessorref25_Lean.f k l = some (leanUp l l.length) := by
  unfold lessorref25_Lean.f
  refine ref_lean_loop l (by omega) hu l.length 0 k (by omega) (by omega) ?_
  have : l.length * (l.length + 2) ≤ 100 * 102 := Nat.mul_le_mul hl (by omega)
  omega
end Go.Proofs.Yteniakelhalojaa.PR
