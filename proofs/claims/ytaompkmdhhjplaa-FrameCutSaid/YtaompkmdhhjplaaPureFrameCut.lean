/- The statement FrameCut over numbers and lists: of frames that are cut off anywhere just the whole ones are told; what stands behind the last whole one turns nothing ahead of it. No condition. -/
import Derived.Test.YtaompkmdhhjplaaStFrameCut
import Derived.Test.YtaompkmdhhjplaaPureFrameBack
namespace Go.Proofs.Ytaompkmdhhjplaa.frameCut.Pure
open Go.RowKit Go.Proofs.Ytaompkmdhhjplaa Go.Proofs.Ytaompkmdhhjplaa.Pr Go.Proofs.YtaompkmdhhjplaaW.PrintWords Go.Proofs.YtaompkmdhhjplaaW.PrintLast Go.Proofs.YtaompkmdhhjplaaW.PrintMore Go.Proofs.Ytaompkmdhhjplaa.Pure
set_option linter.unusedVariables false
set_option linter.unusedSimpArgs false

/-- Where the frames of the first records end. -/
def E (l : List (List Int)) (j : Nat) : Nat := (puts (l.take j)).length
theorem E_zero (l : List (List Int)) : E l 0 = 0 := by simp [E, puts]
theorem E_succ (l : List (List Int)) {j : Nat} (h : j < l.length) : E l (j + 1) = E l j + (l[j].length + 3) := by
  unfold E
  rw [List.take_succ_eq_append_getElem h, puts_append, puts_one, List.length_append, putOf_len]
theorem E_mono (l : List (List Int)) : ∀ (d i : Nat), E l i ≤ E l (i + d) := by
  intro d
  induction d with
  | zero => intro i; exact Nat.le_refl _
  | succ d ih =>
    intro i
    refine Nat.le_trans (ih i) ?_
    by_cases h : i + d < l.length
    · rw [← Nat.add_assoc, E_succ l h]; omega
    · unfold E
      rw [List.take_of_length_le (by omega), List.take_of_length_le (by omega)]; exact Nat.le_refl _
theorem E_le (l : List (List Int)) {i j : Nat} (h : i ≤ j) : E l i ≤ E l j := by
  obtain ⟨d, rfl⟩ : ∃ d, j = i + d := ⟨j - i, by omega⟩
  exact E_mono l d i
theorem E_full (l : List (List Int)) : E l l.length = (puts l).length := by unfold E; rw [List.take_length]
theorem E_len (l : List (List Int)) (hl : ∀ x ∈ l, x.length ≤ 1000) : ∀ j, E l j ≤ 1003 * j := by
  intro j
  induction j with
  | zero => rw [E_zero]; omega
  | succ j ih =>
    by_cases h : j < l.length
    · rw [E_succ l h]; have := hl _ (List.getElem_mem h); omega
    · have : E l (j + 1) = E l j := by unfold E; rw [List.take_of_length_le (by omega), List.take_of_length_le (by omega)]
      omega

theorem head_at (pre r t : List Int) : (pre ++ (putOf r ++ t)).getD pre.length 0 = (r.length : Int) / 256 % 256 ∧ (pre ++ (putOf r ++ t)).getD (pre.length + 1) 0 = (r.length : Int) % 256 ∧ (pre ++ (putOf r ++ t)).getD (pre.length + 2 + r.length) 0 = 90 := by
  refine ⟨?_, ?_, ?_⟩
  · rw [List.getD_eq_getElem?_getD, List.getElem?_append_right (Nat.le_refl _), Nat.sub_self]; simp [putOf]
  · rw [List.getD_eq_getElem?_getD, List.getElem?_append_right (by omega), show pre.length + 1 - pre.length = 1 from by omega]; simp [putOf]
  · rw [List.getD_eq_getElem?_getD, List.getElem?_append_right (by omega), show pre.length + 2 + r.length - pre.length = r.length + 1 + 1 from by omega]
    simp [putOf]
theorem num_at (pre r t : List Int) (h2 : r.length ≤ 1000) : frNum (pre ++ (putOf r ++ t)) pre.length = r.length := by
  obtain ⟨e1, e2, _⟩ := head_at pre r t
  unfold frNum
  rw [e1, e2]; omega
theorem ok_at (pre r t : List Int) (h1 : 1 ≤ r.length) (h2 : r.length ≤ 1000) : frOk (pre ++ (putOf r ++ t)) pre.length := by
  obtain ⟨e1, e2, e3⟩ := head_at pre r t
  have hn := num_at pre r t h2
  have hl : (pre ++ (putOf r ++ t)).length = pre.length + (r.length + 3) + t.length := by simp [putOf_len]; omega
  refine ⟨by omega, by rw [hn]; omega, by rw [hn]; omega, by rw [hn, hl]; omega, ?_⟩
  rw [hn, Int.toNat_natCast]
  exact e3
theorem rec_at (pre r t : List Int) (h2 : r.length ≤ 1000) : frRec (pre ++ (putOf r ++ t)) pre.length = r ∧ frNext (pre ++ (putOf r ++ t)) pre.length = pre.length + (putOf r).length := by
  have hn := num_at pre r t h2
  constructor
  · unfold frRec
    rw [hn, Int.toNat_natCast]
    have e : pre ++ (putOf r ++ t) = (pre ++ [(r.length : Int) / 256 % 256, (r.length : Int) % 256]) ++ (r ++ ([90] ++ t)) := by simp [putOf]
    rw [e, List.take_append, List.drop_append]
    have l1 : (pre ++ [(r.length : Int) / 256 % 256, (r.length : Int) % 256]).length = pre.length + 2 := by simp
    rw [List.length_take, l1, List.drop_of_length_le (by rw [List.length_take, l1]; omega)]
    rw [show pre.length + 2 + r.length - (pre.length + 2) = r.length from by omega, show pre.length + 2 - min (pre.length + 2 + r.length) (pre.length + 2) = 0 from by omega]
    rw [List.drop_zero, List.take_append_of_le_length (Nat.le_refl _), List.take_length]; rfl
  · unfold frNext
    rw [hn, Int.toNat_natCast, putOf_len]; omega

/-- The frames of records, then whatever. -/
theorem go_puts : ∀ (R : List (List Int)) (pre t : List Int) (j : Nat), (∀ x ∈ R, 1 ≤ x.length ∧ x.length ≤ 1000) → R.length ≤ j →
    ∃ L : List (Nat × List Int), L.map Prod.snd = R ∧ endOf pre.length L = pre.length + (puts R).length ∧
      frGo (pre ++ (puts R ++ t)) j pre.length = L ++ frGo (pre ++ (puts R ++ t)) (j - R.length) (pre.length + (puts R).length) := by
  intro R
  induction R with
  | nil => intro pre t j _ _; exact ⟨[], rfl, by simp [endOf, puts], by simp [puts]⟩
  | cons r R ih =>
    intro pre t j hR hj
    obtain ⟨j, rfl⟩ : ∃ m, j = m + 1 := ⟨j - 1, by simp only [List.length_cons] at hj; omega⟩
    have hr := hR r (List.mem_cons_self ..)
    have e0 : puts (r :: R) = putOf r ++ puts R := by simp [puts]
    have e1 : pre ++ (puts (r :: R) ++ t) = pre ++ (putOf r ++ (puts R ++ t)) := by rw [e0, List.append_assoc]
    have e2 : pre ++ (putOf r ++ (puts R ++ t)) = (pre ++ putOf r) ++ (puts R ++ t) := by rw [List.append_assoc]
    obtain ⟨L, h1, h2, h3⟩ := ih (pre ++ putOf r) t j (fun x hx => hR x (List.mem_cons_of_mem _ hx)) (by simp only [List.length_cons] at hj; omega)
    obtain ⟨q1, q2⟩ := rec_at pre r (puts R ++ t) hr.2
    refine ⟨(pre.length + (putOf r).length, r) :: L, by rw [List.map_cons, h1], ?_, ?_⟩
    · rw [endOf_cons]
      show endOf (pre.length + (putOf r).length) L = _
      rw [← List.length_append, h2, e0]
      simp only [List.length_append]; omega
    · rw [e1]
      simp only [frGo]
      rw [if_pos (ok_at pre r (puts R ++ t) hr.1 hr.2), q1, q2, ← List.length_append, e2, h3, e0]
      simp only [List.length_append, List.length_cons, List.cons_append]
      rw [show j + 1 - (R.length + 1) = j - R.length from by omega, Nat.add_assoc]
theorem endOf_append (a : Nat) : ∀ (L M : List (Nat × List Int)), endOf a (L ++ M) = endOf (endOf a L) M := by
  intro L
  induction L generalizing a with
  | nil => intro M; rfl
  | cons x L ih => intro M; rw [List.cons_append, endOf_cons, endOf_cons, ih]

theorem puts_bytes {l : List (List Int)} (h : ∀ x ∈ l, ∀ y ∈ x, 0 ≤ y ∧ y ≤ 255) : ∀ y ∈ puts l, 0 ≤ y ∧ y ≤ 255 := by
  intro y hy
  unfold puts at hy
  obtain ⟨p, hp, hy⟩ := List.mem_flatten.1 hy
  obtain ⟨x, hx, rfl⟩ := List.mem_map.1 hp
  unfold putOf at hy
  simp only [List.mem_append, List.mem_cons, List.not_mem_nil, or_false] at hy
  rcases hy with ((rfl | rfl) | hy) | rfl
  · omega
  · omega
  · exact h x hx y hy
  · omega

/-- What is told of frames that are cut off. -/
theorem cut_scan {l : List (List Int)} (hl : ∀ x ∈ l, 1 ≤ x.length ∧ x.length ≤ 1000) {W cut : Nat} (hW : W ≤ l.length) (h1 : E l W ≤ cut) (hc : cut ≤ (puts l).length) (h2 : W = l.length ∨ cut < E l (W + 1)) :
    frScan ((puts l).take cut) = (l.take W, (E l W : Int)) := by
  have es : puts l = puts (l.take W) ++ puts (l.drop W) := by rw [← puts_append, List.take_append_drop]
  obtain ⟨t, ht⟩ : ∃ t, t = (puts (l.drop W)).take (cut - E l W) := ⟨_, rfl⟩
  have eb : (puts l).take cut = [] ++ (puts (l.take W) ++ t) := by
    rw [List.nil_append, es, List.take_append, ht]
    rw [List.take_of_length_le (by exact h1)]
    rfl
  have hlen : ((puts l).take cut).length = cut := by rw [List.length_take]; omega
  have htl : E l W + t.length = cut := by
    rw [← hlen, eb, List.nil_append, List.length_append]; rfl
  have hRl : ∀ R : List (List Int), R.length ≤ (puts R).length := by
    intro R
    induction R with
    | nil => simp
    | cons x R ih => simp only [puts, List.map_cons, List.flatten_cons, List.length_append, putOf_len, List.length_cons] at ih ⊢; omega
  have hTW : (l.take W).length = W := by rw [List.length_take]; omega
  obtain ⟨L, g1, g2, g3⟩ := go_puts (l.take W) [] t ((puts l).take cut).length (fun x hx => hl x (List.mem_of_mem_take hx)) (by
    have := hRl (l.take W); have h3 : (puts (l.take W)).length = E l W := rfl; omega)
  have hno : ¬ frOk ([] ++ (puts (l.take W) ++ t)) (E l W) := by
    rintro ⟨o1, o2, o3, o4, o5⟩
    have hbl : ([] ++ (puts (l.take W) ++ t)).length = cut := by rw [← eb, hlen]
    rw [hbl] at o1 o4
    rcases h2 with h2 | h2
    · have : E l W = (puts l).length := by rw [h2, E_full]
      omega
    · by_cases hlt : W < l.length
      · have he := E_succ l hlt
        have hd : l.drop W = l[W] :: l.drop (W + 1) := List.drop_eq_getElem_cons hlt
        have hx := hl _ (List.getElem_mem hlt)
        have e1 : puts (l.drop W) = putOf l[W] ++ puts (l.drop (W + 1)) := by rw [hd]; rfl
        have hn : frNum ([] ++ (puts (l.take W) ++ t)) (E l W) = l[W].length := by
          have hp : ∀ i, i < t.length → t.getD i 0 = (putOf l[W] ++ puts (l.drop (W + 1))).getD i 0 := by
            intro i hi
            rw [ht, e1, List.getD_eq_getElem?_getD, List.getD_eq_getElem?_getD, List.getElem?_take_of_lt (by rw [ht] at hi; rw [List.length_take] at hi; omega)]
          have gt : ∀ i, (([] ++ (puts (l.take W) ++ t)) : List Int).getD (E l W + i) 0 = t.getD i 0 := by
            intro i
            rw [List.nil_append, List.getD_eq_getElem?_getD, List.getElem?_append_right (by show (puts (l.take W)).length ≤ E l W + i; unfold E; omega), List.getD_eq_getElem?_getD]
            congr 2
            show E l W + i - (puts (l.take W)).length = i
            unfold E; omega
          unfold frNum
          rw [show (([] ++ (puts (l.take W) ++ t)) : List Int).getD (E l W) 0 = t.getD 0 0 from gt 0, gt 1, hp 0 (by omega), hp 1 (by omega)]
          have q := head_at [] l[W] (puts (l.drop (W + 1)))
          simp only [List.nil_append, List.length_nil, Nat.zero_add] at q
          rw [q.1, q.2.1]; omega
        rw [hn] at o4
        omega
      · have : E l W = (puts l).length := by rw [← E_full, show W = l.length from by omega]
        omega
  unfold frScan
  rw [eb] at g3 ⊢
  rw [show ([] : List Int).length = 0 from rfl] at g2 g3
  rw [g3]
  have hr : frGo ([] ++ (puts (l.take W) ++ t)) (([] ++ (puts (l.take W) ++ t)).length - (l.take W).length) (0 + (puts (l.take W)).length) = [] := by
    rw [Nat.zero_add]
    cases ([] ++ (puts (l.take W) ++ t)).length - (l.take W).length with
    | zero => rfl
    | succ j => simp only [frGo]; rw [if_neg (show ¬ frOk ([] ++ (puts (l.take W) ++ t)) (puts (l.take W)).length from hno)]
  rw [hr, List.append_nil, endOf_used, g1, g2, Nat.zero_add]
  rfl

/-- What is told of whole frames, whatever stands behind. -/
theorem more_scan {R : List (List Int)} (hl : ∀ x ∈ R, 1 ≤ x.length ∧ x.length ≤ 1000) (t : List Int) (hb : ∀ x ∈ puts R ++ t, 0 ≤ x ∧ x ≤ 255) :
    ∃ M u, frScan (puts R ++ t) = (R ++ M, u) ∧ ((puts R).length : Int) ≤ u := by
  have hRl : ∀ R : List (List Int), R.length ≤ (puts R).length := by
    intro R
    induction R with
    | nil => simp
    | cons x R ih => simp only [puts, List.map_cons, List.flatten_cons, List.length_append, putOf_len, List.length_cons] at ih ⊢; omega
  have hR := hRl R
  obtain ⟨L, g1, g2, g3⟩ := go_puts R [] t (puts R ++ t).length hl (by rw [List.length_append]; omega)
  rw [List.nil_append] at g3
  rw [show ([] : List Int).length = 0 from rfl] at g2 g3
  rw [Nat.zero_add] at g2 g3
  have hs := frGo_spec (puts R ++ t) hb ((puts R ++ t).length - R.length) (puts R).length (by rw [List.length_append]; omega) (by rw [List.length_append]; omega)
  refine ⟨_, _, by unfold frScan; rw [g3, endOf_used, List.map_append, g1, endOf_append, g2], ?_⟩
  have := hs.1
  omega

theorem same_reflC (l : List (List Int)) (hl : l.length ≤ 9000000) : ∀ (d : Nat) (i : Nat) (k : Nat), l.length ≤ i + d → i ≤ l.length → d < k → lessorref09_Same.l0 k l l (i : Int) = some true := by
  intro d
  induction d with
  | zero =>
    intro i k h1 h2 hk
    obtain ⟨k, rfl⟩ : ∃ m, k = m + 1 := ⟨k - 1, by omega⟩
    simp only [lessorref09_Same.l0]
    rw [if_neg (by omega)]
  | succ d ih =>
    intro i k h1 h2 hk
    obtain ⟨k, rfl⟩ : ∃ m, k = m + 1 := ⟨k - 1, by omega⟩
    simp only [lessorref09_Same.l0]
    by_cases h : i < l.length
    · rw [if_pos (by omega), if_pos (by omega), if_pos (by omega), if_pos trivial, wrap_smallB (by omega) (by omega)]
      exact ih (i + 1) k (by omega) (by omega) (by omega)
    · rw [if_neg (by omega)]
theorem sameC (l : List (List Int)) (hl : l.length ≤ 50) (k : Nat) (hk : 60 ≤ k) : lessorref09_Same.f k l l = some true := by
  unfold lessorref09_Same.f
  rw [if_pos rfl]
  exact same_reflC l (by omega) l.length 0 k (by omega) (by omega) (by omega)

/-- The ends that are gathered. -/
def ends (l : List (List Int)) (i : Nat) : List Int := (List.range (i + 1)).map fun j => ((E l j : Nat) : Int)
theorem ends_len (l : List (List Int)) (i : Nat) : (ends l i).length = i + 1 := by simp [ends]
theorem ends_succ (l : List (List Int)) (i : Nat) : ends l (i + 1) = ends l i ++ [((E l (i + 1) : Nat) : Int)] := by
  unfold ends
  rw [List.range_succ, List.map_append]; rfl
theorem rd_ends (l : List (List Int)) (i j : Nat) (h : j ≤ i) : rd (ends l i) (j : Int) = (E l j : Nat) := by
  unfold rd ends
  rw [Int.toNat_natCast, List.getD_eq_getElem?_getD, List.getElem?_map, List.getElem?_range (by omega)]; rfl

theorem fin_ (l : List (List Int)) (m : List Int) (hl : l.length ≤ 50) (hm : m.length ≤ 500) (hb : ∀ x ∈ l, ∀ y ∈ x, 0 ≤ y ∧ y ≤ 255) (hbm : ∀ y ∈ m, 0 ≤ y ∧ y ≤ 255) (hR : ∀ x ∈ l, 1 ≤ x.length ∧ x.length ≤ 1000)
    (cut : Nat) (hc : cut ≤ (puts l).length) : ∀ (d j W k : Nat), l.length + 1 ≤ j + d → 1 ≤ j → j ≤ l.length + 1 → W < j → E l W ≤ cut → (W + 1 = j ∨ cut < E l (W + 1)) → d + 100 < k →
    lessorlaw09_FrameCut.l1 k l m (puts l) (ends l l.length) (cut : Int) (W : Int) (j : Int) = some true := by
  intro d
  have hbig : (puts l).length ≤ 60000 := by have := E_len l (fun x hx => (hR x hx).2) l.length; rw [E_full] at this; omega
  induction d with
  | zero =>
    intro j W k h1 h2 h3 h4 h5 h6 hk
    obtain ⟨k, rfl⟩ : ∃ m, k = m + 1 := ⟨k - 1, by omega⟩
    obtain rfl : j = l.length + 1 := by omega
    have hW : W ≤ l.length := by omega
    have hEW : E l W ≤ (puts l).length := by rw [← E_full]; exact E_le l hW
    have hs1 := cut_scan hR hW h5 hc (by omega)
    have ebt : ∀ x ∈ (puts l).take cut, 0 ≤ x ∧ x ≤ 255 := fun x hx => puts_bytes hb x (List.mem_of_mem_take hx)
    have e1 : frame_Scan.f ((puts l).take cut) = some (l.take W, (E l W : Int)) := by
      unfold frame_Scan.f
      rw [if_pos ⟨by rw [List.length_take]; omega, ebt⟩, hs1]
    have etk : (puts l).take (E l W) = puts (l.take W) := by
      have : puts l = puts (l.take W) ++ puts (l.drop W) := by rw [← puts_append, List.take_append_drop]
      rw [this]
      show ((puts (l.take W)) ++ _).take ((puts (l.take W)).length) = _
      rw [List.take_append_of_le_length (Nat.le_refl _)]
      exact List.take_length
    have ebm : ∀ x ∈ puts (l.take W) ++ m, 0 ≤ x ∧ x ≤ 255 := fun x hx => by
      rcases List.mem_append.1 hx with hx | hx
      · exact puts_bytes (fun y hy => hb y (List.mem_of_mem_take hy)) x hx
      · exact hbm x hx
    obtain ⟨M, u, hs2, hu⟩ := more_scan (fun x hx => hR x (List.mem_of_mem_take hx)) m ebm
    have hpl : (puts (l.take W)).length = E l W := rfl
    have e2 : frame_Scan.f (puts (l.take W) ++ m) = some (l.take W ++ M, u) := by
      unfold frame_Scan.f
      rw [if_pos ⟨by rw [List.length_append]; omega, ebm⟩, hs2]
    have hTW : (l.take W).length = W := by rw [List.length_take]; omega
    have esame := sameC (l.take W) (by omega) k (by omega)
    simp only [lessorlaw09_FrameCut.l1]
    rw [ends_len, if_neg (by omega), if_pos (by omega), if_pos (by omega), Int.toNat_natCast, e1]
    simp only [Option.bind_some]
    rw [if_pos (by omega), if_pos (by omega), rd_ends l l.length W hW, if_pos (by omega), if_pos (by omega), Int.toNat_natCast, etk]
    rw [if_pos (by rw [hpl]; simp only [List.length_nil]; omega), List.nil_append, if_pos (by rw [hpl]; omega), e2]
    simp only [Option.bind_some]
    rw [if_pos (by omega), Int.toNat_natCast, esame]
    simp only [Option.bind_some, if_true]
    rw [hpl] at hu
    rw [if_pos (by omega), if_pos (by rw [List.length_append, hTW]; omega), if_pos (by rw [List.length_append, hTW]; omega)]
    have : (l.take W ++ M).take W = l.take W := by
      rw [List.take_append_of_le_length (by omega), List.take_of_length_le (by omega)]
    rw [this, esame]
    rfl
  | succ d ih =>
    intro j W k h1 h2 h3 h4 h5 h6 hk
    by_cases hj : j = l.length + 1
    · subst hj
      exact ih (l.length + 1) W k (by omega) (by omega) (by omega) h4 h5 h6 (by omega)
    obtain ⟨k, rfl⟩ : ∃ m, k = m + 1 := ⟨k - 1, by omega⟩
    simp only [lessorlaw09_FrameCut.l1]
    have ew : wrap64 ((j : Int) + 1) = ((j + 1 : Nat) : Int) := by rw [wrap_smallB (by omega) (by omega)]; omega
    rw [ends_len, if_pos (by omega), if_pos (by omega), rd_ends l l.length j (by omega), ew]
    by_cases hc2 : E l j ≤ cut
    · rw [if_pos (by omega)]
      exact ih (j + 1) j k (by omega) (by omega) (by omega) (by omega) hc2 (by omega) (by omega)
    · rw [if_neg (by omega)]
      refine ih (j + 1) W k (by omega) (by omega) (by omega) (by omega) h5 ?_ (by omega)
      right
      rcases h6 with h6 | h6
      · rw [h6]; omega
      · exact h6

theorem gather (l : List (List Int)) (a : Int) (m : List Int) (ha : 0 ≤ a) (hl : l.length ≤ 50) (hm : m.length ≤ 500) (hb : ∀ x ∈ l, ∀ y ∈ x, 0 ≤ y ∧ y ≤ 255) (hbm : ∀ y ∈ m, 0 ≤ y ∧ y ≤ 255) :
    ∀ (d i k : Nat), l.length ≤ i + d → i ≤ l.length → (∀ x ∈ l.take i, 1 ≤ x.length ∧ x.length ≤ 1000) → d + 200 < k →
    lessorlaw09_FrameCut.l0 k l a m (puts (l.take i)) (ends l i) (i : Int) = some true := by
  intro d
  have fin : ∀ k, 180 < k → (∀ x ∈ l, 1 ≤ x.length ∧ x.length ≤ 1000) → lessorlaw09_FrameCut.l0 (k + 1) l a m (puts (l.take l.length)) (ends l l.length) (l.length : Int) = some true := by
    intro k hk hR
    simp only [lessorlaw09_FrameCut.l0]
    rw [if_neg (by omega), List.take_length]
    obtain ⟨c, hc⟩ : ∃ c : Nat, mn a ((puts l).length : Int) = c := ⟨(mn a ((puts l).length : Int)).toNat, by unfold mn; split <;> omega⟩
    rw [hc]
    have hcl : c ≤ (puts l).length := by unfold mn at hc; split at hc <;> omega
    exact fin_ l m hl hm hb hbm hR c hcl l.length 1 0 k (by omega) (by omega) (by omega) (by omega) (by rw [E_zero]; omega) (.inl rfl) (by omega)
  induction d with
  | zero =>
    intro i k h1 h2 hR hk
    obtain ⟨k, rfl⟩ : ∃ m, k = m + 1 := ⟨k - 1, by omega⟩
    obtain rfl : i = l.length := by omega
    exact fin k (by omega) (by rwa [List.take_length] at hR)
  | succ d ih =>
    intro i k h1 h2 hR hk
    obtain ⟨k, rfl⟩ : ∃ m, k = m + 1 := ⟨k - 1, by omega⟩
    by_cases h : i < l.length
    · simp only [lessorlaw09_FrameCut.l0]
      rw [if_pos (by omega), if_pos (by omega), rd_get l h]
      by_cases c1 : 1 ≤ l[i].length
      · by_cases c2 : l[i].length ≤ 1000
        · have hsn : puts (l.take i) ++ putOf l[i] = puts (l.take (i + 1)) := by
            rw [List.take_succ_eq_append_getElem h, puts_append, puts_one]
          have hR' : ∀ x ∈ l.take (i + 1), 1 ≤ x.length ∧ x.length ≤ 1000 := fun x hx => by
            rw [List.take_succ_eq_append_getElem h] at hx
            rcases List.mem_append.1 hx with hx | hx
            · exact hR x hx
            · rw [List.mem_singleton.1 hx]; exact ⟨c1, c2⟩
          have hEl : ∀ j, E (l.take i) j ≤ 1003 * j := E_len _ (fun x hx => (hR x hx).2)
          have hpl : (puts (l.take i)).length ≤ 60000 := by
            have := hEl (l.take i).length; rw [E_full] at this; rw [List.length_take] at this; omega
          have hpn : ((puts (l.take (i + 1))).length : Int) = (E l (i + 1) : Nat) := rfl
          rw [put_ok c1 c2]
          simp only [Option.bind_some, if_true]
          rw [if_pos (by rw [putOf_len]; omega), hsn, ends_len, if_pos (by omega), wrap_smallB (by omega) (by omega), hpn, ← ends_succ]
          exact ih (i + 1) k (by omega) (by omega) hR' (by omega)
        · have : frame_Put.f l[i] = some ([], 1) := by
            unfold frame_Put.f
            rw [if_neg (by omega), if_pos (by omega)]
          rw [this]
          simp only [Option.bind_some]
          rw [if_neg (by decide), if_pos trivial, if_neg (by omega), decide_eq_true (by omega)]
      · have : frame_Put.f l[i] = some ([], 1) := by
          unfold frame_Put.f
          rw [if_pos (by omega)]
        rw [this]
        simp only [Option.bind_some]
        rw [if_neg (by decide), if_pos trivial, if_pos (by omega)]
    · obtain rfl : i = l.length := by omega
      exact fin k (by omega) (by rwa [List.take_length] at hR)

theorem FrameCut : frameCut.Pure := by
  intro l a m h1 h2 h3 h4 h5
  refine ⟨300, ?_⟩
  have hb : ∀ x ∈ l, ∀ y ∈ x, 0 ≤ y ∧ y ≤ 255 := fun x hx y hy => u8_wfB ((h2 x hx).2 y hy)
  have hbm : ∀ y ∈ m, 0 ≤ y ∧ y ≤ 255 := fun y hy => u8_wfB (h5 y hy)
  unfold lessorlaw09_FrameCut.f
  rw [awakeB]
  simp only [Option.bind_some, if_true, lessorlaw09_FrameCut.j0]
  by_cases c1 : (l.length : Int) > 50
  · rw [if_pos c1]
  rw [if_neg c1]
  by_cases c2 : (m.length : Int) > 500
  · rw [if_pos c2]
  rw [if_neg c2]
  by_cases c3 : a < 0
  · rw [decide_eq_true c3, if_pos rfl]
  rw [decide_eq_false c3, if_neg (by decide)]
  have := gather l a m (by omega) (by omega) (by omega) hb hbm l.length 0 299 (by omega) (by omega) (by simp) (by omega)
  have e : ends l 0 = [0] := by simp [ends, E_zero]
  rw [e] at this
  simpa [puts] using this

end Go.Proofs.Ytaompkmdhhjplaa.frameCut.Pure
