/-
  Frames, as numbers and lists: what is told of frames that are put one behind the other, of the same cut off anywhere, and of any bytes; both programs' Put, Scan and Same. No condition but on lengths.
-/
import Derived.Test.YtfndajgmjkimgaaHScan
import Derived.Test.YtfndajgmjkimgaaPrF27
import Derived.Test.YtfndajgmjkimgaaPrF32
import Derived.Test.YtfndajgmjkimgaaPrF44
import Derived.Test.YtfndajgmjkimgaaPrF15
namespace Go.Proofs.Ytfndajgmjkimgaa.FrL
open Go.RowKit Go.Proofs.Ytfndajgmjkimgaa Go.Proofs.Ytfndajgmjkimgaa.Pr Go.Proofs.YtfndajgmjkimgaaW.PrintWords Go.Proofs.YtfndajgmjkimgaaW.PrintLast
set_option linter.unusedVariables false
set_option linter.unusedSimpArgs false

theorem wrap_smallB {x : Int} (h0 : 0 ≤ x) (h1 : x < 9223372036854775808) : wrap64 x = x := by unfold wrap64; omega
/-- A record's frame. -/
def putOf (r : List Int) : List Int := [(r.length : Int) / 256 % 256, (r.length : Int) % 256] ++ r ++ [90]
theorem putOf_len (r : List Int) : (putOf r).length = r.length + 3 := by simp [putOf]
theorem put_ok {r : List Int} (h1 : 1 ≤ r.length) (h2 : r.length ≤ 1000) : frame_Put.f r = some (putOf r, 0) := by
  unfold frame_Put.f
  rw [if_neg (by omega), if_neg (by omega)]
  simp only [Option.bind_some]
  rw [if_pos (by simp; omega), if_pos (by simp; omega)]
  rfl
def puts (l : List (List Int)) : List Int := (l.map putOf).flatten

theorem frRec_len {b : List Int} {a : Nat} (h : frOk b a) : ((frRec b a).length : Int) = frNum b a := by
  obtain ⟨h1, h2, h3, h4, h5⟩ := h
  unfold frRec
  rw [List.length_drop, List.length_take]
  omega
theorem getD_take_drop {b : List Int} {a i : Nat} (h : a + i < b.length) : (b.drop a).getD i 0 = b.getD (a + i) 0 := by
  simp [List.getD_eq_getElem?_getD, List.getElem?_drop]
/-- One frame of the bytes is its record's frame. -/
theorem frame_bytes {b : List Int} (hb : ∀ x ∈ b, 0 ≤ x ∧ x ≤ 255) {a : Nat} (h : frOk b a) : (b.take (frNext b a)).drop a = putOf (frRec b a) := by
  have hl := frRec_len h
  have h' := h
  obtain ⟨h1, h2, h3, h4, h5⟩ := h'
  have hn : frNext b a = a + 3 + (frNum b a).toNat := rfl
  have hi : 0 ≤ b.getD a 0 ∧ b.getD a 0 ≤ 255 := by have := rd_byte hb (a : Int); simpa [rd] using this
  have lo : 0 ≤ b.getD (a + 1) 0 ∧ b.getD (a + 1) 0 ≤ 255 := by have := rd_byte hb ((a : Int) + 1); simpa [rd] using this
  have hm : frNum b a = b.getD a 0 * 256 + b.getD (a + 1) 0 := rfl
  have g0 : b.getD a 0 = b[a]'(by omega) := by rw [List.getD_eq_getElem?_getD, List.getElem?_eq_getElem (by omega)]; rfl
  have g1 : b.getD (a + 1) 0 = b[a + 1]'(by omega) := by rw [List.getD_eq_getElem?_getD, List.getElem?_eq_getElem (by omega)]; rfl
  have g2 : b.getD (a + 2 + (frNum b a).toNat) 0 = b[a + 2 + (frNum b a).toNat]'(by omega) := by rw [List.getD_eq_getElem?_getD, List.getElem?_eq_getElem (by omega)]; rfl
  rw [g0] at hm hi
  rw [g1] at hm lo
  rw [g2] at h5
  have hd1 : (b.take (frNext b a)).drop a = b[a]'(by omega) :: b[a + 1]'(by omega) :: (b.take (frNext b a)).drop (a + 2) := by
    rw [List.drop_eq_getElem_cons (by rw [List.length_take]; omega), List.drop_eq_getElem_cons (i := a + 1) (by rw [List.length_take]; omega), List.getElem_take, List.getElem_take]
  have hd2 : (b.take (frNext b a)).drop (a + 2) = frRec b a ++ [90] := by
    rw [hn, show a + 3 + (frNum b a).toNat = a + 2 + (frNum b a).toNat + 1 from by omega, List.take_succ_eq_append_getElem (by omega), List.drop_append_of_le_length (by rw [List.length_take]; omega), h5]
    rfl
  rw [hd1, hd2]
  unfold putOf
  rw [show ((frRec b a).length : Int) / 256 % 256 = b[a]'(by omega) from by omega, show ((frRec b a).length : Int) % 256 = b[a + 1]'(by omega) from by omega]
  rfl

theorem puts_append (l m : List (List Int)) : puts (l ++ m) = puts l ++ puts m := by simp [puts]
theorem puts_one (x : List Int) : puts [x] = putOf x := by simp [puts]

def endOf (a : Nat) (l : List (Nat × List Int)) : Nat := match l.getLast? with | some x => x.1 | none => a
theorem endOf_cons (a : Nat) (x : Nat × List Int) (l : List (Nat × List Int)) : endOf a (x :: l) = endOf x.1 l := by
  unfold endOf
  cases l with
  | nil => rfl
  | cons y l =>
    rw [List.getLast?_cons_cons]
    obtain ⟨z, hz⟩ : ∃ z, (y :: l).getLast? = some z := ⟨_, List.getLast?_eq_some_getLast (by simp)⟩
    rw [hz]
theorem endOf_used (l : List (Nat × List Int)) : frUsed l = (endOf 0 l : Nat) := by unfold endOf frUsed; cases l.getLast? <;> rfl

theorem frGo_spec (b : List Int) (hb : ∀ x ∈ b, 0 ≤ x ∧ x ≤ 255) : ∀ (j a : Nat), b.length ≤ a + j → a ≤ b.length →
    a ≤ endOf a (frGo b j a) ∧ endOf a (frGo b j a) ≤ b.length ∧ ¬ frOk b (endOf a (frGo b j a)) ∧ puts ((frGo b j a).map Prod.snd) = (b.take (endOf a (frGo b j a))).drop a ∧
    ∀ x ∈ (frGo b j a).map Prod.snd, 1 ≤ x.length ∧ x.length ≤ 1000 := by
  intro j
  induction j with
  | zero =>
    intro a h1 h2
    refine ⟨Nat.le_refl _, h2, fun h => by have := h.1; simp only [endOf, frGo, List.getLast?_nil] at this; omega, ?_, by simp [frGo]⟩
    simp [frGo, puts, endOf]
  | succ j ih =>
    intro a h1 h2
    by_cases ok : frOk b a
    · simp only [frGo, if_pos ok, endOf_cons]
      have hl := frRec_len ok
      have ok' := ok
      obtain ⟨o1, o2, o3, o4, o5⟩ := ok'
      have hn : frNext b a = a + 3 + (frNum b a).toNat := rfl
      obtain ⟨i1, i2, i3, i4, i5⟩ := ih (frNext b a) (by omega) (by omega)
      refine ⟨by omega, i2, i3, ?_, ?_⟩
      · have : puts (((frNext b a, frRec b a) :: frGo b j (frNext b a)).map Prod.snd) = putOf (frRec b a) ++ puts ((frGo b j (frNext b a)).map Prod.snd) := by simp [puts]
        rw [this, i4, ← frame_bytes hb ok]
        generalize endOf (frNext b a) (frGo b j (frNext b a)) = u at i1 i2
        rw [show (b.take (frNext b a)).drop a = ((b.take u).drop a).take (frNext b a - a) from by
          rw [List.take_drop, List.take_take]
          congr 2
          omega]
        rw [show (b.take u).drop (frNext b a) = ((b.take u).drop a).drop (frNext b a - a) from by
          rw [List.drop_drop]
          congr 1
          omega]
        exact List.take_append_drop _ _
      · intro x hx
        simp only [List.map_cons, List.mem_cons] at hx
        rcases hx with rfl | hx
        · omega
        · exact i5 x hx
    · simp only [frGo, if_neg ok]
      refine ⟨Nat.le_refl _, h2, ok, ?_, by simp⟩
      simp [puts, endOf]

theorem rest_none {b : List Int} {u : Nat} (h : u ≤ b.length) (hn : ¬ frOk b u) : frGo (b.drop u) (b.drop u).length 0 = [] := by
  have key : ¬ frOk (b.drop u) 0 := by
    intro ⟨h1, h2, h3, h4, h5⟩
    rw [List.length_drop] at h1 h4
    have e : frNum (b.drop u) 0 = frNum b u := by
      unfold frNum
      rw [getD_take_drop (by omega), getD_take_drop (by omega)]
      rfl
    rw [e] at h2 h3 h4 h5
    refine hn ⟨by omega, h2, h3, by omega, ?_⟩
    rw [getD_take_drop (by omega)] at h5
    rw [show u + 2 + (frNum b u).toNat = u + (0 + 2 + (frNum b u).toNat) from by omega]
    exact h5
  cases (b.drop u).length with
  | zero => rfl
  | succ j => simp only [frGo, if_neg key]

/-- Where the frames of the first records end. -/
def E (l : List (List Int)) (j : Nat) : Nat := (puts (l.take j)).length
theorem E_zero (l : List (List Int)) : E l 0 = 0 := by simp [E, puts]
theorem E_succ (l : List (List Int)) {j : Nat} (h : j < l.length) : E l (j + 1) = E l j + (l[j].length + 3) := by
  unfold E
  rw [List.take_succ_eq_append_getElem h, puts_append, puts_one, List.length_append, putOf_len]
theorem E_mono (l : List (List Int)) : ∀ (d i : Nat), E l i ≤ E l (i + d) := by
  intro d
  induction d with
  | zero => intro i; exact Nat.le_refl _
  | succ d ih =>
    intro i
    refine Nat.le_trans (ih i) ?_
    by_cases h : i + d < l.length
    · rw [← Nat.add_assoc, E_succ l h]; omega
    · unfold E
      rw [List.take_of_length_le (by omega), List.take_of_length_le (by omega)]; exact Nat.le_refl _
theorem E_le (l : List (List Int)) {i j : Nat} (h : i ≤ j) : E l i ≤ E l j := by
  obtain ⟨d, rfl⟩ : ∃ d, j = i + d := ⟨j - i, by omega⟩
  exact E_mono l d i
theorem E_full (l : List (List Int)) : E l l.length = (puts l).length := by unfold E; rw [List.take_length]
theorem E_len (l : List (List Int)) (hl : ∀ x ∈ l, x.length ≤ 1000) : ∀ j, E l j ≤ 1003 * j := by
  intro j
  induction j with
  | zero => rw [E_zero]; omega
  | succ j ih =>
    by_cases h : j < l.length
    · rw [E_succ l h]; have := hl _ (List.getElem_mem h); omega
    · have : E l (j + 1) = E l j := by unfold E; rw [List.take_of_length_le (by omega), List.take_of_length_le (by omega)]
      omega

theorem head_at (pre r t : List Int) : (pre ++ (putOf r ++ t)).getD pre.length 0 = (r.length : Int) / 256 % 256 ∧ (pre ++ (putOf r ++ t)).getD (pre.length + 1) 0 = (r.length : Int) % 256 ∧ (pre ++ (putOf r ++ t)).getD (pre.length + 2 + r.length) 0 = 90 := by
  refine ⟨?_, ?_, ?_⟩
  · rw [List.getD_eq_getElem?_getD, List.getElem?_append_right (Nat.le_refl _), Nat.sub_self]; simp [putOf]
  · rw [List.getD_eq_getElem?_getD, List.getElem?_append_right (by omega), show pre.length + 1 - pre.length = 1 from by omega]; simp [putOf]
  · rw [List.getD_eq_getElem?_getD, List.getElem?_append_right (by omega), show pre.length + 2 + r.length - pre.length = r.length + 1 + 1 from by omega]
    simp [putOf]
theorem num_at (pre r t : List Int) (h2 : r.length ≤ 1000) : frNum (pre ++ (putOf r ++ t)) pre.length = r.length := by
  obtain ⟨e1, e2, _⟩ := head_at pre r t
  unfold frNum
  rw [e1, e2]; omega
theorem ok_at (pre r t : List Int) (h1 : 1 ≤ r.length) (h2 : r.length ≤ 1000) : frOk (pre ++ (putOf r ++ t)) pre.length := by
  obtain ⟨e1, e2, e3⟩ := head_at pre r t
  have hn := num_at pre r t h2
  have hl : (pre ++ (putOf r ++ t)).length = pre.length + (r.length + 3) + t.length := by simp [putOf_len]; omega
  refine ⟨by omega, by rw [hn]; omega, by rw [hn]; omega, by rw [hn, hl]; omega, ?_⟩
  rw [hn, Int.toNat_natCast]
  exact e3
theorem rec_at (pre r t : List Int) (h2 : r.length ≤ 1000) : frRec (pre ++ (putOf r ++ t)) pre.length = r ∧ frNext (pre ++ (putOf r ++ t)) pre.length = pre.length + (putOf r).length := by
  have hn := num_at pre r t h2
  constructor
  · unfold frRec
    rw [hn, Int.toNat_natCast]
    have e : pre ++ (putOf r ++ t) = (pre ++ [(r.length : Int) / 256 % 256, (r.length : Int) % 256]) ++ (r ++ ([90] ++ t)) := by simp [putOf]
    rw [e, List.take_append, List.drop_append]
    have l1 : (pre ++ [(r.length : Int) / 256 % 256, (r.length : Int) % 256]).length = pre.length + 2 := by simp
    rw [List.length_take, l1, List.drop_of_length_le (by rw [List.length_take, l1]; omega)]
    rw [show pre.length + 2 + r.length - (pre.length + 2) = r.length from by omega, show pre.length + 2 - min (pre.length + 2 + r.length) (pre.length + 2) = 0 from by omega]
    rw [List.drop_zero, List.take_append_of_le_length (Nat.le_refl _), List.take_length]; rfl
  · unfold frNext
    rw [hn, Int.toNat_natCast, putOf_len]; omega

/-- The frames of records, then whatever. -/
theorem go_puts : ∀ (R : List (List Int)) (pre t : List Int) (j : Nat), (∀ x ∈ R, 1 ≤ x.length ∧ x.length ≤ 1000) → R.length ≤ j →
    ∃ L : List (Nat × List Int), L.map Prod.snd = R ∧ endOf pre.length L = pre.length + (puts R).length ∧
      frGo (pre ++ (puts R ++ t)) j pre.length = L ++ frGo (pre ++ (puts R ++ t)) (j - R.length) (pre.length + (puts R).length) := by
  intro R
  induction R with
  | nil => intro pre t j _ _; exact ⟨[], rfl, by simp [endOf, puts], by simp [puts]⟩
  | cons r R ih =>
    intro pre t j hR hj
    obtain ⟨j, rfl⟩ : ∃ m, j = m + 1 := ⟨j - 1, by simp only [List.length_cons] at hj; omega⟩
    have hr := hR r (List.mem_cons_self ..)
    have e0 : puts (r :: R) = putOf r ++ puts R := by simp [puts]
    have e1 : pre ++ (puts (r :: R) ++ t) = pre ++ (putOf r ++ (puts R ++ t)) := by rw [e0, List.append_assoc]
    have e2 : pre ++ (putOf r ++ (puts R ++ t)) = (pre ++ putOf r) ++ (puts R ++ t) := by rw [List.append_assoc]
    obtain ⟨L, h1, h2, h3⟩ := ih (pre ++ putOf r) t j (fun x hx => hR x (List.mem_cons_of_mem _ hx)) (by simp only [List.length_cons] at hj; omega)
    obtain ⟨q1, q2⟩ := rec_at pre r (puts R ++ t) hr.2
    refine ⟨(pre.length + (putOf r).length, r) :: L, by rw [List.map_cons, h1], ?_, ?_⟩
    · rw [endOf_cons]
      show endOf (pre.length + (putOf r).length) L = _
      rw [← List.length_append, h2, e0]
      simp only [List.length_append]; omega
    · rw [e1]
      simp only [frGo]
      rw [if_pos (ok_at pre r (puts R ++ t) hr.1 hr.2), q1, q2, ← List.length_append, e2, h3, e0]
      simp only [List.length_append, List.length_cons, List.cons_append]
      rw [show j + 1 - (R.length + 1) = j - R.length from by omega, Nat.add_assoc]
theorem endOf_append (a : Nat) : ∀ (L M : List (Nat × List Int)), endOf a (L ++ M) = endOf (endOf a L) M := by
  intro L
  induction L generalizing a with
  | nil => intro M; rfl
  | cons x L ih => intro M; rw [List.cons_append, endOf_cons, endOf_cons, ih]

theorem puts_bytes {l : List (List Int)} (h : ∀ x ∈ l, ∀ y ∈ x, 0 ≤ y ∧ y ≤ 255) : ∀ y ∈ puts l, 0 ≤ y ∧ y ≤ 255 := by
  intro y hy
  unfold puts at hy
  obtain ⟨p, hp, hy⟩ := List.mem_flatten.1 hy
  obtain ⟨x, hx, rfl⟩ := List.mem_map.1 hp
  unfold putOf at hy
  simp only [List.mem_append, List.mem_cons, List.not_mem_nil, or_false] at hy
  rcases hy with ((rfl | rfl) | hy) | rfl
  · omega
  · omega
  · exact h x hx y hy
  · omega

/-- What is told of frames that are cut off. -/
theorem cut_scan {l : List (List Int)} (hl : ∀ x ∈ l, 1 ≤ x.length ∧ x.length ≤ 1000) {W cut : Nat} (hW : W ≤ l.length) (h1 : E l W ≤ cut) (hc : cut ≤ (puts l).length) (h2 : W = l.length ∨ cut < E l (W + 1)) :
    frScan ((puts l).take cut) = (l.take W, (E l W : Int)) := by
  have es : puts l = puts (l.take W) ++ puts (l.drop W) := by rw [← puts_append, List.take_append_drop]
  obtain ⟨t, ht⟩ : ∃ t, t = (puts (l.drop W)).take (cut - E l W) := ⟨_, rfl⟩
  have eb : (puts l).take cut = [] ++ (puts (l.take W) ++ t) := by
    rw [List.nil_append, es, List.take_append, ht]
    rw [List.take_of_length_le (by exact h1)]
    rfl
  have hlen : ((puts l).take cut).length = cut := by rw [List.length_take]; omega
  have htl : E l W + t.length = cut := by
    rw [← hlen, eb, List.nil_append, List.length_append]; rfl
  have hRl : ∀ R : List (List Int), R.length ≤ (puts R).length := by
    intro R
    induction R with
    | nil => simp
    | cons x R ih => simp only [puts, List.map_cons, List.flatten_cons, List.length_append, putOf_len, List.length_cons] at ih ⊢; omega
  have hTW : (l.take W).length = W := by rw [List.length_take]; omega
  obtain ⟨L, g1, g2, g3⟩ := go_puts (l.take W) [] t ((puts l).take cut).length (fun x hx => hl x (List.mem_of_mem_take hx)) (by
    have := hRl (l.take W); have h3 : (puts (l.take W)).length = E l W := rfl; omega)
  have hno : ¬ frOk ([] ++ (puts (l.take W) ++ t)) (E l W) := by
    rintro ⟨o1, o2, o3, o4, o5⟩
    have hbl : ([] ++ (puts (l.take W) ++ t)).length = cut := by rw [← eb, hlen]
    rw [hbl] at o1 o4
    rcases h2 with h2 | h2
    · have : E l W = (puts l).length := by rw [h2, E_full]
      omega
    · by_cases hlt : W < l.length
      · have he := E_succ l hlt
        have hd : l.drop W = l[W] :: l.drop (W + 1) := List.drop_eq_getElem_cons hlt
        have hx := hl _ (List.getElem_mem hlt)
        have e1 : puts (l.drop W) = putOf l[W] ++ puts (l.drop (W + 1)) := by rw [hd]; rfl
        have hn : frNum ([] ++ (puts (l.take W) ++ t)) (E l W) = l[W].length := by
          have hp : ∀ i, i < t.length → t.getD i 0 = (putOf l[W] ++ puts (l.drop (W + 1))).getD i 0 := by
            intro i hi
            rw [ht, e1, List.getD_eq_getElem?_getD, List.getD_eq_getElem?_getD, List.getElem?_take_of_lt (by rw [ht] at hi; rw [List.length_take] at hi; omega)]
          have gt : ∀ i, (([] ++ (puts (l.take W) ++ t)) : List Int).getD (E l W + i) 0 = t.getD i 0 := by
            intro i
            rw [List.nil_append, List.getD_eq_getElem?_getD, List.getElem?_append_right (by show (puts (l.take W)).length ≤ E l W + i; unfold E; omega), List.getD_eq_getElem?_getD]
            congr 2
            show E l W + i - (puts (l.take W)).length = i
            unfold E; omega
          unfold frNum
          rw [show (([] ++ (puts (l.take W) ++ t)) : List Int).getD (E l W) 0 = t.getD 0 0 from gt 0, gt 1, hp 0 (by omega), hp 1 (by omega)]
          have q := head_at [] l[W] (puts (l.drop (W + 1)))
          simp only [List.nil_append, List.length_nil, Nat.zero_add] at q
          rw [q.1, q.2.1]; omega
        rw [hn] at o4
        omega
      · have : E l W = (puts l).length := by rw [← E_full, show W = l.length from by omega]
        omega
  unfold frScan
  rw [eb] at g3 ⊢
  rw [show ([] : List Int).length = 0 from rfl] at g2 g3
  rw [g3]
  have hr : frGo ([] ++ (puts (l.take W) ++ t)) (([] ++ (puts (l.take W) ++ t)).length - (l.take W).length) (0 + (puts (l.take W)).length) = [] := by
    rw [Nat.zero_add]
    cases ([] ++ (puts (l.take W) ++ t)).length - (l.take W).length with
    | zero => rfl
    | succ j => simp only [frGo]; rw [if_neg (show ¬ frOk ([] ++ (puts (l.take W) ++ t)) (puts (l.take W)).length from hno)]
  rw [hr, List.append_nil, endOf_used, g1, g2, Nat.zero_add]
  rfl

/-- What is told of whole frames, whatever stands behind. -/
theorem more_scan {R : List (List Int)} (hl : ∀ x ∈ R, 1 ≤ x.length ∧ x.length ≤ 1000) (t : List Int) (hb : ∀ x ∈ puts R ++ t, 0 ≤ x ∧ x ≤ 255) :
    ∃ M u, frScan (puts R ++ t) = (R ++ M, u) ∧ ((puts R).length : Int) ≤ u := by
  have hRl : ∀ R : List (List Int), R.length ≤ (puts R).length := by
    intro R
    induction R with
    | nil => simp
    | cons x R ih => simp only [puts, List.map_cons, List.flatten_cons, List.length_append, putOf_len, List.length_cons] at ih ⊢; omega
  have hR := hRl R
  obtain ⟨L, g1, g2, g3⟩ := go_puts R [] t (puts R ++ t).length hl (by rw [List.length_append]; omega)
  rw [List.nil_append] at g3
  rw [show ([] : List Int).length = 0 from rfl] at g2 g3
  rw [Nat.zero_add] at g2 g3
  have hs := frGo_spec (puts R ++ t) hb ((puts R ++ t).length - R.length) (puts R).length (by rw [List.length_append]; omega) (by rw [List.length_append]; omega)
  refine ⟨_, _, by unfold frScan; rw [g3, endOf_used, List.map_append, g1, endOf_append, g2], ?_⟩
  have := hs.1
  omega

theorem same_reflC (l : List (List Int)) (hl : l.length ≤ 9000000) : ∀ (d : Nat) (i : Nat) (k : Nat), l.length ≤ i + d → i ≤ l.length → d < k → lessorref09_Same.l0 k l l (i : Int) = some true := by
  intro d
  induction d with
  | zero =>
    intro i k h1 h2 hk
    obtain ⟨k, rfl⟩ : ∃ m, k = m + 1 := ⟨k - 1, by omega⟩
    simp only [lessorref09_Same.l0]
    rw [if_neg (by omega)]
  | succ d ih =>
    intro i k h1 h2 hk
    obtain ⟨k, rfl⟩ : ∃ m, k = m + 1 := ⟨k - 1, by omega⟩
    simp only [lessorref09_Same.l0]
    by_cases h : i < l.length
    · rw [if_pos (by omega), if_pos (by omega), if_pos (by omega), if_pos trivial, wrap_smallB (by omega) (by omega)]
      exact ih (i + 1) k (by omega) (by omega) (by omega)
    · rw [if_neg (by omega)]
theorem sameL (l : List (List Int)) (hl : l.length ≤ 9000000) (k : Nat) (hk : l.length + 2 < k) : lessorref09_Same.f k l l = some true := by
  unfold lessorref09_Same.f
  rw [if_pos rfl]
  exact same_reflC l hl l.length 0 k (by omega) (by omega) (by omega)

def rOk (x : List Int) : Prop := 1 ≤ x.length ∧ x.length ≤ 1000
theorem scan_puts {R : List (List Int)} (h : ∀ x ∈ R, rOk x) : frScan (puts R) = (R, ((puts R).length : Int)) := by
  have := cut_scan (l := R) (W := R.length) (cut := (puts R).length) h (Nat.le_refl _) (by rw [E_full]; exact Nat.le_refl _) (Nat.le_refl _) (.inl rfl)
  rw [List.take_length, List.take_length, E_full] at this
  exact this
theorem puts_snoc (R : List (List Int)) (b : List Int) : puts (R ++ [b]) = puts R ++ putOf b := by rw [puts_append, puts_one]
theorem puts_len {R : List (List Int)} : R.length ≤ (puts R).length := by
  induction R with
  | nil => simp
  | cons x R ih => simp only [puts, List.map_cons, List.flatten_cons, List.length_append, putOf_len, List.length_cons] at ih ⊢; omega
/-- What is told of any bytes. -/
theorem scan_any (b : List Int) (hb : ∀ x ∈ b, 0 ≤ x ∧ x ≤ 255) : ∃ u : Nat, u ≤ b.length ∧ (frScan b).2 = (u : Int) ∧ puts (frScan b).1 = b.take u ∧ ∀ x ∈ (frScan b).1, rOk x := by
  obtain ⟨h1, h2, h3, h4, h5⟩ := frGo_spec b hb b.length 0 (by omega) (by omega)
  refine ⟨endOf 0 (frGo b b.length 0), h2, ?_, ?_, h5⟩
  · show frUsed _ = _; rw [endOf_used]
  · show puts ((frGo b b.length 0).map Prod.snd) = _; rw [h4, List.drop_zero]
theorem scan_f {b : List Int} (hl : b.length < 1099511627776) (hb : ∀ x ∈ b, 0 ≤ x ∧ x ≤ 255) : frame_Scan.f b = some (frScan b) := by unfold frame_Scan.f; rw [if_pos ⟨hl, hb⟩]
theorem put_no {r : List Int} (h : ¬ rOk r) : frame_Put.f r = some ([], 1) := by
  unfold frame_Put.f
  unfold rOk at h
  by_cases c : (r.length : Int) < 1
  · rw [if_pos c]
  · rw [if_neg c, if_pos (by omega)]
theorem ref_put_ok {r : List Int} (h : rOk r) : lessorref09_Put.f r = some (putOf r, 0) := by
  obtain ⟨h1, h2⟩ := h
  unfold lessorref09_Put.f
  rw [if_neg (by omega), if_neg (by omega)]
  have e3 : wrap64 ((r.length : Int) / 256) = (r.length : Int) / 256 := wrap_smallB (by omega) (by omega)
  simp only [Option.bind_some, e3]
  rw [if_pos (by simp; omega)]
  try rw [if_pos (by simp; omega)]
  simp [putOf]
theorem ref_put_no {r : List Int} (h : ¬ rOk r) : lessorref09_Put.f r = some ([], 1) := by
  unfold lessorref09_Put.f
  unfold rOk at h
  by_cases c : (r.length : Int) < 1
  · rw [if_pos c]
  · rw [if_neg c, if_pos (by omega)]

def usedFrom (a : Nat) (l : List (Nat × List Int)) : Int := match l.getLast? with | some x => x.1 | none => a
theorem usedFrom_cons (a : Nat) (x : Nat × List Int) (l : List (Nat × List Int)) : usedFrom a (x :: l) = usedFrom x.1 l := by
  unfold usedFrom
  cases l with
  | nil => rfl
  | cons y l =>
    rw [List.getLast?_cons_cons]
    obtain ⟨z, hz⟩ : ∃ z, (y :: l).getLast? = some z := ⟨_, List.getLast?_eq_some_getLast (by simp)⟩
    rw [hz]

theorem usedFrom_zero (l : List (Nat × List Int)) : usedFrom 0 l = frUsed l := by unfold usedFrom frUsed; cases l.getLast? <;> rfl

theorem ref_scan (b : List Int) (hb : ∀ x ∈ b, 0 ≤ x ∧ x ≤ 255) (hl : b.length ≤ 2000000) : ∀ (j : Nat) (a : Nat) (pre : List (List Int)) (k : Nat), a ≤ b.length → b.length ≤ a + j → j < k → pre.length ≤ a →
    lessorref09_Scan.l0 k b pre (a : Int) = some (pre ++ (frGo b j a).map Prod.snd, usedFrom a (frGo b j a)) := by
  intro j
  induction j with
  | zero =>
    intro a pre k ha hj hk hp
    obtain ⟨k, rfl⟩ : ∃ m, k = m + 1 := ⟨k - 1, by omega⟩
    simp only [lessorref09_Scan.l0]
    rw [wrap_smallB (by omega) (by omega), if_neg (by omega)]
    simp [frGo, usedFrom]
  | succ j ih =>
    intro a pre k ha hj hk hp
    obtain ⟨k, rfl⟩ : ∃ m, k = m + 1 := ⟨k - 1, by omega⟩
    simp only [lessorref09_Scan.l0, frGo]
    have e2 : wrap64 ((a : Int) + 2) = a + 2 := wrap_smallB (by omega) (by omega)
    simp only [e2]
    by_cases h2 : a + 2 < b.length
    · have e1 : wrap64 ((a : Int) + 1) = a + 1 := wrap_smallB (by omega) (by omega)
      have e3 : wrap64 ((a : Int) + 3) = a + 3 := wrap_smallB (by omega) (by omega)
      obtain ⟨hi, ehi⟩ : ∃ z, rd b (a : Int) = z := ⟨_, rfl⟩
      obtain ⟨lo, elo⟩ : ∃ z, rd b ((a : Int) + 1) = z := ⟨_, rfl⟩
      have bhi : 0 ≤ hi ∧ hi ≤ 255 := by rw [← ehi]; exact rd_byte hb _
      have blo : 0 ≤ lo ∧ lo ≤ 255 := by rw [← elo]; exact rd_byte hb _
      obtain ⟨m, hm⟩ : ∃ m : Int, hi * 256 + lo = m := ⟨_, rfl⟩
      have e4 : wrap64 hi = hi := wrap_smallB (by omega) (by omega)
      have e5 : wrap64 lo = lo := wrap_smallB (by omega) (by omega)
      have e6 : wrap64 (hi * 256) = hi * 256 := wrap_smallB (by omega) (by omega)
      have e7 : wrap64 (hi * 256 + lo) = m := by rw [hm]; exact wrap_smallB (by omega) (by omega)
      have e8 : wrap64 ((a : Int) + 3 + m) = a + 3 + m := wrap_smallB (by omega) (by omega)
      have e9 : wrap64 ((a : Int) + 2 + m) = a + 2 + m := wrap_smallB (by omega) (by omega)
      have HM : frNum b a = m := by
        have r1 : b.getD a 0 = hi := ehi
        have r2 : b.getD (a + 1) 0 = lo := by have h := elo; unfold rd at h; rwa [show ((a : Int) + 1).toNat = a + 1 from by omega] at h
        unfold frNum; rw [r1, r2]; exact hm
      simp only [e1, e3, ehi, elo, e4, e5, e6, e7, e8, e9]
      rw [if_pos (by omega), if_pos (by omega), if_pos (by omega), if_pos (by omega), if_pos (by omega)]
      by_cases t1 : m < 1
      · rw [if_pos t1, if_neg (fun h : frOk b a => by have := h.2.1; omega)]; simp [usedFrom]
      · rw [if_neg t1]
        by_cases t2 : m > 1000
        · rw [if_pos t2, if_neg (fun h : frOk b a => by have := h.2.2.1; omega)]; simp [usedFrom]
        · rw [if_neg t2]
          by_cases t3 : (a : Int) + 3 + m > b.length
          · rw [if_pos t3, if_neg (fun h : frOk b a => by have := h.2.2.2.1; omega)]; simp [usedFrom]
          · rw [if_neg t3, if_pos (by omega), if_pos (by omega)]
            have r3 : rd b ((a : Int) + 2 + m) = b.getD (a + 2 + (frNum b a).toNat) 0 := by unfold rd; rw [HM, show ((a : Int) + 2 + m).toNat = a + 2 + m.toNat from by omega]
            by_cases t4 : rd b ((a : Int) + 2 + m) = 90
            · have ok : frOk b a := ⟨h2, by omega, by omega, by omega, by rw [← r3]; exact t4⟩
              rw [if_pos t4, if_pos ok]
              simp only [Option.bind_some]
              have hlen : ((List.take ((a : Int) + 2 + m).toNat b).drop ((a : Int) + 2).toNat).length ≤ b.length := by rw [List.length_drop, List.length_take]; omega
              rw [if_pos (by omega), if_pos (by omega), if_pos (by omega), if_pos (by simp only [List.length_nil]; omega), if_pos (by omega)]
              have hn : (a : Int) + 3 + m = (frNext b a : Nat) := by unfold frNext; rw [HM]; omega
              have hr : List.drop ((a : Int) + 2).toNat (List.take ((a : Int) + 2 + m).toNat b) = frRec b a := by
                unfold frRec; rw [HM, show ((a : Int) + 2 + m).toNat = a + 2 + m.toNat from by omega, show ((a : Int) + 2).toNat = a + 2 from by omega]
              rw [hn, List.nil_append, hr, ih (frNext b a) (pre ++ [frRec b a]) k (by omega) (by omega) (by omega) (by simp; omega), usedFrom_cons]
              simp
            · rw [if_neg t4, if_neg (fun h : frOk b a => t4 (by rw [r3]; exact h.2.2.2.2))]; simp [usedFrom]
    · rw [if_neg (by omega), if_neg (fun h : frOk b a => h2 h.1)]; simp [usedFrom]

theorem frGo_len (b : List Int) : ∀ (j a : Nat), (frGo b j a).length ≤ j := by
  intro j
  induction j with
  | zero => intro a; simp [frGo]
  | succ j ih => intro a; simp only [frGo]; split <;> simp; exact ih _


theorem ref_scan_f {b : List Int} (hl : b.length ≤ 2000000) (hb : ∀ x ∈ b, 0 ≤ x ∧ x ≤ 255) : lessorref09_Scan.f (b.length + 2) b = some (frScan b) := by
  unfold lessorref09_Scan.f
  have := ref_scan b hb hl b.length 0 [] (b.length + 2) (by omega) (by omega) (by omega) (by simp)
  have e : usedFrom 0 (frGo b b.length 0) = frUsed (frGo b b.length 0) := by unfold usedFrom frUsed; cases (frGo b b.length 0).getLast? <;> rfl
  rw [e] at this
  simpa [frScan] using this

end Go.Proofs.Ytfndajgmjkimgaa.FrL
