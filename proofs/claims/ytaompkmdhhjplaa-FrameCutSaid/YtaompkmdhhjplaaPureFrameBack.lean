/- The statement FrameBack over numbers and lists: the records told, put anew, are just the bytes that were said; behind these no frame begins. No condition. -/
import Derived.Test.YtaompkmdhhjplaaPrF6
namespace Go.Proofs.Ytaompkmdhhjplaa.Pure
open Go.RowKit Go.Proofs.Ytaompkmdhhjplaa Go.Proofs.Ytaompkmdhhjplaa.Pr Go.Proofs.YtaompkmdhhjplaaW.PrintWords Go.Proofs.YtaompkmdhhjplaaW.PrintLast
set_option linter.unusedVariables false
set_option linter.unusedSimpArgs false

theorem awakeB : lessorlaw09_awake.f = some true := by decide +kernel
theorem wrap_smallB {x : Int} (h0 : 0 ≤ x) (h1 : x < 9223372036854775808) : wrap64 x = x := by unfold wrap64; omega
theorem u8_wfB {x : Int} (h : (Lit.int .u8 x).wf = true) : 0 ≤ x ∧ x ≤ 255 := by
  simpa [Lit.wf, IntKind.min, IntKind.max, IntKind.signed, IntKind.bits] using h

/-- A record's frame. -/
def putOf (r : List Int) : List Int := [(r.length : Int) / 256 % 256, (r.length : Int) % 256] ++ r ++ [90]
theorem putOf_len (r : List Int) : (putOf r).length = r.length + 3 := by simp [putOf]
theorem put_ok {r : List Int} (h1 : 1 ≤ r.length) (h2 : r.length ≤ 1000) : frame_Put.f r = some (putOf r, 0) := by
  unfold frame_Put.f
  rw [if_neg (by omega), if_neg (by omega)]
  simp only [Option.bind_some]
  rw [if_pos (by simp; omega), if_pos (by simp; omega)]
  rfl
def puts (l : List (List Int)) : List Int := (l.map putOf).flatten

theorem frRec_len {b : List Int} {a : Nat} (h : frOk b a) : ((frRec b a).length : Int) = frNum b a := by
  obtain ⟨h1, h2, h3, h4, h5⟩ := h
  unfold frRec
  rw [List.length_drop, List.length_take]
  omega
theorem getD_take_drop {b : List Int} {a i : Nat} (h : a + i < b.length) : (b.drop a).getD i 0 = b.getD (a + i) 0 := by
  simp [List.getD_eq_getElem?_getD, List.getElem?_drop]
/-- One frame of the bytes is its record's frame. -/
theorem frame_bytes {b : List Int} (hb : ∀ x ∈ b, 0 ≤ x ∧ x ≤ 255) {a : Nat} (h : frOk b a) : (b.take (frNext b a)).drop a = putOf (frRec b a) := by
  have hl := frRec_len h
  have h' := h
  obtain ⟨h1, h2, h3, h4, h5⟩ := h'
  have hn : frNext b a = a + 3 + (frNum b a).toNat := rfl
  have hi : 0 ≤ b.getD a 0 ∧ b.getD a 0 ≤ 255 := by have := rd_byte hb (a : Int); simpa [rd] using this
  have lo : 0 ≤ b.getD (a + 1) 0 ∧ b.getD (a + 1) 0 ≤ 255 := by have := rd_byte hb ((a : Int) + 1); simpa [rd] using this
  have hm : frNum b a = b.getD a 0 * 256 + b.getD (a + 1) 0 := rfl
  have g0 : b.getD a 0 = b[a]'(by omega) := by rw [List.getD_eq_getElem?_getD, List.getElem?_eq_getElem (by omega)]; rfl
  have g1 : b.getD (a + 1) 0 = b[a + 1]'(by omega) := by rw [List.getD_eq_getElem?_getD, List.getElem?_eq_getElem (by omega)]; rfl
  have g2 : b.getD (a + 2 + (frNum b a).toNat) 0 = b[a + 2 + (frNum b a).toNat]'(by omega) := by rw [List.getD_eq_getElem?_getD, List.getElem?_eq_getElem (by omega)]; rfl
  rw [g0] at hm hi
  rw [g1] at hm lo
  rw [g2] at h5
  have hd1 : (b.take (frNext b a)).drop a = b[a]'(by omega) :: b[a + 1]'(by omega) :: (b.take (frNext b a)).drop (a + 2) := by
    rw [List.drop_eq_getElem_cons (by rw [List.length_take]; omega), List.drop_eq_getElem_cons (i := a + 1) (by rw [List.length_take]; omega), List.getElem_take, List.getElem_take]
  have hd2 : (b.take (frNext b a)).drop (a + 2) = frRec b a ++ [90] := by
    rw [hn, show a + 3 + (frNum b a).toNat = a + 2 + (frNum b a).toNat + 1 from by omega, List.take_succ_eq_append_getElem (by omega), List.drop_append_of_le_length (by rw [List.length_take]; omega), h5]
    rfl
  rw [hd1, hd2]
  unfold putOf
  rw [show ((frRec b a).length : Int) / 256 % 256 = b[a]'(by omega) from by omega, show ((frRec b a).length : Int) % 256 = b[a + 1]'(by omega) from by omega]
  rfl

theorem puts_append (l m : List (List Int)) : puts (l ++ m) = puts l ++ puts m := by simp [puts]
theorem puts_one (x : List Int) : puts [x] = putOf x := by simp [puts]

def endOf (a : Nat) (l : List (Nat × List Int)) : Nat := match l.getLast? with | some x => x.1 | none => a
theorem endOf_cons (a : Nat) (x : Nat × List Int) (l : List (Nat × List Int)) : endOf a (x :: l) = endOf x.1 l := by
  unfold endOf
  cases l with
  | nil => rfl
  | cons y l =>
    rw [List.getLast?_cons_cons]
    obtain ⟨z, hz⟩ : ∃ z, (y :: l).getLast? = some z := ⟨_, List.getLast?_eq_some_getLast (by simp)⟩
    rw [hz]
theorem endOf_used (l : List (Nat × List Int)) : frUsed l = (endOf 0 l : Nat) := by unfold endOf frUsed; cases l.getLast? <;> rfl

theorem frGo_spec (b : List Int) (hb : ∀ x ∈ b, 0 ≤ x ∧ x ≤ 255) : ∀ (j a : Nat), b.length ≤ a + j → a ≤ b.length →
    a ≤ endOf a (frGo b j a) ∧ endOf a (frGo b j a) ≤ b.length ∧ ¬ frOk b (endOf a (frGo b j a)) ∧ puts ((frGo b j a).map Prod.snd) = (b.take (endOf a (frGo b j a))).drop a ∧
    ∀ x ∈ (frGo b j a).map Prod.snd, 1 ≤ x.length ∧ x.length ≤ 1000 := by
  intro j
  induction j with
  | zero =>
    intro a h1 h2
    refine ⟨Nat.le_refl _, h2, fun h => by have := h.1; simp only [endOf, frGo, List.getLast?_nil] at this; omega, ?_, by simp [frGo]⟩
    simp [frGo, puts, endOf]
  | succ j ih =>
    intro a h1 h2
    by_cases ok : frOk b a
    · simp only [frGo, if_pos ok, endOf_cons]
      have hl := frRec_len ok
      have ok' := ok
      obtain ⟨o1, o2, o3, o4, o5⟩ := ok'
      have hn : frNext b a = a + 3 + (frNum b a).toNat := rfl
      obtain ⟨i1, i2, i3, i4, i5⟩ := ih (frNext b a) (by omega) (by omega)
      refine ⟨by omega, i2, i3, ?_, ?_⟩
      · have : puts (((frNext b a, frRec b a) :: frGo b j (frNext b a)).map Prod.snd) = putOf (frRec b a) ++ puts ((frGo b j (frNext b a)).map Prod.snd) := by simp [puts]
        rw [this, i4, ← frame_bytes hb ok]
        generalize endOf (frNext b a) (frGo b j (frNext b a)) = u at i1 i2
        rw [show (b.take (frNext b a)).drop a = ((b.take u).drop a).take (frNext b a - a) from by
          rw [List.take_drop, List.take_take]
          congr 2
          omega]
        rw [show (b.take u).drop (frNext b a) = ((b.take u).drop a).drop (frNext b a - a) from by
          rw [List.drop_drop]
          congr 1
          omega]
        exact List.take_append_drop _ _
      · intro x hx
        simp only [List.map_cons, List.mem_cons] at hx
        rcases hx with rfl | hx
        · omega
        · exact i5 x hx
    · simp only [frGo, if_neg ok]
      refine ⟨Nat.le_refl _, h2, ok, ?_, by simp⟩
      simp [puts, endOf]

theorem rest_none {b : List Int} {u : Nat} (h : u ≤ b.length) (hn : ¬ frOk b u) : frGo (b.drop u) (b.drop u).length 0 = [] := by
  have key : ¬ frOk (b.drop u) 0 := by
    intro ⟨h1, h2, h3, h4, h5⟩
    rw [List.length_drop] at h1 h4
    have e : frNum (b.drop u) 0 = frNum b u := by
      unfold frNum
      rw [getD_take_drop (by omega), getD_take_drop (by omega)]
      rfl
    rw [e] at h2 h3 h4 h5
    refine hn ⟨by omega, h2, h3, by omega, ?_⟩
    rw [getD_take_drop (by omega)] at h5
    rw [show u + 2 + (frNum b u).toNat = u + (0 + 2 + (frNum b u).toNat) from by omega]
    exact h5
  cases (b.drop u).length with
  | zero => rfl
  | succ j => simp only [frGo, if_neg key]

theorem rd_get (l : List (List Int)) {i : Nat} (h : i < l.length) : rd_L1 l (i : Int) = l[i] := by
  unfold rd_L1
  rw [Int.toNat_natCast, List.getD_eq_getElem?_getD, List.getElem?_eq_getElem h]
  rfl

theorem back_loop (b : List Int) (hl : b.length ≤ 5000) (R : List (List Int)) (u : Nat) (hu : u ≤ b.length) (hR : ∀ x ∈ R, 1 ≤ x.length ∧ x.length ≤ 1000) (hp : puts R = b.take u) (hs : frame_Scan.f (b.drop u) = some ([], 0)) :
    ∀ (d i : Nat) (k : Nat), R.length ≤ i + d → i ≤ R.length → d < k → lessorlaw09_FrameBack.l0 k b R (u : Int) (puts (R.take i)) (i : Int) = some true := by
  have hlen : ∀ l : List (List Int), l.length ≤ (puts l).length := by
    intro l
    induction l with
    | nil => simp
    | cons x l ih => simp only [puts, List.map_cons, List.flatten_cons, List.length_append, putOf_len, List.length_cons] at ih ⊢; omega
  have hRl : R.length ≤ 5000 := by
    have := hlen R; rw [hp, List.length_take] at this; omega
  intro d
  induction d with
  | zero =>
    intro i k h1 h2 hk
    obtain ⟨k, rfl⟩ : ∃ m, k = m + 1 := ⟨k - 1, by omega⟩
    obtain rfl : i = R.length := by omega
    simp only [lessorlaw09_FrameBack.l0]
    rw [if_neg (by omega), if_pos (by omega), if_pos (by omega), Int.toNat_natCast, hs]
    simp only [Option.bind_some]
    rw [List.take_length, hp]
    simp
  | succ d ih =>
    intro i k h1 h2 hk
    obtain ⟨k, rfl⟩ : ∃ m, k = m + 1 := ⟨k - 1, by omega⟩
    by_cases h : i < R.length
    · simp only [lessorlaw09_FrameBack.l0]
      have hx := hR R[i] (List.getElem_mem h)
      rw [if_pos (by omega), if_pos (by omega), rd_get R h, put_ok hx.1 hx.2]
      simp only [Option.bind_some, if_true]
      have hsn : puts (R.take i) ++ putOf R[i] = puts (R.take (i + 1)) := by
        rw [List.take_succ_eq_append_getElem h, puts_append, puts_one]
      have hpl : (puts (R.take i)).length ≤ 6000 := by
        have h3 : (puts R).length ≤ 5000 := by rw [hp, List.length_take]; omega
        have h4 : puts R = puts (R.take i) ++ puts (R.drop i) := by
          rw [← puts_append, List.take_append_drop]
        rw [h4, List.length_append] at h3
        omega
      rw [if_pos (by rw [putOf_len]; omega), hsn, wrap_smallB (by omega) (by omega)]
      exact ih (i + 1) k (by omega) (by omega) (by omega)
    · obtain rfl : i = R.length := by omega
      simp only [lessorlaw09_FrameBack.l0]
      rw [if_neg (by omega), if_pos (by omega), if_pos (by omega), Int.toNat_natCast, hs]
      simp only [Option.bind_some]
      rw [List.take_length, hp]
      simp

theorem FrameBack : lessorlaw09_FrameBack.Pure := by
  intro l h1 h2 h3
  refine ⟨l.length + 5, ?_⟩
  unfold lessorlaw09_FrameBack.f
  rw [awakeB]
  simp only [Option.bind_some, if_true, lessorlaw09_FrameBack.j0]
  split
  · rfl
  · rename_i hg
    have hlen0 : (l.length : Int) ≤ 5000 := by simpa using hg
    have hlen : l.length ≤ 5000 := by omega
    have hb : ∀ x ∈ l, 0 ≤ x ∧ x ≤ 255 := fun x hx => u8_wfB (h3 x hx)
    have hs : frame_Scan.f l = some (frScan l) := by unfold frame_Scan.f; rw [if_pos ⟨by omega, hb⟩]
    obtain ⟨s1, s2, s3, s4, s5⟩ := frGo_spec l hb l.length 0 (by omega) (by omega)
    have hu : (frScan l).2 = (endOf 0 (frGo l l.length 0) : Nat) := endOf_used _
    have hsr : frame_Scan.f (l.drop (endOf 0 (frGo l l.length 0))) = some ([], 0) := by
      unfold frame_Scan.f
      rw [if_pos ⟨by rw [List.length_drop]; omega, fun x hx => hb x (List.mem_of_mem_drop hx)⟩]
      unfold frScan
      rw [rest_none s2 s3]
      rfl
    have hdec : decide ((endOf 0 (frGo l l.length 0) : Int) > (l.length : Int)) = false := decide_eq_false (by omega)
    have hRl : ((frGo l l.length 0).map Prod.snd).length ≤ l.length := by
      have hlen : ∀ l : List (List Int), l.length ≤ (puts l).length := by
        intro l
        induction l with
        | nil => simp
        | cons x l ih => simp only [puts, List.map_cons, List.flatten_cons, List.length_append, putOf_len, List.length_cons] at ih ⊢; omega
      have := hlen ((frGo l l.length 0).map Prod.snd)
      rw [s4, List.drop_zero, List.length_take] at this
      omega
    rw [hs]
    simp only [Option.bind_some]
    rw [hu, if_neg (by omega), hdec]
    simp only [lessorlaw09_FrameBack.j1]
    rw [if_neg (by decide)]
    have := back_loop l hlen ((frGo l l.length 0).map Prod.snd) (endOf 0 (frGo l l.length 0)) s2 s5 (by rw [s4, List.drop_zero]) hsr ((frGo l l.length 0).map Prod.snd).length 0 (l.length + 3) (by omega) (by omega) (by omega)
    simpa [frScan, puts] using this

end Go.Proofs.Ytaompkmdhhjplaa.Pure
