/-
  What a put makes of options, over lists: what was put is found, just once, and all others are as they were.
-/
import Derived.Test.YtmbfdmceameghaaHOpt0
namespace Go.Proofs.Ytmbfdmceameghaa
open Go.RowKit Go.Proofs.Ytmbfdmceameghaa.Pr Go.Proofs.YtmbfdmceameghaaW.PrintWords Go.Proofs.YtmbfdmceameghaaW.PrintLast Go.Proofs.YtmbfdmceameghaaW.PrintMore
set_option linter.unusedVariables false
set_option linter.unusedSimpArgs false

/-! ### what a put makes -/
theorem opPut_nil (code : Int) (data : List Int) : opPut [] code data = [⟨code, data⟩] := by simp [opPut, ixOf]
theorem opPut_cons (y : OptF) (l : List OptF) (code : Int) (data : List Int) : opPut (y :: l) code data = if y.f0 = code then ⟨code, data⟩ :: l.filter (fun x => !(x.f0 == code)) else y :: opPut l code data := by
  by_cases h : y.f0 = code
  · have e : ixOf (fun x : OptF => x.f0 == code) (y :: l) = 0 := by
      unfold ixOf
      rw [List.findIdx_cons]
      simp [h]
    rw [if_pos h]
    unfold opPut
    rw [e, if_pos (by decide)]
    simp
  · rw [if_neg h]
    have hb : (y.f0 == code) = false := beq_eq_false_iff_ne.2 h
    unfold opPut ixOf
    rw [List.findIdx_cons]
    simp only [hb, cond_false, List.length_cons]
    by_cases hlt : l.findIdx (fun x => x.f0 == code) < l.length
    · rw [if_pos (by omega), if_pos hlt, if_pos (by omega), if_pos (by omega)]
      rw [show ((l.findIdx (fun x => x.f0 == code) + 1 : Nat) : Int).toNat = l.findIdx (fun x => x.f0 == code) + 1 from by omega, Int.toNat_natCast]
      simp
    · rw [if_neg (by omega), if_neg hlt, if_neg (by decide)]
      simp
def notA (a : Int) (l : List OptF) : List OptF := l.filter (fun x => !(x.f0 == a))
def howA (a : Int) (l : List OptF) : Nat := (l.filter (fun x => x.f0 == a)).length
theorem put_others (a : Int) (data : List Int) : ∀ l : List OptF, notA a (opPut l a data) = notA a l
  | [] => by simp [notA, opPut_nil]
  | y :: l => by
    rw [opPut_cons]
    have ih := put_others a data l
    unfold notA at ih ⊢
    by_cases h : y.f0 = a
    · rw [if_pos h]; simp [h]
    · rw [if_neg h]; simp [h, ih]
theorem put_once (a : Int) (data : List Int) : ∀ l : List OptF, howA a (opPut l a data) = 1
  | [] => by simp [howA, opPut_nil]
  | y :: l => by
    rw [opPut_cons]
    have ih := put_once a data l
    unfold howA at ih ⊢
    by_cases h : y.f0 = a
    · rw [if_pos h]
      simp [List.filter_filter]
    · rw [if_neg h]; simp [h, ih]
theorem put_found (a : Int) (data : List Int) : ∀ l : List OptF, opFind (opPut l a data) a = (data, true)
  | [] => by simp [opFind, opPut_nil]
  | y :: l => by
    rw [opPut_cons]
    have ih := put_found a data l
    unfold opFind at ih ⊢
    by_cases h : y.f0 = a
    · rw [if_pos h]; simp
    · rw [if_neg h, List.find?_cons, show (y.f0 == a) = false from beq_eq_false_iff_ne.2 h]; exact ih
theorem find_filter (a b : Int) (h : b ≠ a) : ∀ l : List OptF, (l.filter (fun x => !(x.f0 == a))).find? (fun x => x.f0 == b) = l.find? (fun x => x.f0 == b)
  | [] => rfl
  | y :: l => by
    have ih := find_filter a b h l
    by_cases h1 : y.f0 = a
    · have e1 : (y.f0 == a) = true := beq_iff_eq.2 h1
      have e2 : (y.f0 == b) = false := beq_eq_false_iff_ne.2 (by rw [h1]; exact Ne.symm h)
      simp [e1, e2, ih]
    · have e1 : (y.f0 == a) = false := beq_eq_false_iff_ne.2 h1
      rw [List.filter_cons_of_pos (by simp [h1]), List.find?_cons, List.find?_cons, ih]
theorem put_other (a b : Int) (h : b ≠ a) (data : List Int) : ∀ l : List OptF, opFind (opPut l a data) b = opFind l b := by
  have key : ∀ l : List OptF, (opPut l a data).find? (fun x => x.f0 == b) = l.find? (fun x => x.f0 == b) := by
    intro l
    have hb : (a == b) = false := beq_eq_false_iff_ne.2 (Ne.symm h)
    induction l with
    | nil => rw [opPut_nil, List.find?_cons]; simp [hb]
    | cons y l ih =>
      rw [opPut_cons]
      by_cases h1 : y.f0 = a
      · rw [if_pos h1, List.find?_cons, List.find?_cons, find_filter a b h]
        simp [h1, hb]
      · rw [if_neg h1, List.find?_cons, List.find?_cons, ih]
  intro l
  unfold opFind
  rw [key]
theorem put_bytes {l : List OptF} {code : Int} {data : List Int} (hl : ∀ x ∈ l, x.f1.length ≤ 1000) (hd : data.length ≤ 1000) : ∀ x ∈ opPut l code data, x.f1.length ≤ 1000 := by
  intro x hx
  unfold opPut at hx
  split at hx
  · rcases List.mem_append.1 hx with hx | hx
    · rcases List.mem_append.1 hx with hx | hx
      · exact hl x (List.mem_of_mem_take hx)
      · rw [List.mem_singleton.1 hx]; exact hd
    · exact hl x (List.mem_of_mem_drop (List.mem_filter.1 hx).1)
  · rcases List.mem_append.1 hx with hx | hx
    · exact hl x hx
    · rw [List.mem_singleton.1 hx]; exact hd

end Go.Proofs.Ytmbfdmceameghaa
