/- The statement OptionBack over numbers and lists: what was encoded is decoded, with noughts ahead and behind. No condition. -/
import Derived.Test.YtcefkkcmpdlnjaaDoorStOptionBack
import Derived.Test.YtcefkkcmpdlnjaaDoorPOptD
namespace Go.Proofs.YtcefkkcmpdlnjaaDoor.Pure
open Go.RowKit Go.Proofs.YtcefkkcmpdlnjaaDoor Go.Proofs.YtcefkkcmpdlnjaaDoor.Pr Go.Proofs.YtcefkkcmpdlnjaaDoor.PD Go.Proofs.YtcefkkcmpdlnjaaDoorW.PrintWords Go.Proofs.YtcefkkcmpdlnjaaDoorW.PrintLast
set_option linter.unusedVariables false
set_option linter.unusedSimpArgs false

theorem pGo_zeros (n : Nat) (t : List Int) (acc : List Opt) : pGo (List.replicate n 0 ++ t) acc = pGo t acc := by
  induction n with
  | zero => rfl
  | succ n ih => rw [List.replicate_succ, List.cons_append, pGo_zero, ih]
theorem pGo_enc (l : List Opt) (ok : ∀ x ∈ l, okOpt x) : ∀ (t : List Int) (acc : List Opt), pGo (enc l ++ t) acc = pGo t (acc ++ l) := by
  induction l with
  | nil => intro t acc; simp [enc]
  | cons x l ih =>
    intro t acc
    obtain ⟨h1, h2, h3⟩ := ok x (by simp)
    have e : enc (x :: l) ++ t = x.f0 :: (x.f1.length : Int) :: (x.f1 ++ (enc l ++ t)) := by
      have e1 : enc (x :: l) = enc1 x ++ enc l := by simp [enc]
      rw [e1]
      unfold enc1
      rw [Int.emod_eq_of_lt (by omega) (by omega), Int.emod_eq_of_lt (by omega) (by omega)]
      simp
    rw [e, pGo_step (by omega) (by omega) (by simp), Int.toNat_natCast, List.drop_left, List.take_left, ih (fun y hy => ok y (by simp [hy]))]
    simp
theorem dec_back (l : List Opt) (ok : ∀ x ∈ l, okOpt x) (n m : Nat) (h : (List.replicate n 0 ++ (enc l ++ [255]) ++ List.replicate m 0).length ≤ 1024) : odR (List.replicate n 0 ++ (enc l ++ [255]) ++ List.replicate m 0) = (l, 0) := by
  rw [odR_eq, if_neg (by omega), List.append_assoc, pGo_zeros, List.append_assoc, pGo_enc l ok, List.singleton_append, pGo_end, List.nil_append]
  unfold odOf
  simp only
  rw [if_pos (fun x hx => (List.mem_replicate.1 hx).2)]
theorem dec_cut (l : List Opt) (ok : ∀ x ∈ l, okOpt x) : odR (enc l) = ([], 2) := by
  rw [odR_eq]
  split
  · rfl
  · have := pGo_enc l ok [] []
    rw [List.append_nil, List.nil_append, pGo_nil] at this
    rw [this]
    rfl

theorem OptionBack : optionBack.Pure := by
  intro l a1 a2 hl hx w1 w2
  refine ⟨3000, ?_⟩
  have A : lessorlaw02_awake.f 3000 = some true := by
    unfold lessorlaw02_awake.f
    rw [encode_eq _ ⟨by simp, by simp⟩ 3000 (by omega)]
    decide +kernel
  obtain ⟨u, hu, hfew⟩ := few_eq l 3000 (by omega)
  have hlb : ∀ x ∈ l, ∀ y ∈ x.f1, 0 ≤ y ∧ y ≤ 255 := fun x h y hy => opt_bytes (hx x h) y hy
  unfold lessorlaw02_OptionBack.f
  rw [A, hu]
  simp only [Option.bind_some, if_true, lessorlaw02_OptionBack.j0]
  cases u with
  | false => rfl
  | true =>
    have hf := hfew.1 rfl
    simp only [if_true]
    by_cases c1 : a1 < 0
    · simp [c1]
    · by_cases c2 : a1 > 200
      · simp [c1, c2]
      · by_cases c3 : a2 < 0
        · simp [c1, c2, c3]
        · by_cases c4 : a2 > 200
          · simp [c1, c2, c3, c4]
          · rw [if_neg c1, if_neg c2, if_neg c3, decide_eq_false c4]
            simp only [Bool.false_eq_true, if_false]
            rw [encode_eq l hf 2999 (by omega)]
            simp only [Option.bind_some]
            have T : ∀ q k, lessorlaw02_OptionBack.j1 (k + 1) l a1 a2 q true = some true := by intro q k; simp [lessorlaw02_OptionBack.j1]
            unfold encR
            split
            · rename_i ok
              by_cases c5 : 1024 ≤ (enc l).length
              · rw [if_pos c5]
                simp only [show ¬ ((3 : Int) = 0) by decide, if_false]
                exact T _ _
              · rw [if_neg c5]
                simp only [if_true]
                obtain ⟨n, rfl⟩ : ∃ n : Nat, a1 = n := Int.eq_ofNat_of_zero_le (by omega)
                obtain ⟨m, rfl⟩ : ∃ m : Nat, a2 = m := Int.eq_ofNat_of_zero_le (by omega)
                have hbl : (enc l ++ [255]).length = (enc l).length + 1 := by simp
                have hl9 : (enc l).length < 1024 := by omega
                have w3 : wrap64 (((enc l ++ [255] : List Int).length : Int) + (n : Int)) = ((enc l ++ [255] : List Int).length : Int) + (n : Int) := wrapO (by omega) (by omega)
                have w4 : wrap64 (((enc l ++ [255] : List Int).length : Int) + (n : Int) + (m : Int)) = ((enc l ++ [255] : List Int).length : Int) + (n : Int) + (m : Int) := wrapO (by omega) (by omega)
                rw [w3, w4]
                by_cases c6 : ((enc l ++ [255]).length : Int) + n + m > 1024
                · rw [decide_eq_true c6]
                  exact T _ _
                · rw [decide_eq_false c6]
                  simp only [lessorlaw02_OptionBack.j1, Bool.false_eq_true, if_false]
                  rw [if_pos (by omega), Int.toNat_natCast, if_pos (by omega)]
                  simp only [Option.bind_some]
                  rw [if_pos (by simp; omega), if_pos (by omega), Int.toNat_natCast, if_pos (by simp; omega)]
                  have hlen : (List.replicate n 0 ++ (enc l ++ [255]) ++ List.replicate m (0 : Int)).length ≤ 1024 := by simp; omega
                  have hby : ∀ y ∈ List.replicate n 0 ++ (enc l ++ [255]) ++ List.replicate m (0 : Int), 0 ≤ y ∧ y ≤ 255 := by
                    intro y hy
                    simp only [List.mem_append, List.mem_singleton, List.mem_replicate] at hy
                    rcases hy with (⟨_, rfl⟩ | h | rfl) | ⟨_, rfl⟩
                    · omega
                    · exact enc_bytes l hlb y h
                    · omega
                    · omega
                  rw [decode_eq _ hby (by omega), dec_back l ok n m hlen]
                  simp only [Option.bind_some]
                  rw [same_refl l (by have := hf.1; omega) 2998 (by have := hf.1; omega)]
                  simp only [Option.bind_some]
                  have w5 : wrap64 (((enc l ++ [255] : List Int).length : Int) - 1) = ((enc l ++ [255] : List Int).length : Int) - 1 := wrapO (by omega) (by omega)
                  rw [w5, if_pos (by omega), if_pos (by omega)]
                  have e : (enc l ++ [255]).take (((enc l ++ [255]).length : Int) - 1).toNat = enc l := by
                    have w6 : (((enc l ++ [255] : List Int).length : Int) - 1).toNat = (enc l).length := by omega
                    rw [w6, List.take_left]
                  rw [e, decode_eq _ (enc_bytes l hlb) (by omega), dec_cut l ok]
                  simp
            · simp only [show ¬ ((1 : Int) = 0) by decide, if_false]
              exact T _ _

end Go.Proofs.YtcefkkcmpdlnjaaDoor.Pure
