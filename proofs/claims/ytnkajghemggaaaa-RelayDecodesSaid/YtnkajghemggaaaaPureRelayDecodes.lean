/- The statement RelayDecodes over numbers and lists: what was encoded is decoded; what is decoded is encoded to the same. No condition. -/
import Derived.Test.YtnkajghemggaaaaStRelayDecodes
import Derived.Test.YtnkajghemggaaaaPRelay
namespace Go.Proofs.Ytnkajghemggaaaa.Pure
open Go.RowKit Go.Proofs.Ytnkajghemggaaaa Go.Proofs.Ytnkajghemggaaaa.Pr Go.Proofs.Ytnkajghemggaaaa.PL Go.Proofs.YtnkajghemggaaaaW.PrintWords Go.Proofs.YtnkajghemggaaaaW.PrintLast
set_option linter.unusedVariables false
set_option linter.unusedSimpArgs false

theorem RelayDecodes : relayDecodes.Pure := by
  intro l b hl hx hm hb
  refine ⟨3000, ?_⟩
  have A : lessorlaw26_awake.f 3000 = some true := by
    unfold lessorlaw26_awake.f
    rw [encode_eq _ ⟨by simp, by simp⟩ 3000 (by omega)]
    decide +kernel
  obtain ⟨u, hu, hfew⟩ := few_eq l 3000 (by omega)
  have hbb : ∀ x ∈ b, 0 ≤ x ∧ x ≤ 255 := fun x h => wf_byte (hb x h)
  have hlb : ∀ x ∈ l, ∀ y ∈ x.f1, 0 ≤ y ∧ y ≤ 255 := fun x h y hy => opt_bytes (hx x h) y hy
  have J : b.length ≤ 1000 → ∀ k, 2900 ≤ k → lessorlaw26_RelayDecodes.j1 k b = some true := by
    intro c k hk
    obtain ⟨k, rfl⟩ : ∃ m, k = m + 1 := ⟨k - 1, by omega⟩
    simp only [lessorlaw26_RelayDecodes.j1]
    rw [decode_eq b hbb (by omega)]
    simp only [Option.bind_some]
    rcases decR_cases b hbb with ⟨m, e1, e2, e3, e4, e5⟩ | e1
    · rw [e1]
      simp only [if_true]
      have hR : fewR m := dec_few e2 e3 e5
      have eE : encR m = (b, 0) := by
        unfold encR
        rw [if_pos ⟨e4, e3⟩, e2, if_neg (by omega)]
      rw [encode_eq m hR k (by omega), eE]
      simp
    · rw [e1]
      rfl
  unfold lessorlaw26_RelayDecodes.f
  rw [A, hu]
  simp only [Option.bind_some, if_true, lessorlaw26_RelayDecodes.j0]
  cases u with
  | false => rfl
  | true =>
    have hf := hfew.1 rfl
    have hR : fewR l := ⟨by have := hf.1; omega, hf.2⟩
    by_cases c : (b.length : Int) > 1000
    · simp [c]
    · rw [decide_eq_false c]
      simp only [Bool.false_eq_true, if_false, if_true]
      rw [encode_eq l hR 2999 (by omega)]
      simp only [Option.bind_some]
      unfold encR
      split
      · rename_i ok
        by_cases c2 : 255 < (enc l).length
        · rw [if_pos c2]
          simp only [show ¬ ((3 : Int) = 0) by decide, if_false]
          exact J (by omega) 2999 (by omega)
        · rw [if_neg c2]
          simp only [if_true]
          rw [decode_eq _ (enc_bytes l hlb) (by omega)]
          have e : decR (enc l) = (l, 0) := by
            unfold decR
            rw [rdL_enc l ok.2]
            simp only [List.nil_append]
            rw [if_pos ⟨enc_ne ok.1, by omega⟩]
          rw [e]
          simp only [Option.bind_some, if_true]
          rw [same_refl l (by have := hf.1; omega) 2999 (by have := hf.1; omega)]
          simp only [Option.bind_some, if_true]
          exact J (by omega) 2999 (by omega)
      · simp only [show ¬ ((1 : Int) = 0) by decide, if_false]
        exact J (by omega) 2999 (by omega)

end Go.Proofs.Ytnkajghemggaaaa.Pure
