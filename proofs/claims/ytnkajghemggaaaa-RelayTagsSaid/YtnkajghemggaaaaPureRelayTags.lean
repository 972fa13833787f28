/- The statement RelayTags over numbers and lists: both Encodes and both Decodes tell the same. No condition. -/
import Derived.Test.YtnkajghemggaaaaStRelayTags
import Derived.Test.YtnkajghemggaaaaPRelay
namespace Go.Proofs.Ytnkajghemggaaaa.Pure
open Go.RowKit Go.Proofs.Ytnkajghemggaaaa Go.Proofs.Ytnkajghemggaaaa.Pr Go.Proofs.Ytnkajghemggaaaa.PL Go.Proofs.YtnkajghemggaaaaW.PrintWords Go.Proofs.YtnkajghemggaaaaW.PrintLast
set_option linter.unusedVariables false
set_option linter.unusedSimpArgs false

theorem RelayTags : relayTags.Pure := by
  intro l b hl hx hm hb
  refine ⟨3000, ?_⟩
  have A : lessorlaw26_awake.f 3000 = some true := by
    unfold lessorlaw26_awake.f
    rw [encode_eq _ ⟨by simp, by simp⟩ 3000 (by omega)]
    decide +kernel
  obtain ⟨u, hu, hfew⟩ := few_eq l 3000 (by omega)
  have hbb : ∀ x ∈ b, 0 ≤ x ∧ x ≤ 255 := fun x h => wf_byte (hb x h)
  unfold lessorlaw26_RelayTags.f
  rw [A, hu]
  simp only [Option.bind_some, if_true, lessorlaw26_RelayTags.j0]
  cases u with
  | false => rfl
  | true =>
    have hf := hfew.1 rfl
    have hR : fewR l := ⟨by have := hf.1; omega, hf.2⟩
    by_cases c : (b.length : Int) > 1000
    · simp [c]
    · rw [decide_eq_false c]
      simp only [Bool.false_eq_true, if_false, if_true]
      have hd : (decR b).1.length ≤ 1000000 ∧ (decR b).1.length < 2999 := by
        have := decR_len b
        omega
      rw [encode_eq l hR 2999 (by omega), ref_encode_eq l hR 2999 (by omega), decode_eq b hbb (by omega), ref_decode_eq b hbb 2999 (by omega)]
      simp only [Option.bind_some]
      rw [same_refl _ hd.1 2999 hd.2]
      simp

end Go.Proofs.Ytnkajghemggaaaa.Pure
