/- The statement OptionDecodes over numbers and lists: both Decodes tell the same. No condition. -/
import Derived.Test.YtcefkkcmpdlnjaaDoorPrF3
import Derived.Test.YtcefkkcmpdlnjaaDoorPOptD
namespace Go.Proofs.YtcefkkcmpdlnjaaDoor.Pure
open Go.RowKit Go.Proofs.YtcefkkcmpdlnjaaDoor Go.Proofs.YtcefkkcmpdlnjaaDoor.Pr Go.Proofs.YtcefkkcmpdlnjaaDoor.PD Go.Proofs.YtcefkkcmpdlnjaaDoorW.PrintWords Go.Proofs.YtcefkkcmpdlnjaaDoorW.PrintLast
set_option linter.unusedVariables false
set_option linter.unusedSimpArgs false

theorem OptionDecodes : lessorlaw02_OptionDecodes.Pure := by
  intro b hm h2 hb
  refine ⟨3000, ?_⟩
  have A : lessorlaw02_awake.f 3000 = some true := by
    unfold lessorlaw02_awake.f
    rw [encode_eq _ ⟨by simp, by simp⟩ 3000 (by omega)]
    decide +kernel
  have hbb : ∀ x ∈ b, 0 ≤ x ∧ x ≤ 255 := fun x h => wf_byte (hb x h)
  unfold lessorlaw02_OptionDecodes.f
  rw [A]
  simp only [Option.bind_some, if_true, lessorlaw02_OptionDecodes.j0]
  by_cases c : (b.length : Int) > 3000
  · simp [c]
  · rw [decide_eq_false c]
    simp only [Bool.false_eq_true, if_false]
    have hd := odR_len b
    rw [decode_eq b hbb (by omega), ref_decode_eq b hbb 2999 (by omega)]
    simp only [Option.bind_some]
    rw [same_refl _ (by omega) 2999 (by omega)]
    simp

end Go.Proofs.YtcefkkcmpdlnjaaDoor.Pure
