/- The statement OptionEncodes over numbers and lists: of few options both Encodes tell the same bytes or the same error. No condition. -/
import Derived.Test.YtcefkkcmpdlnjaaStOptionEncodes
import Derived.Test.YtcefkkcmpdlnjaaPOption
namespace Go.Proofs.Ytcefkkcmpdlnjaa.Pure
open Go.RowKit Go.Proofs.Ytcefkkcmpdlnjaa Go.Proofs.Ytcefkkcmpdlnjaa.Pr Go.Proofs.Ytcefkkcmpdlnjaa.PO Go.Proofs.YtcefkkcmpdlnjaaW.PrintWords Go.Proofs.YtcefkkcmpdlnjaaW.PrintLast
set_option linter.unusedVariables false
set_option linter.unusedSimpArgs false

theorem OptionEncodes : optionEncodes.Pure := by
  intro l hm hp
  refine ⟨500, ?_⟩
  have A : lessorlaw02_awake.f 500 = some true := by decide +kernel
  obtain ⟨b, hb, hfew⟩ := few_eq l 500 (by omega)
  unfold lessorlaw02_OptionEncodes.f
  rw [A, hb]
  simp only [Option.bind_some, if_true, lessorlaw02_OptionEncodes.j0]
  cases b with
  | false => rfl
  | true =>
    have hf := hfew.1 rfl
    rw [if_neg (by decide), encode_eq l hf 499 (by omega), ref_encode_eq l hf 499 (by omega)]
    simp

end Go.Proofs.Ytcefkkcmpdlnjaa.Pure
