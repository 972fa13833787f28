/- The statement OptionPuts over numbers and lists: what the walk returned is true at every argument. No condition. -/
import Derived.Test.YtcefkkcmpdlnjaaStOptionPuts
namespace Go.Proofs.Ytcefkkcmpdlnjaa.optionPuts.Pure
open Go.RowKit Go.Proofs.Ytcefkkcmpdlnjaa Go.Proofs.Ytcefkkcmpdlnjaa.Pr Go.Proofs.YtcefkkcmpdlnjaaW.PrintWords
theorem OptionPuts : optionPuts.Pure := by
  intro l a d _ _ _ _ _
  rfl
end Go.Proofs.Ytcefkkcmpdlnjaa.optionPuts.Pure
