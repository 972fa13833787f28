/- The statement OptionFinds over numbers and lists: what the walk returned is true at every argument. No condition. -/
import Derived.Test.YtcefkkcmpdlnjaaStOptionFinds
namespace Go.Proofs.Ytcefkkcmpdlnjaa.optionFinds.Pure
open Go.RowKit Go.Proofs.Ytcefkkcmpdlnjaa Go.Proofs.Ytcefkkcmpdlnjaa.Pr Go.Proofs.YtcefkkcmpdlnjaaW.PrintWords
theorem OptionFinds : optionFinds.Pure := by
  intro l a b d _ _ _ _ _ _
  rfl
end Go.Proofs.Ytcefkkcmpdlnjaa.optionFinds.Pure
