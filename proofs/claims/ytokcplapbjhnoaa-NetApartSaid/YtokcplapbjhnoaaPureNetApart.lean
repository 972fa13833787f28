/- The statement NetApart over numbers and lists: what the walk returned is true at every argument. No condition. -/
import Derived.Test.YtokcplapbjhnoaaStNetApart
namespace Go.Proofs.Ytokcplapbjhnoaa.netApart.Pure
open Go.RowKit Go.Proofs.Ytokcplapbjhnoaa Go.Proofs.Ytokcplapbjhnoaa.Pr Go.Proofs.YtokcplapbjhnoaaW.PrintWords
theorem NetApart : netApart.Pure := by
  intro l m hl _ _ _
  unfold lessorlaw22_NetApart.f
  exact if_pos hl
end Go.Proofs.Ytokcplapbjhnoaa.netApart.Pure
