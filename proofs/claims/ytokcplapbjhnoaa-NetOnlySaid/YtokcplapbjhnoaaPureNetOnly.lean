/- The statement NetOnly over numbers and lists: what the walk returned is true at every argument. No condition. -/
import Derived.Test.YtokcplapbjhnoaaStNetOnly
namespace Go.Proofs.Ytokcplapbjhnoaa.netOnly.Pure
open Go.RowKit Go.Proofs.Ytokcplapbjhnoaa Go.Proofs.Ytokcplapbjhnoaa.Pr Go.Proofs.YtokcplapbjhnoaaW.PrintWords
theorem NetOnly : netOnly.Pure := by
  intro a l _ hl hs
  unfold lessorlaw22_NetOnly.f
  exact if_pos hl
end Go.Proofs.Ytokcplapbjhnoaa.netOnly.Pure
