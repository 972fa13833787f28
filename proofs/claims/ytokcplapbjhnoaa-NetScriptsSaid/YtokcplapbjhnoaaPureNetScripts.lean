/- The statement NetScripts over numbers and lists: what the walk returned is true at every argument. No condition. -/
import Derived.Test.YtokcplapbjhnoaaStNetScripts
namespace Go.Proofs.Ytokcplapbjhnoaa.netScripts.Pure
open Go.RowKit Go.Proofs.Ytokcplapbjhnoaa Go.Proofs.Ytokcplapbjhnoaa.Pr Go.Proofs.YtokcplapbjhnoaaW.PrintWords
theorem NetScripts : netScripts.Pure := by
  intro a l _ hl hs
  unfold lessorlaw22_NetScripts.f
  exact if_pos hl
end Go.Proofs.Ytokcplapbjhnoaa.netScripts.Pure
