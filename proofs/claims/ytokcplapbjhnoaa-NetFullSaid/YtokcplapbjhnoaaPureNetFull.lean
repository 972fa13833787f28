/- The statement NetFull over numbers and lists: what the walk returned is true at every argument. No condition. -/
import Derived.Test.YtokcplapbjhnoaaStNetFull
namespace Go.Proofs.Ytokcplapbjhnoaa.netFull.Pure
open Go.RowKit Go.Proofs.Ytokcplapbjhnoaa Go.Proofs.Ytokcplapbjhnoaa.Pr Go.Proofs.YtokcplapbjhnoaaW.PrintWords
theorem NetFull : netFull.Pure := by
  intro a b _ hb
  have h : -9223372036854775808 ≤ b ∧ b ≤ 9223372036854775807 := by
    simpa [Lit.wf, IntKind.min, IntKind.max, IntKind.signed, IntKind.bits] using hb
  exact if_pos h
end Go.Proofs.Ytokcplapbjhnoaa.netFull.Pure
