/- The statement WalLasts over numbers and lists: what the walk returned is true at every argument. No condition. -/
import Derived.Test.YtfndajgmjkimgaaStWalLasts
namespace Go.Proofs.Ytfndajgmjkimgaa.walLasts.Pure
open Go.RowKit Go.Proofs.Ytfndajgmjkimgaa Go.Proofs.Ytfndajgmjkimgaa.Pr Go.Proofs.YtfndajgmjkimgaaW.PrintWords
theorem u8_wf {x : Int} (h : (Lit.int .u8 x).wf = true) : 0 ≤ x ∧ x ≤ 255 := by
  simpa [Lit.wf, IntKind.min, IntKind.max, IntKind.signed, IntKind.bits] using h
theorem WalLasts : walLasts.Pure := by
  intro a b l s _ _ _ hb _ _
  unfold lessorlaw10_WalLasts.f
  exact if_pos (fun x hx y hy => u8_wf ((hb x hx).2 y hy))
end Go.Proofs.Ytfndajgmjkimgaa.walLasts.Pure
