/- The statement WalNil over numbers and lists: what the walk returned is true at every argument. No condition. -/
import Derived.Test.YtfndajgmjkimgaaStWalNil
namespace Go.Proofs.Ytfndajgmjkimgaa.walNil.Pure
open Go.RowKit Go.Proofs.Ytfndajgmjkimgaa Go.Proofs.Ytfndajgmjkimgaa.Pr Go.Proofs.YtfndajgmjkimgaaW.PrintWords
theorem WalNil : walNil.Pure := by
  intro a _
  rfl
end Go.Proofs.Ytfndajgmjkimgaa.walNil.Pure
