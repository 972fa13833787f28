-- written by a program of this session (wip/tools/gen.py) over the kit's print
import Derived.Test.YtfndajgmjkimgaaOpen
import Derived.Test.YtfndajgmjkimgaaHWalB
namespace Go.Proofs.Ytfndajgmjkimgaa
open Go.RowKit Go.Proofs.Ytfndajgmjkimgaa.Pr Go.Proofs.YtfndajgmjkimgaaW.PrintWords Go.Proofs.YtfndajgmjkimgaaW.PrintLast Go.Proofs.YtfndajgmjkimgaaW.PrintMore
set_option linter.unusedVariables false
namespace walLasts
/-- What is left to prove, over numbers and lists. -/
def Pure : Prop := ∀ (a0_0 : Int) (a0_1 : Int) (l1 : List (List Int)) (l2 : List Bool), (Lit.int .i64 a0_0).wf = true → (Lit.int .i64 a0_1).wf = true → l1.length ≤ maxLen → (∀ x ∈ l1, (x.length ≤ maxLen ∧ ∀ y ∈ x, (Lit.int .u8 y).wf = true)) → l2.length ≤ maxLen → (∀ x ∈ l2, True) → lessorlaw10_WalLasts.f a0_0 a0_1 l1 l2 = some true
end walLasts
end Go.Proofs.Ytfndajgmjkimgaa
