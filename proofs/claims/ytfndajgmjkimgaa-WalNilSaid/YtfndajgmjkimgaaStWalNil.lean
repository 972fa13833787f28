-- written by a program of this session (wip/tools/gen.py) over the kit's print
import Derived.Test.YtfndajgmjkimgaaOpen
import Derived.Test.YtfndajgmjkimgaaHWalE
namespace Go.Proofs.Ytfndajgmjkimgaa
open Go.RowKit Go.Proofs.Ytfndajgmjkimgaa.Pr Go.Proofs.YtfndajgmjkimgaaW.PrintWords Go.Proofs.YtfndajgmjkimgaaW.PrintLast Go.Proofs.YtfndajgmjkimgaaW.PrintMore
set_option linter.unusedVariables false
namespace walNil
/-- What is left to prove, over numbers and lists. -/
def Pure : Prop := ∀ (a0 : Int), (Lit.int .i64 a0).wf = true → lessorlaw10_WalNil.f a0 = some true
end walNil
end Go.Proofs.Ytfndajgmjkimgaa
