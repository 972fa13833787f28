-- written by a program of this session (wip/tools/gen.py) over the kit's print
import Derived.Test.YtffjhejfggakaaaOpen
import Derived.Test.YtffjhejfggakaaaHLaw7
namespace Go.Proofs.Ytffjhejfggakaaa
open Go.RowKit Go.Proofs.Ytffjhejfggakaaa.Pr Go.Proofs.YtffjhejfggakaaaW.PrintWords Go.Proofs.YtffjhejfggakaaaW.PrintLast Go.Proofs.YtffjhejfggakaaaW.PrintMore
set_option linter.unusedVariables false
namespace diskFails
/-- What is left to prove, over numbers and lists. -/
def Pure : Prop := ∀ (a0 : Int) (a1 : Int), (Lit.int .i64 a0).wf = true → (Lit.int .i64 a1).wf = true → lessorlaw08_DiskFails.f a0 a1 = some true
end diskFails
end Go.Proofs.Ytffjhejfggakaaa
