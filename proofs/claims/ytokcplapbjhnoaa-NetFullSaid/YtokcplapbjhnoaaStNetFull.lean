-- written by a program of this session (wip/tools/gen.py) over the kit's print
import Derived.Test.YtokcplapbjhnoaaOpen
import Derived.Test.YtokcplapbjhnoaaHNetD
namespace Go.Proofs.Ytokcplapbjhnoaa
open Go.RowKit Go.Proofs.Ytokcplapbjhnoaa.Pr Go.Proofs.YtokcplapbjhnoaaW.PrintWords Go.Proofs.YtokcplapbjhnoaaW.PrintLast Go.Proofs.YtokcplapbjhnoaaW.PrintMore
set_option linter.unusedVariables false
namespace netFull
/-- What is left to prove, over numbers and lists. -/
def Pure : Prop := ∀ (a0 : Int) (a1 : Int), (Lit.int .i64 a0).wf = true → (Lit.int .i64 a1).wf = true → lessorlaw22_NetFull.f a0 a1 = some true
end netFull
end Go.Proofs.Ytokcplapbjhnoaa
