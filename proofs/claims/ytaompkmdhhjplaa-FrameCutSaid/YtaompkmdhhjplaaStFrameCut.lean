-- written by a program of this session (wip/tools/gen.py) over the kit's print
import Derived.Test.YtaompkmdhhjplaaOpen
import Derived.Test.YtaompkmdhhjplaaPrF5
namespace Go.Proofs.Ytaompkmdhhjplaa
open Go.RowKit Go.Proofs.Ytaompkmdhhjplaa.Pr Go.Proofs.YtaompkmdhhjplaaW.PrintWords Go.Proofs.YtaompkmdhhjplaaW.PrintLast Go.Proofs.YtaompkmdhhjplaaW.PrintMore
set_option linter.unusedVariables false
namespace frameCut
/-- What is left to prove, over numbers and lists. -/
def Pure : Prop := ∀ (l0 : List (List Int)) (a1 : Int) (l2 : List Int), l0.length ≤ maxLen → (∀ x ∈ l0, (x.length ≤ maxLen ∧ ∀ y ∈ x, (Lit.int .u8 y).wf = true)) → (Lit.int .i64 a1).wf = true → l2.length ≤ maxLen → (∀ x ∈ l2, (Lit.int .u8 x).wf = true) → ∃ k : Nat, lessorlaw09_FrameCut.f k l0 a1 l2 = some true
end frameCut
end Go.Proofs.Ytaompkmdhhjplaa
