-- written by a program of this session (wip/tools/gen.py) over the kit's print
import Derived.Test.YteniakelhalojaaOpen
import Derived.Test.YteniakelhalojaaPnF5
namespace Go.Proofs.Yteniakelhalojaa
open Go.RowKit Go.Proofs.Yteniakelhalojaa.Pn Go.Proofs.YteniakelhalojaaW.PrintWords Go.Proofs.YteniakelhalojaaW.PrintLast Go.Proofs.YteniakelhalojaaW.PrintMore
set_option linter.unusedVariables false
namespace routeBests
def PS32 (x : S32) : Prop := ((Lit.int .u32 x.f0).wf = true) ∧ ((Lit.int .i64 x.f1).wf = true) ∧ ((Lit.int .u32 x.f2).wf = true)
theorem opens_S32 {H : Type} {enc : TypeId × Value → H} {w : World} {base : Nat} {spare : Nat → Bool} {held : Bool} : Opens enc Try.prog w base spare held 32 k32 PS32 :=
  opens_iso (P := Try.prog) (fun a => ⟨a.1, a.2.1, a.2.2⟩) (fun _ => rfl) (opens_struct Try.underlying32 (by kernel_rfl) (opensF_cons rfl (by kernel_rfl) rfl (opens_int Try.underlying30) (opensF_cons rfl (by kernel_rfl) rfl (opens_int Try.underlying3) (opensF_one rfl (by kernel_rfl) (opens_int Try.underlying30)))))
/-- What is left to prove, over numbers and lists. -/
def Pure : Prop := ∀ (l0 : List (S32)) (a1 : Int), l0.length ≤ maxLen → (∀ x ∈ l0, PS32 x) → (Lit.int .u32 a1).wf = true → ∃ k : Nat, lessorlaw25_RouteBests.f k l0 a1 = some true
end routeBests
end Go.Proofs.Yteniakelhalojaa
