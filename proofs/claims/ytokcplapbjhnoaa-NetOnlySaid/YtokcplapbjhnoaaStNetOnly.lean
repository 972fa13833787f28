-- written by a program of this session (wip/tools/gen.py) over the kit's print
import Derived.Test.YtokcplapbjhnoaaOpen
import Derived.Test.YtokcplapbjhnoaaHNetB
namespace Go.Proofs.Ytokcplapbjhnoaa
open Go.RowKit Go.Proofs.Ytokcplapbjhnoaa.Pr Go.Proofs.YtokcplapbjhnoaaW.PrintWords Go.Proofs.YtokcplapbjhnoaaW.PrintLast Go.Proofs.YtokcplapbjhnoaaW.PrintMore
set_option linter.unusedVariables false
namespace netOnly
def PS40 (x : S40) : Prop := ((Lit.int .i64 x.f0).wf = true) ∧ ((Lit.int .i64 x.f1).wf = true) ∧ ((Lit.int .i64 x.f2).wf = true) ∧ (True) ∧ (x.f4.length ≤ maxLen ∧ ∀ y ∈ x.f4, (Lit.int .u8 y).wf = true)
theorem opens_S40 {H : Type} {enc : TypeId × Value → H} {w : World} {base : Nat} {spare : Nat → Bool} {held : Bool} : Opens enc Try.prog w base spare held 40 k40 PS40 :=
  opens_iso (P := Try.prog) (fun a => ⟨a.1, a.2.1, a.2.2.1, a.2.2.2.1, a.2.2.2.2⟩) (fun _ => rfl) (opens_struct Try.underlying40 (by kernel_rfl) (opensF_cons rfl (by kernel_rfl) rfl (opens_int Try.underlying3) (opensF_cons rfl (by kernel_rfl) rfl (opens_int Try.underlying3) (opensF_cons rfl (by kernel_rfl) rfl (opens_int Try.underlying3) (opensF_cons rfl (by kernel_rfl) rfl (opens_bool Try.underlying4) (opensF_one rfl (by kernel_rfl) (opens_slice Try.underlying28 (by kernel_rfl) (opens_int Try.underlying5))))))))
/-- What is left to prove, over numbers and lists. -/
def Pure : Prop := ∀ (a0 : Int) (l1 : List (S40)), (Lit.int .i64 a0).wf = true → l1.length ≤ maxLen → (∀ x ∈ l1, PS40 x) → lessorlaw22_NetOnly.f a0 l1 = some true
end netOnly
end Go.Proofs.Ytokcplapbjhnoaa
