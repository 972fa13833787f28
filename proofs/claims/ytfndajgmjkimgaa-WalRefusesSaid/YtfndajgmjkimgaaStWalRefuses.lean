-- written by a program of this session (wip/tools/gen.py) over the kit's print
import Derived.Test.YtfndajgmjkimgaaOpen
import Derived.Test.YtfndajgmjkimgaaHWalD
namespace Go.Proofs.Ytfndajgmjkimgaa
open Go.RowKit Go.Proofs.Ytfndajgmjkimgaa.Pr Go.Proofs.YtfndajgmjkimgaaW.PrintWords Go.Proofs.YtfndajgmjkimgaaW.PrintLast Go.Proofs.YtfndajgmjkimgaaW.PrintMore
set_option linter.unusedVariables false
namespace walRefuses
def PS55 (x : S55) : Prop := ((Lit.int .i64 x.f0).wf = true) ∧ ((Lit.int .i64 x.f1).wf = true) ∧ (x.f2.length ≤ maxLen ∧ ∀ y ∈ x.f2, (Lit.int .u8 y).wf = true) ∧ (x.f3.length ≤ maxLen ∧ ∀ y ∈ x.f3, (y.length ≤ maxLen ∧ ∀ z ∈ y, (Lit.int .u8 z).wf = true))
theorem opens_S55 {H : Type} {enc : TypeId × Value → H} {w : World} {base : Nat} {spare : Nat → Bool} {held : Bool} : Opens enc Try.prog w base spare held 55 k55 PS55 :=
  opens_iso (P := Try.prog) (fun a => ⟨a.1, a.2.1, a.2.2.1, a.2.2.2⟩) (fun _ => rfl) (opens_struct Try.underlying55 (by kernel_rfl) (opensF_cons rfl (by kernel_rfl) rfl (opens_int Try.underlying3) (opensF_cons rfl (by kernel_rfl) rfl (opens_int Try.underlying3) (opensF_cons rfl (by kernel_rfl) rfl (opens_slice Try.underlying33 (by kernel_rfl) (opens_int Try.underlying5)) (opensF_one rfl (by kernel_rfl) (opens_slice Try.underlying23 (by kernel_rfl) (opens_slice Try.underlying33 (by kernel_rfl) (opens_int Try.underlying5))))))))
/-- What is left to prove, over numbers and lists. -/
def Pure : Prop := ∀ (a0 : Int) (l1 : List (S55)) (l2 : List Int), (Lit.int .i64 a0).wf = true → l1.length ≤ maxLen → (∀ x ∈ l1, PS55 x) → l2.length ≤ maxLen → (∀ x ∈ l2, (Lit.int .u8 x).wf = true) → lessorlaw10_WalRefuses.f a0 l1 l2 = some true
end walRefuses
end Go.Proofs.Ytfndajgmjkimgaa
