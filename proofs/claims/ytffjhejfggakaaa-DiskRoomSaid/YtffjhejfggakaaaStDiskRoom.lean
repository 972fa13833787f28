-- written by a program of this session (wip/tools/gen.py) over the kit's print
import Derived.Test.YtffjhejfggakaaaOpen
import Derived.Test.YtffjhejfggakaaaHLaw5
namespace Go.Proofs.Ytffjhejfggakaaa
open Go.RowKit Go.Proofs.Ytffjhejfggakaaa.Pr Go.Proofs.YtffjhejfggakaaaW.PrintWords Go.Proofs.YtffjhejfggakaaaW.PrintLast Go.Proofs.YtffjhejfggakaaaW.PrintMore
set_option linter.unusedVariables false
namespace diskRoom
def PS40 (x : S40) : Prop := ((Lit.int .i64 x.f0).wf = true) ∧ ((Lit.int .i64 x.f1).wf = true) ∧ (x.f2.length ≤ maxLen ∧ ∀ y ∈ x.f2, (Lit.int .u8 y).wf = true)
theorem opens_S40 {H : Type} {enc : TypeId × Value → H} {w : World} {base : Nat} {spare : Nat → Bool} {held : Bool} : Opens enc Try.prog w base spare held 40 k40 PS40 :=
  opens_iso (P := Try.prog) (fun a => ⟨a.1, a.2.1, a.2.2⟩) (fun _ => rfl) (opens_struct Try.underlying40 (by kernel_rfl) (opensF_cons rfl (by kernel_rfl) rfl (opens_int Try.underlying3) (opensF_cons rfl (by kernel_rfl) rfl (opens_int Try.underlying3) (opensF_one rfl (by kernel_rfl) (opens_slice Try.underlying29 (by kernel_rfl) (opens_int Try.underlying5))))))
/-- What is left to prove, over numbers and lists. -/
def Pure : Prop := ∀ (a0 : Int) (l1 : List (S40)), (Lit.int .i64 a0).wf = true → l1.length ≤ maxLen → (∀ x ∈ l1, PS40 x) → lessorlaw08_DiskRoom.f a0 l1 = some true
end diskRoom
end Go.Proofs.Ytffjhejfggakaaa
