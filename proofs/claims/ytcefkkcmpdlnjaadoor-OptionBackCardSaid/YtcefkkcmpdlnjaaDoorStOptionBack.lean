-- written by a program of this session (wip/tools/gen.py) over the kit's print
import Derived.Test.YtcefkkcmpdlnjaaDoorOpen
import Derived.Test.YtcefkkcmpdlnjaaDoorPrF4
namespace Go.Proofs.YtcefkkcmpdlnjaaDoor
open Go.RowKit Go.Proofs.YtcefkkcmpdlnjaaDoor.Pr Go.Proofs.YtcefkkcmpdlnjaaDoorW.PrintWords Go.Proofs.YtcefkkcmpdlnjaaDoorW.PrintLast Go.Proofs.YtcefkkcmpdlnjaaDoorW.PrintMore
set_option linter.unusedVariables false
namespace optionBack
def PS35 (x : S35) : Prop := ((Lit.int .i64 x.f0).wf = true) ∧ (x.f1.length ≤ maxLen ∧ ∀ y ∈ x.f1, (Lit.int .u8 y).wf = true)
theorem opens_S35 {H : Type} {enc : TypeId × Value → H} {w : World} {base : Nat} {spare : Nat → Bool} {held : Bool} : Opens enc Tryd.prog w base spare held 35 k35 PS35 :=
  opens_iso (P := Tryd.prog) (fun a => ⟨a.1, a.2⟩) (fun _ => rfl) (opens_struct Tryd.underlying35 (by kernel_rfl) (opensF_cons rfl (by kernel_rfl) rfl (opens_int Tryd.underlying3) (opensF_one rfl (by kernel_rfl) (opens_slice Tryd.underlying22 (by kernel_rfl) (opens_int Tryd.underlying5)))))
/-- What is left to prove, over numbers and lists. -/
def Pure : Prop := ∀ (l0 : List (S35)) (a1 : Int) (a2 : Int), l0.length ≤ maxLen → (∀ x ∈ l0, PS35 x) → (Lit.int .i64 a1).wf = true → (Lit.int .i64 a2).wf = true → ∃ k : Nat, lessorlaw02_OptionBack.f k l0 a1 a2 = some true
end optionBack
end Go.Proofs.YtcefkkcmpdlnjaaDoor
