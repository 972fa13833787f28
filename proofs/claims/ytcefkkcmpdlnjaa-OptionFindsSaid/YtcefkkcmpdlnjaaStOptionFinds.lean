-- written by a program of this session (wip/tools/gen.py) over the kit's print
import Derived.Test.YtcefkkcmpdlnjaaOpen
import Derived.Test.YtcefkkcmpdlnjaaHLawFinds
namespace Go.Proofs.Ytcefkkcmpdlnjaa
open Go.RowKit Go.Proofs.Ytcefkkcmpdlnjaa.Pr Go.Proofs.YtcefkkcmpdlnjaaW.PrintWords Go.Proofs.YtcefkkcmpdlnjaaW.PrintLast Go.Proofs.YtcefkkcmpdlnjaaW.PrintMore
set_option linter.unusedVariables false
namespace optionFinds
def PS40 (x : S40) : Prop := ((Lit.int .i64 x.f0).wf = true) ∧ (x.f1.length ≤ maxLen ∧ ∀ y ∈ x.f1, (Lit.int .u8 y).wf = true)
theorem opens_S40 {H : Type} {enc : TypeId × Value → H} {w : World} {base : Nat} {spare : Nat → Bool} {held : Bool} : Opens enc Try.prog w base spare held 40 k40 PS40 :=
  opens_iso (P := Try.prog) (fun a => ⟨a.1, a.2⟩) (fun _ => rfl) (opens_struct Try.underlying40 (by kernel_rfl) (opensF_cons rfl (by kernel_rfl) rfl (opens_int Try.underlying3) (opensF_one rfl (by kernel_rfl) (opens_slice Try.underlying25 (by kernel_rfl) (opens_int Try.underlying5)))))
/-- What is left to prove, over numbers and lists. -/
def Pure : Prop := ∀ (l0 : List (S40)) (a1_0 : Int) (a1_1 : Int) (l2 : List Int), l0.length ≤ maxLen → (∀ x ∈ l0, PS40 x) → (Lit.int .i64 a1_0).wf = true → (Lit.int .i64 a1_1).wf = true → l2.length ≤ maxLen → (∀ x ∈ l2, (Lit.int .u8 x).wf = true) → lessorlaw02_OptionFinds.f l0 a1_0 a1_1 l2 = some true
end optionFinds
end Go.Proofs.Ytcefkkcmpdlnjaa
