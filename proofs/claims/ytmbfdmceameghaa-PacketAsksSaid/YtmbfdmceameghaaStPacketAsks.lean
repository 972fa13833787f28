-- written by a program of this session (wip/tools/gen.py) over the kit's print
import Derived.Test.YtmbfdmceameghaaOpen
import Derived.Test.YtmbfdmceameghaaHLawAsks
namespace Go.Proofs.Ytmbfdmceameghaa
open Go.RowKit Go.Proofs.Ytmbfdmceameghaa.Pr Go.Proofs.YtmbfdmceameghaaW.PrintWords Go.Proofs.YtmbfdmceameghaaW.PrintLast Go.Proofs.YtmbfdmceameghaaW.PrintMore
set_option linter.unusedVariables false
namespace packetAsks
def PS42 (x : S42) : Prop := ((Lit.int .i64 x.f0).wf = true) ∧ (x.f1.length ≤ maxLen ∧ ∀ y ∈ x.f1, (Lit.int .u8 y).wf = true)
theorem opens_S42 {H : Type} {enc : TypeId × Value → H} {w : World} {base : Nat} {spare : Nat → Bool} {held : Bool} : Opens enc Try.prog w base spare held 42 k42 PS42 :=
  opens_iso (P := Try.prog) (fun a => ⟨a.1, a.2⟩) (fun _ => rfl) (opens_struct Try.underlying42 (by kernel_rfl) (opensF_cons rfl (by kernel_rfl) rfl (opens_int Try.underlying3) (opensF_one rfl (by kernel_rfl) (opens_slice Try.underlying24 (by kernel_rfl) (opens_int Try.underlying5)))))
def PS27 (x : S27) : Prop := ((Lit.int .i64 x.f0).wf = true) ∧ ((Lit.int .u32 x.f1).wf = true) ∧ ((Lit.int .i64 x.f2).wf = true) ∧ ((Lit.int .i64 x.f3).wf = true) ∧ ((Lit.int .u32 x.f4).wf = true) ∧ ((Lit.int .u32 x.f5).wf = true) ∧ ((Lit.int .u32 x.f6).wf = true) ∧ ((Lit.int .u32 x.f7).wf = true) ∧ (x.f8.length ≤ maxLen ∧ ∀ y ∈ x.f8, (Lit.int .u8 y).wf = true) ∧ (x.f9.length ≤ maxLen ∧ ∀ y ∈ x.f9, PS42 y)
theorem opens_S27 {H : Type} {enc : TypeId × Value → H} {w : World} {base : Nat} {spare : Nat → Bool} {held : Bool} : Opens enc Try.prog w base spare held 27 k27 PS27 :=
  opens_iso (P := Try.prog) (fun a => ⟨a.1, a.2.1, a.2.2.1, a.2.2.2.1, a.2.2.2.2.1, a.2.2.2.2.2.1, a.2.2.2.2.2.2.1, a.2.2.2.2.2.2.2.1, a.2.2.2.2.2.2.2.2.1, a.2.2.2.2.2.2.2.2.2⟩) (fun _ => rfl) (opens_struct Try.underlying27 (by kernel_rfl) (opensF_cons rfl (by kernel_rfl) rfl (opens_int Try.underlying3) (opensF_cons rfl (by kernel_rfl) rfl (opens_int Try.underlying22) (opensF_cons rfl (by kernel_rfl) rfl (opens_int Try.underlying3) (opensF_cons rfl (by kernel_rfl) rfl (opens_int Try.underlying3) (opensF_cons rfl (by kernel_rfl) rfl (opens_int Try.underlying23) (opensF_cons rfl (by kernel_rfl) rfl (opens_int Try.underlying23) (opensF_cons rfl (by kernel_rfl) rfl (opens_int Try.underlying23) (opensF_cons rfl (by kernel_rfl) rfl (opens_int Try.underlying23) (opensF_cons rfl (by kernel_rfl) rfl (opens_slice Try.underlying24 (by kernel_rfl) (opens_int Try.underlying5)) (opensF_one rfl (by kernel_rfl) (opens_slice Try.underlying25 (by kernel_rfl) opens_S42))))))))))))
/-- What is left to prove, over numbers and lists. -/
def Pure : Prop := ∀ (s0 : S27) (a1_0 : Int) (a1_1 : Int) (a1_2 : Int) (l2 : List Int), PS27 s0 → (Lit.int .i64 a1_0).wf = true → (Lit.int .i64 a1_1).wf = true → (Lit.int .i64 a1_2).wf = true → l2.length ≤ maxLen → (∀ x ∈ l2, (Lit.int .u8 x).wf = true) → lessorlaw03_PacketAsks.f s0.f0 s0.f1 s0.f2 s0.f3 s0.f4 s0.f5 s0.f6 s0.f7 s0.f8 s0.f9 a1_0 a1_1 a1_2 l2 = some true
end packetAsks
end Go.Proofs.Ytmbfdmceameghaa
