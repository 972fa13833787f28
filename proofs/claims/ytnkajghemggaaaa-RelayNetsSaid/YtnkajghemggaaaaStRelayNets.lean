-- written by a program of this session (wip/tools/gen.py) over the kit's print
import Derived.Test.YtnkajghemggaaaaOpen
import Derived.Test.YtnkajghemggaaaaPnF3
namespace Go.Proofs.Ytnkajghemggaaaa
open Go.RowKit Go.Proofs.Ytnkajghemggaaaa.Pn Go.Proofs.YtnkajghemggaaaaW.PrintWords Go.Proofs.YtnkajghemggaaaaW.PrintLast Go.Proofs.YtnkajghemggaaaaW.PrintMore
set_option linter.unusedVariables false
namespace relayNets
def PS62 (x : S62) : Prop := ((Lit.int .u32 x.f0).wf = true) ∧ ((Lit.int .i64 x.f1).wf = true) ∧ ((Lit.int .u32 x.f2).wf = true)
theorem opens_S62 {H : Type} {enc : TypeId × Value → H} {w : World} {base : Nat} {spare : Nat → Bool} {held : Bool} : Opens enc Try.prog w base spare held 62 k62 PS62 :=
  opens_iso (P := Try.prog) (fun a => ⟨a.1, a.2.1, a.2.2⟩) (fun _ => rfl) (opens_struct Try.underlying62 (by kernel_rfl) (opensF_cons rfl (by kernel_rfl) rfl (opens_int Try.underlying24) (opensF_cons rfl (by kernel_rfl) rfl (opens_int Try.underlying3) (opensF_one rfl (by kernel_rfl) (opens_int Try.underlying24)))))
def PS48 (x : S48) : Prop := ((Lit.int .i64 x.f0).wf = true) ∧ (x.f1.length ≤ maxLen ∧ ∀ y ∈ x.f1, (Lit.int .u8 y).wf = true)
theorem opens_S48 {H : Type} {enc : TypeId × Value → H} {w : World} {base : Nat} {spare : Nat → Bool} {held : Bool} : Opens enc Try.prog w base spare held 48 k48 PS48 :=
  opens_iso (P := Try.prog) (fun a => ⟨a.1, a.2⟩) (fun _ => rfl) (opens_struct Try.underlying48 (by kernel_rfl) (opensF_cons rfl (by kernel_rfl) rfl (opens_int Try.underlying3) (opensF_one rfl (by kernel_rfl) (opens_slice Try.underlying25 (by kernel_rfl) (opens_int Try.underlying5)))))
def PS28 (x : S28) : Prop := ((Lit.int .i64 x.f0).wf = true) ∧ ((Lit.int .u32 x.f1).wf = true) ∧ ((Lit.int .i64 x.f2).wf = true) ∧ ((Lit.int .i64 x.f3).wf = true) ∧ ((Lit.int .u32 x.f4).wf = true) ∧ ((Lit.int .u32 x.f5).wf = true) ∧ ((Lit.int .u32 x.f6).wf = true) ∧ ((Lit.int .u32 x.f7).wf = true) ∧ (x.f8.length ≤ maxLen ∧ ∀ y ∈ x.f8, (Lit.int .u8 y).wf = true) ∧ (x.f9.length ≤ maxLen ∧ ∀ y ∈ x.f9, PS48 y)
theorem opens_S28 {H : Type} {enc : TypeId × Value → H} {w : World} {base : Nat} {spare : Nat → Bool} {held : Bool} : Opens enc Try.prog w base spare held 28 k28 PS28 :=
  opens_iso (P := Try.prog) (fun a => ⟨a.1, a.2.1, a.2.2.1, a.2.2.2.1, a.2.2.2.2.1, a.2.2.2.2.2.1, a.2.2.2.2.2.2.1, a.2.2.2.2.2.2.2.1, a.2.2.2.2.2.2.2.2.1, a.2.2.2.2.2.2.2.2.2⟩) (fun _ => rfl) (opens_struct Try.underlying28 (by kernel_rfl) (opensF_cons rfl (by kernel_rfl) rfl (opens_int Try.underlying3) (opensF_cons rfl (by kernel_rfl) rfl (opens_int Try.underlying23) (opensF_cons rfl (by kernel_rfl) rfl (opens_int Try.underlying3) (opensF_cons rfl (by kernel_rfl) rfl (opens_int Try.underlying3) (opensF_cons rfl (by kernel_rfl) rfl (opens_int Try.underlying24) (opensF_cons rfl (by kernel_rfl) rfl (opens_int Try.underlying24) (opensF_cons rfl (by kernel_rfl) rfl (opens_int Try.underlying24) (opensF_cons rfl (by kernel_rfl) rfl (opens_int Try.underlying24) (opensF_cons rfl (by kernel_rfl) rfl (opens_slice Try.underlying25 (by kernel_rfl) (opens_int Try.underlying5)) (opensF_one rfl (by kernel_rfl) (opens_slice Try.underlying26 (by kernel_rfl) opens_S48))))))))))))
/-- What is left to prove, over numbers and lists. -/
def Pure : Prop := ∀ (l0 : List (S62)) (s1 : S28), l0.length ≤ maxLen → (∀ x ∈ l0, PS62 x) → PS28 s1 → ∃ k : Nat, lessorlaw26_RelayNets.f k l0 s1.f0 s1.f1 s1.f2 s1.f3 s1.f4 s1.f5 s1.f6 s1.f7 s1.f8 s1.f9 = some true
end relayNets
end Go.Proofs.Ytnkajghemggaaaa
