-- written by a program of this session (wip/tools/gen.py) over the kit's print
import Derived.Test.YtnkajghemggaaaaRows
import Derived.Test.YtnkajghemggaaaaPureRelayNets
import Derived.WalkKit
import Derived.ProofKit
import Derived.OpenShut
import Derived.ShutString
import Derived.ChangeOld
import Derived.Below
import Derived.SizedLaws
namespace Go.Proofs.Ytnkajghemggaaaa.relayNets
open Go.ChangeShapes Go.WideShapes Go.ChangeAt Go.RowKit Go.Proofs.Ytnkajghemggaaaa.Pn Go.Proofs.YtnkajghemggaaaaW.PrintWords
open Go.ChangeMaps (open_string shut_string)
set_option linter.unusedVariables false
theorem own : ownKnob Try.prog.godebug = none := by kernel_rfl
theorem laidOut : laidOutB Try.prog = true := by kernel_rfl
set_option maxRecDepth 100000 in
theorem lifted (os : Os) (started : os.Started) (H : Type) (enc : TypeId × Value → H) :
    ReturnsInHanded {} Try.checked os 3 .any (Rows.relayNetsSpec.pre6 enc Try.prog Try.f3 Rows.relayNetsRow.domain false) (Rows.relayNetsSpec.post enc Try.prog Try.f3 false true false false) := by
  refine returnsInHanded_of_change_sized (C := Try.checked) own started (by kernel_rfl) Try.func3
    (ChangeSpec.witness6 (enc := enc) (C := Try.checked) false ⟨#[], #[.slice none 0 0, .agg #[.int .i64 0, .int .u32 0, .int .i64 0, .int .i64 0, .int .u32 0, .int .u32 0, .int .u32 0, .int .u32 0, .slice none 0 0, .slice none 0 0]], []⟩ 8 (by kernel_rfl) (by kernel_rfl) (by kernel_rfl) (by kernel_rfl)) ?_
  intro W base args ds gs before hval0 hW hcnd hsz0 _
  have hval : ∀ (j : Nat) t v, Try.f3.params[j]? = some t → args[j]? = some v → Value.okWide Try.prog W .any base t v := hval0
  have hW' := hW
  obtain ⟨p, q, hA0, hV, rfl, hfz, hnd⟩ := hW
  have hA : DataW.TrodAll enc Try.prog W 0 (fun _ => true) true Try.f3.params.toList args.toList ds p := hA0
  rw [Try.params3] at hA hval
  obtain ⟨v0, vs0, d0, ds0, p0, q0, hargs, rfl, rfl, h0, r0⟩ := trodAll_cons hA
  obtain ⟨v1, vs1, d1, ds1, p1, q1, rfl, rfl, rfl, h1, r1⟩ := trodAll_cons r0
  obtain ⟨rfl, rfl, rfl⟩ := trodAll_nil r1
  obtain rfl : args = #[v0, v1] := by cases args; simp_all
  obtain ⟨rfl, rfl⟩ := trodVars_none hV
  have k0 := h0
  have lt0 : ∀ x ∈ p0, x.block < W.heap.size := by obtain ⟨m, hm⟩ := k0; exact DataW.trod_lt m _ _ _ hm
  obtain ⟨A0, c0, z0, rfl, hc0, hr0, hm0, hp0⟩ := open_top (P := Try.prog) Try.underlying22 (by kernel_rfl) opens_S62 (hval 0 22 v0 rfl rfl) h0
  have k1 := h1
  have lt1 : ∀ x ∈ p1, x.block < W.heap.size := by obtain ⟨m, hm⟩ := k1; exact DataW.trod_lt m _ _ _ hm
  obtain ⟨z1, cs1, rfl, hk1, hp1⟩ := open_agg (P := Try.prog) Try.underlying28 opens_S28 (hval 1 28 v1 rfl rfl) h1
  obtain ⟨A1_8, c1_8, A1_9, c1_9, he1, hc1_8, hr1_8, hc1_9, hr1_9⟩ := k28_open hk1
  obtain rfl : cs1 = #[.int .i64 z1.f0, .int .u32 z1.f1, .int .i64 z1.f2, .int .i64 z1.f3, .int .u32 z1.f4, .int .u32 z1.f5, .int .u32 z1.f6, .int .u32 z1.f7, .slice A1_8 z1.f8.length c1_8, .slice A1_9 z1.f9.length c1_9] := by have he_ := congrArg List.toArray he1; simpa using he_
  obtain ⟨kk, hpure⟩ := Pure.RelayNets z0 z1 hm0 hp0 hp1
  clear hA0 hval0 hsz0
  refine (lessorlaw26_RelayNets.calls kk A0 c0 z0 z1.f0 z1.f1 z1.f2 z1.f3 z1.f4 z1.f5 z1.f6 z1.f7 A1_8 c1_8 z1.f8 A1_9 c1_9 z1.f9 true W hr0 hc0 hr1_8 hc1_8 hr1_9 hc1_9 hpure).mono ?_
  rintro e W' ⟨he, bel0⟩
  have bel : Below W.heap.size W W' := bel0
  subst he
  exact ⟨_, rfl, _, _, _, [], _, [], hW', trodAll_mk1 (shut_bool Try.underlying4 _), (trodAll_cons_mk (Below.trod laidOut (by kernel_rfl) (of_decide_eq_true (by kernel_rfl)) k0 bel lt0) (trodAll_cons_mk (Below.trod laidOut (by kernel_rfl) (of_decide_eq_true (by kernel_rfl)) k1 bel lt1) trodAll_mk0)), rfl, bel.frame _, fun h => by cases h⟩
theorem over : Rows.relayNetsRow.holds Try.pinned (OpenSpec.ofChange Rows.relayNetsSpec) :=
  OpenClaim.holds_of_wide 3 Try.f3 rfl rfl rfl rfl rfl rfl rfl ⟨rfl, rfl, rfl, rfl, rfl⟩ rfl rfl rfl rfl rfl (by kernel_rfl) Try.func3 (by kernel_rfl)
    (of_decide_eq_true (by kernel_rfl)) (by unfold Func.isWrapper; first | (rw [if_pos (by decide +kernel)]; kernel_rfl) | (rw [if_neg (by decide +kernel)]; exact ⟨rfl, rfl⟩))
    (fun os started H enc _ => lifted os started H enc)
theorem proved : Rows.RelayNetsSaid := over
#print axioms proved
end Go.Proofs.Ytnkajghemggaaaa.relayNets
namespace Go.Proofs.Ytnkajghemggaaaa
/-- The row, under a short name, for the claim. -/
theorem relayNets_holds : Rows.RelayNetsSaid := relayNets.proved
end Go.Proofs.Ytnkajghemggaaaa
