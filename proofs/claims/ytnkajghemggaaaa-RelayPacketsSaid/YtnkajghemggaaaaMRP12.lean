/-
  Printed: LawRelayPackets.
-/
import Derived.Test.YtnkajghemggaaaaRows
import Derived.Test.YtnkajghemggaaaaMRP11
import Derived.WalkKit
import Derived.ProofKit
import Derived.OpenShut
import Derived.ShutString
import Derived.ChangeOld
import Derived.Below
import Derived.SizedLaws

section
-- written by a program of this session (wip/tools/gen.py) over the kit's print
namespace Go.Proofs.Ytnkajghemggaaaa.relayPackets
open Go.ChangeShapes Go.WideShapes Go.ChangeAt Go.RowKit Go.Proofs.Ytnkajghemggaaaa.Pr Go.Proofs.YtnkajghemggaaaaW.PrintWords
open Go.ChangeMaps (open_string shut_string)
set_option linter.unusedVariables false
theorem own : ownKnob Try.prog.godebug = none := by kernel_rfl
theorem laidOut : laidOutB Try.prog = true := by kernel_rfl
set_option maxRecDepth 100000 in
theorem lifted (os : Os) (started : os.Started) (H : Type) (enc : TypeId × Value → H) :
    ReturnsInHanded {} Try.checked os 6 .any (Rows.relayPacketsSpec.pre6 enc Try.prog Try.f6 Rows.relayPacketsRow.domain false) (Rows.relayPacketsSpec.post enc Try.prog Try.f6 false true false false) := by
  refine returnsInHanded_of_change_sized (C := Try.checked) own started (by kernel_rfl) Try.func6
    (ChangeSpec.witness6 (enc := enc) (C := Try.checked) false ⟨#[], #[.agg #[.int .i64 0, .int .u32 0, .int .i64 0, .int .i64 0, .int .u32 0, .int .u32 0, .int .u32 0, .int .u32 0, .slice none 0 0, .slice none 0 0], .int .u32 0, .slice none 0 0], []⟩ 8 (by kernel_rfl) (by kernel_rfl) (by kernel_rfl) (by kernel_rfl)) ?_
  intro W base args ds gs before hval0 hW hcnd hsz0 _
  have hval : ∀ (j : Nat) t v, Try.f6.params[j]? = some t → args[j]? = some v → Value.okWide Try.prog W .any base t v := hval0
  have hW' := hW
  obtain ⟨p, q, hA0, hV, rfl, hfz, hnd⟩ := hW
  have hA : DataW.TrodAll enc Try.prog W 0 (fun _ => true) true Try.f6.params.toList args.toList ds p := hA0
  rw [Try.params6] at hA hval
  obtain ⟨v0, vs0, d0, ds0, p0, q0, hargs, rfl, rfl, h0, r0⟩ := trodAll_cons hA
  obtain ⟨v1, vs1, d1, ds1, p1, q1, rfl, rfl, rfl, h1, r1⟩ := trodAll_cons r0
  obtain ⟨v2, vs2, d2, ds2, p2, q2, rfl, rfl, rfl, h2, r2⟩ := trodAll_cons r1
  obtain ⟨rfl, rfl, rfl⟩ := trodAll_nil r2
  obtain rfl : args = #[v0, v1, v2] := by cases args; simp_all
  obtain ⟨rfl, rfl⟩ := trodVars_none hV
  have k0 := h0
  have lt0 : ∀ x ∈ p0, x.block < W.heap.size := by obtain ⟨m, hm⟩ := k0; exact DataW.trod_lt m _ _ _ hm
  obtain ⟨z0, cs0, rfl, hk0, hp0⟩ := open_agg (P := Try.prog) Try.underlying28 opens_S28 (hval 0 28 v0 rfl rfl) h0
  obtain ⟨A0_8, c0_8, A0_9, c0_9, he0, hc0_8, hr0_8, hc0_9, hr0_9⟩ := k28_open hk0
  obtain rfl : cs0 = #[.int .i64 z0.f0, .int .u32 z0.f1, .int .i64 z0.f2, .int .i64 z0.f3, .int .u32 z0.f4, .int .u32 z0.f5, .int .u32 z0.f6, .int .u32 z0.f7, .slice A0_8 z0.f8.length c0_8, .slice A0_9 z0.f9.length c0_9] := by have he_ := congrArg List.toArray he0; simpa using he_
  obtain ⟨a1, rfl, rfl, rfl, w1⟩ := open_int Try.underlying24 (hval 1 24 v1 rfl rfl) h1
  have k2 := h2
  have lt2 : ∀ x ∈ p2, x.block < W.heap.size := by obtain ⟨m, hm⟩ := k2; exact DataW.trod_lt m _ _ _ hm
  obtain ⟨A2, c2, z2, rfl, hc2, hr2, hm2, hp2⟩ := open_top (P := Try.prog) Try.underlying26 (by kernel_rfl) opens_S48 (hval 2 26 v2 rfl rfl) h2
  have hpure := Pure.RelayPackets z0 a1 z2 hp0 w1 hm2 hp2
  clear hA0 hval0 hsz0
  refine (lessorlaw26_RelayPackets.calls z0.f0 z0.f1 z0.f2 z0.f3 z0.f4 z0.f5 z0.f6 z0.f7 A0_8 c0_8 z0.f8 A0_9 c0_9 z0.f9 a1 A2 c2 z2 true W hr0_8 hc0_8 hr0_9 hc0_9 hr2 hc2 hpure).mono ?_
  rintro e W' ⟨he, bel0⟩
  have bel : Below W.heap.size W W' := bel0
  subst he
  exact ⟨_, rfl, _, _, _, [], _, [], hW', trodAll_mk1 (shut_bool Try.underlying4 _), (trodAll_cons_mk (Below.trod laidOut (by kernel_rfl) (of_decide_eq_true (by kernel_rfl)) k0 bel lt0) (trodAll_cons_mk (shut_int Try.underlying24 w1) (trodAll_cons_mk (Below.trod laidOut (by kernel_rfl) (of_decide_eq_true (by kernel_rfl)) k2 bel lt2) trodAll_mk0))), rfl, bel.frame _, fun h => by cases h⟩
theorem over : Rows.relayPacketsRow.holds Try.pinned (OpenSpec.ofChange Rows.relayPacketsSpec) :=
  OpenClaim.holds_of_wide 6 Try.f6 rfl rfl rfl rfl rfl rfl rfl ⟨rfl, rfl, rfl, rfl, rfl⟩ rfl rfl rfl rfl rfl (by kernel_rfl) Try.func6 (by kernel_rfl)
    (of_decide_eq_true (by kernel_rfl)) (by unfold Func.isWrapper; first | (rw [if_pos (by decide +kernel)]; kernel_rfl) | (rw [if_neg (by decide +kernel)]; exact ⟨rfl, rfl⟩))
    (fun os started H enc _ => lifted os started H enc)
theorem proved : Rows.RelayPacketsSaid := over
#print axioms proved
end Go.Proofs.Ytnkajghemggaaaa.relayPackets
namespace Go.Proofs.Ytnkajghemggaaaa
/-- The row, under a short name, for the claim. -/
theorem relayPackets_holds : Rows.RelayPacketsSaid := relayPackets.proved
end Go.Proofs.Ytnkajghemggaaaa
end
