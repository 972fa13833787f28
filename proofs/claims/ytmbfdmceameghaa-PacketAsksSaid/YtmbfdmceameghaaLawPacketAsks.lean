-- written by a program of this session (wip/tools/gen.py) over the kit's print
import Derived.Test.YtmbfdmceameghaaRows
import Derived.Test.YtmbfdmceameghaaPurePacketAsks
import Derived.WalkKit
import Derived.ProofKit
import Derived.OpenShut
import Derived.ShutString
import Derived.ChangeOld
import Derived.Below
import Derived.SizedLaws
namespace Go.Proofs.Ytmbfdmceameghaa.packetAsks
open Go.ChangeShapes Go.WideShapes Go.ChangeAt Go.RowKit Go.Proofs.Ytmbfdmceameghaa.Pr Go.Proofs.YtmbfdmceameghaaW.PrintWords
open Go.ChangeMaps (open_string shut_string)
set_option linter.unusedVariables false
theorem own : ownKnob Try.prog.godebug = none := by kernel_rfl
theorem laidOut : laidOutB Try.prog = true := by kernel_rfl
set_option maxRecDepth 100000 in
theorem lifted (os : Os) (started : os.Started) (H : Type) (enc : TypeId × Value → H) :
    ReturnsInHanded {} Try.checked os 5 .any (Rows.packetAsksSpec.pre6 enc Try.prog Try.f5 Rows.packetAsksRow.domain false) (Rows.packetAsksSpec.post enc Try.prog Try.f5 false true false false) := by
  refine returnsInHanded_of_change_sized (C := Try.checked) own started (by kernel_rfl) Try.func5
    (ChangeSpec.witness6 (enc := enc) (C := Try.checked) false ⟨#[], #[.agg #[.int .i64 0, .int .u32 0, .int .i64 0, .int .i64 0, .int .u32 0, .int .u32 0, .int .u32 0, .int .u32 0, .slice none 0 0, .slice none 0 0], .agg #[.int .i64 0, .int .i64 0, .int .i64 0], .slice none 0 0], []⟩ 8 (by kernel_rfl) (by kernel_rfl) (by kernel_rfl) (by kernel_rfl)) ?_
  intro W base args ds gs before hval0 hW hcnd hsz0 _
  have hval : ∀ (j : Nat) t v, Try.f5.params[j]? = some t → args[j]? = some v → Value.okWide Try.prog W .any base t v := hval0
  have hW' := hW
  obtain ⟨p, q, hA0, hV, rfl, hfz, hnd⟩ := hW
  have hA : DataW.TrodAll enc Try.prog W 0 (fun _ => true) true Try.f5.params.toList args.toList ds p := hA0
  rw [Try.params5] at hA hval
  obtain ⟨v0, vs0, d0, ds0, p0, q0, hargs, rfl, rfl, h0, r0⟩ := trodAll_cons hA
  obtain ⟨v1, vs1, d1, ds1, p1, q1, rfl, rfl, rfl, h1, r1⟩ := trodAll_cons r0
  obtain ⟨v2, vs2, d2, ds2, p2, q2, rfl, rfl, rfl, h2, r2⟩ := trodAll_cons r1
  obtain ⟨rfl, rfl, rfl⟩ := trodAll_nil r2
  obtain rfl : args = #[v0, v1, v2] := by cases args; simp_all
  obtain ⟨rfl, rfl⟩ := trodVars_none hV
  have k0 := h0
  have lt0 : ∀ x ∈ p0, x.block < W.heap.size := by obtain ⟨m, hm⟩ := k0; exact DataW.trod_lt m _ _ _ hm
  obtain ⟨z0, cs0, rfl, hk0, hp0⟩ := open_agg (P := Try.prog) Try.underlying27 opens_S27 (hval 0 27 v0 rfl rfl) h0
  obtain ⟨A0_8, c0_8, A0_9, c0_9, he0, hc0_8, hr0_8, hc0_9, hr0_9⟩ := k27_open hk0
  obtain rfl : cs0 = #[.int .i64 z0.f0, .int .u32 z0.f1, .int .i64 z0.f2, .int .i64 z0.f3, .int .u32 z0.f4, .int .u32 z0.f5, .int .u32 z0.f6, .int .u32 z0.f7, .slice A0_8 z0.f8.length c0_8, .slice A0_9 z0.f9.length c0_9] := by have he_ := congrArg List.toArray he0; simpa using he_
  have k1 := h1
  have lt1 : ∀ x ∈ p1, x.block < W.heap.size := by obtain ⟨m, hm⟩ := k1; exact DataW.trod_lt m _ _ _ hm
  obtain ⟨a1_0, a1_1, a1_2, rfl, w1_0, w1_1, w1_2⟩ := open_arr3 (P := Try.prog) Try.underlying37 (by kernel_rfl) (by kernel_rfl) Try.underlying3 (hval 1 37 v1 rfl rfl) h1
  have k2 := h2
  have lt2 : ∀ x ∈ p2, x.block < W.heap.size := by obtain ⟨m, hm⟩ := k2; exact DataW.trod_lt m _ _ _ hm
  obtain ⟨A2, c2, z2, rfl, hc2, hr2, hm2, hp2⟩ := open_top (P := Try.prog) Try.underlying24 (by kernel_rfl) (opens_int Try.underlying5) (hval 2 24 v2 rfl rfl) h2
  have hpure := Pure.PacketAsks z0 a1_0 a1_1 a1_2 z2 hp0 w1_0 w1_1 w1_2 hm2 hp2
  clear hA0 hval0 hsz0
  refine (lessorlaw03_PacketAsks.calls z0.f0 z0.f1 z0.f2 z0.f3 z0.f4 z0.f5 z0.f6 z0.f7 A0_8 c0_8 z0.f8 A0_9 c0_9 z0.f9 a1_0 a1_1 a1_2 A2 c2 z2 true W hr0_8 hc0_8 hr0_9 hc0_9 hr2 hc2 hpure).mono ?_
  rintro e W' ⟨he, bel0⟩
  have bel : Below W.heap.size W W' := bel0
  subst he
  exact ⟨_, rfl, _, _, _, [], _, [], hW', trodAll_mk1 (shut_bool Try.underlying4 _), (trodAll_cons_mk (Below.trod laidOut (by kernel_rfl) (of_decide_eq_true (by kernel_rfl)) k0 bel lt0) (trodAll_cons_mk (Below.trod laidOut (by kernel_rfl) (of_decide_eq_true (by kernel_rfl)) k1 bel lt1) (trodAll_cons_mk (Below.trod laidOut (by kernel_rfl) (of_decide_eq_true (by kernel_rfl)) k2 bel lt2) trodAll_mk0))), rfl, bel.frame _, fun h => by cases h⟩
theorem over : Rows.packetAsksRow.holds Try.pinned (OpenSpec.ofChange Rows.packetAsksSpec) :=
  OpenClaim.holds_of_wide 5 Try.f5 rfl rfl rfl rfl rfl rfl rfl ⟨rfl, rfl, rfl, rfl, rfl⟩ rfl rfl rfl rfl rfl (by kernel_rfl) Try.func5 (by kernel_rfl)
    (of_decide_eq_true (by kernel_rfl)) (by unfold Func.isWrapper; first | (rw [if_pos (by decide +kernel)]; kernel_rfl) | (rw [if_neg (by decide +kernel)]; exact ⟨rfl, rfl⟩))
    (fun os started H enc _ => lifted os started H enc)
theorem proved : Rows.PacketAsksSaid := over
#print axioms proved
end Go.Proofs.Ytmbfdmceameghaa.packetAsks
namespace Go.Proofs.Ytmbfdmceameghaa
/-- The row, under a short name, for the claim. -/
theorem packetAsks_holds : Rows.PacketAsksSaid := packetAsks.proved
end Go.Proofs.Ytmbfdmceameghaa
