/-
  TopRoutes, the second form: the statement where what it reads is of bulk at most 1048576, and its tied card.
-/
import Derived.Test.YtdpoknfidlekbaaDoorRows
import Derived.Test.YtdpoknfidlekbaaDoorCards
import Derived.Test.YtdpoknfidlekbaaDoorTie
import Derived.SevenTiedAt
import Derived.LaidMore
import Derived.Lay
import Derived.Test.YtdpoknfidlekbaaDoorMTR1
import Derived.Test.YtdpoknfidlekbaaDoorMTR6
import Derived.WalkKit
import Derived.ProofKit
import Derived.OpenShut
import Derived.ShutString
import Derived.ChangeOld
import Derived.Below
import Derived.SizedLaws
import Derived.Deep.DeepHandedRow

section
namespace Go.Proofs.YtdpoknfidlekbaaDoor.topRoutesU
open Go.ChangeShapes Go.WideShapes Go.ChangeAt Go.RowKit Go.Proofs.YtdpoknfidlekbaaDoor.Pr Go.Proofs.YtdpoknfidlekbaaDoorW.PrintWords
set_option linter.unusedVariables false

/-! ### the arguments, each row in them of 1048576 at most -/
def PS53 (x : S53) : Prop := ((Lit.int .i64 x.f0).wf = true) ∧ (x.f1.length ≤ 1048576 ∧ ∀ y ∈ x.f1, (Lit.int .u8 y).wf = true)
theorem opens_S53 {H : Type} {enc : TypeId × Value → H} {w : World} {base : Nat} {spare : Nat → Bool} {held : Bool} : UB.Opens enc Tryd.prog w base spare held 1048576 53 k53 PS53 :=
  UB.opens_iso (P := Tryd.prog) (fun a => ⟨a.1, a.2⟩) (fun _ => rfl) (UB.opens_struct Tryd.underlying53 (by kernel_rfl) (UB.opensF_cons rfl (by kernel_rfl) rfl (UB.opens_int Tryd.underlying3) (UB.opensF_one rfl (by kernel_rfl) (UB.opens_slice Tryd.underlying24 (by kernel_rfl) (UB.opens_int Tryd.underlying5)))))
def PS27 (x : S27) : Prop := ((Lit.int .i64 x.f0).wf = true) ∧ ((Lit.int .u32 x.f1).wf = true) ∧ ((Lit.int .i64 x.f2).wf = true) ∧ ((Lit.int .i64 x.f3).wf = true) ∧ ((Lit.int .u32 x.f4).wf = true) ∧ ((Lit.int .u32 x.f5).wf = true) ∧ ((Lit.int .u32 x.f6).wf = true) ∧ ((Lit.int .u32 x.f7).wf = true) ∧ (x.f8.length ≤ 1048576 ∧ ∀ y ∈ x.f8, (Lit.int .u8 y).wf = true) ∧ (x.f9.length ≤ 1048576 ∧ ∀ y ∈ x.f9, PS53 y)
theorem opens_S27 {H : Type} {enc : TypeId × Value → H} {w : World} {base : Nat} {spare : Nat → Bool} {held : Bool} : UB.Opens enc Tryd.prog w base spare held 1048576 27 k27 PS27 :=
  UB.opens_iso (P := Tryd.prog) (fun a => ⟨a.1, a.2.1, a.2.2.1, a.2.2.2.1, a.2.2.2.2.1, a.2.2.2.2.2.1, a.2.2.2.2.2.2.1, a.2.2.2.2.2.2.2.1, a.2.2.2.2.2.2.2.2.1, a.2.2.2.2.2.2.2.2.2⟩) (fun _ => rfl) (UB.opens_struct Tryd.underlying27 (by kernel_rfl) (UB.opensF_cons rfl (by kernel_rfl) rfl (UB.opens_int Tryd.underlying3) (UB.opensF_cons rfl (by kernel_rfl) rfl (UB.opens_int Tryd.underlying22) (UB.opensF_cons rfl (by kernel_rfl) rfl (UB.opens_int Tryd.underlying3) (UB.opensF_cons rfl (by kernel_rfl) rfl (UB.opens_int Tryd.underlying3) (UB.opensF_cons rfl (by kernel_rfl) rfl (UB.opens_int Tryd.underlying23) (UB.opensF_cons rfl (by kernel_rfl) rfl (UB.opens_int Tryd.underlying23) (UB.opensF_cons rfl (by kernel_rfl) rfl (UB.opens_int Tryd.underlying23) (UB.opensF_cons rfl (by kernel_rfl) rfl (UB.opens_int Tryd.underlying23) (UB.opensF_cons rfl (by kernel_rfl) rfl (UB.opens_slice Tryd.underlying24 (by kernel_rfl) (UB.opens_int Tryd.underlying5)) (UB.opensF_one rfl (by kernel_rfl) (UB.opens_slice Tryd.underlying25 (by kernel_rfl) opens_S53))))))))))))
def PS44 (x : S44) : Prop := ((Lit.int .u32 x.f0).wf = true) ∧ ((Lit.int .i64 x.f1).wf = true) ∧ ((Lit.int .u32 x.f2).wf = true)
theorem opens_S44 {H : Type} {enc : TypeId × Value → H} {w : World} {base : Nat} {spare : Nat → Bool} {held : Bool} : UB.Opens enc Tryd.prog w base spare held 1048576 44 k44 PS44 :=
  UB.opens_iso (P := Tryd.prog) (fun a => ⟨a.1, a.2.1, a.2.2⟩) (fun _ => rfl) (UB.opens_struct Tryd.underlying44 (by kernel_rfl) (UB.opensF_cons rfl (by kernel_rfl) rfl (UB.opens_int Tryd.underlying23) (UB.opensF_cons rfl (by kernel_rfl) rfl (UB.opens_int Tryd.underlying3) (UB.opensF_one rfl (by kernel_rfl) (UB.opens_int Tryd.underlying23)))))

/-- The statement over numbers and lists. -/
theorem plain (s0 : S27) (l1 : List S44) (h : PS27 s0) (hl : l1.length ≤ 1048576) (h1 : ∀ x ∈ l1, PS44 x) : lessortop_TopRoutes.f s0.f0 s0.f1 s0.f2 s0.f3 s0.f4 s0.f5 s0.f6 s0.f7 s0.f8 s0.f9 l1 = some true := by
  obtain ⟨_, g1, _, _, g4, g5, g6, g7, ⟨_, g8⟩, n9, g9⟩ := h
  exact if_pos ⟨⟨PR.okU_wf g1, PR.okU_wf g4, PR.okU_wf g5, PR.okU_wf g6, PR.okU_wf g7⟩, fun y hy => PD.wf_byte (g8 y hy), fun x hx y hy => PD.wf_byte ((g9 x hx).2.2 y hy), ⟨n9, fun x hx => (g9 x hx).2.1⟩, hl, fun x hx => ⟨PR.okU_wf (h1 x hx).1, PR.okU_wf (h1 x hx).2.2⟩⟩

theorem own : ownKnob Tryd.prog.godebug = none := by kernel_rfl
theorem laidOut : laidOutB Tryd.prog = true := by kernel_rfl
set_option maxRecDepth 100000 in
theorem contract (H : Type) (enc : TypeId × Value → H) (W : World) (base : Nat) (args : Array Value) (ds gs : List (DataW H)) (before : List MemPlace)
    (hval0 : ∀ (j : Nat) t v, Tryd.f3.params[j]? = some t → args[j]? = some v → Value.okWide Tryd.prog W .any base t v)
    (hW : DataW.Whole enc Tryd.prog Tryd.f3.params.toList Rows.topRoutesSpec.vars false W args.toList ds gs before) (hk : Rows.uptoSmall H (ds ++ gs) = true) :
    Calls Tryd.prog 3 args W fun e W' => ∃ v, e = .returned v ∧ Rows.topRoutesSpec.post enc Tryd.prog Tryd.f3 false true false false W args v W' := by
  have hb : Rows.uptoBulkAll (ds ++ gs) ≤ 1048576 := of_decide_eq_true hk
  have hbd : ∀ d ∈ ds, Rows.uptoBulk d ≤ 1048576 := fun d hd => Nat.le_trans (UB.bulk_part (List.mem_append.2 (.inl hd))) hb
  clear hb hk
  have hval : ∀ (j : Nat) t v, Tryd.f3.params[j]? = some t → args[j]? = some v → Value.okWide Tryd.prog W .any base t v := hval0
  have hW' := hW
  obtain ⟨p, q, hA0, hV, rfl, hfz, hnd⟩ := hW
  have hA : DataW.TrodAll enc Tryd.prog W 0 (fun _ => true) true Tryd.f3.params.toList args.toList ds p := hA0
  rw [Tryd.params3] at hA hval
  obtain ⟨v0, vs0, d0, ds0, p0, q0, hargs, rfl, rfl, h0, r0⟩ := trodAll_cons hA
  obtain ⟨v1, vs1, d1, ds1, p1, q1, rfl, rfl, rfl, h1, r1⟩ := trodAll_cons r0
  obtain ⟨rfl, rfl, rfl⟩ := trodAll_nil r1
  obtain rfl : args = #[v0, v1] := by cases args; simp_all
  obtain ⟨rfl, rfl⟩ := trodVars_none hV
  have k0 := h0
  have lt0 : ∀ x ∈ p0, x.block < W.heap.size := by obtain ⟨m, hm⟩ := k0; exact DataW.trod_lt m _ _ _ hm
  obtain ⟨z0, cs0, rfl, hk0, hp0⟩ := UB.open_agg (P := Tryd.prog) Tryd.underlying27 opens_S27 (hval 0 27 v0 rfl rfl) h0 (hbd d0 (by simp))
  obtain ⟨A0_8, c0_8, A0_9, c0_9, he0, hc0_8, hr0_8, hc0_9, hr0_9⟩ := k27_open hk0
  obtain rfl : cs0 = #[.int .i64 z0.f0, .int .u32 z0.f1, .int .i64 z0.f2, .int .i64 z0.f3, .int .u32 z0.f4, .int .u32 z0.f5, .int .u32 z0.f6, .int .u32 z0.f7, .slice A0_8 z0.f8.length c0_8, .slice A0_9 z0.f9.length c0_9] := by have he_ := congrArg List.toArray he0; simpa using he_
  have k1 := h1
  have lt1 : ∀ x ∈ p1, x.block < W.heap.size := by obtain ⟨m, hm⟩ := k1; exact DataW.trod_lt m _ _ _ hm
  obtain ⟨A1, c1, z1, rfl, hc1, hr1, hm1, hp1⟩ := UB.open_top (P := Tryd.prog) Tryd.underlying28 (by kernel_rfl) opens_S44 (hval 1 28 v1 rfl rfl) h1 (hbd d1 (by simp))
  have hpure := plain z0 z1 hp0 hm1 hp1
  clear hA0 hval0
  refine (lessortop_TopRoutes.calls z0.f0 z0.f1 z0.f2 z0.f3 z0.f4 z0.f5 z0.f6 z0.f7 A0_8 c0_8 z0.f8 A0_9 c0_9 z0.f9 A1 c1 z1 true W hr0_8 hc0_8 hr0_9 hc0_9 hr1 hc1 hpure).mono ?_
  rintro e W' ⟨he, bel0⟩
  have bel : Below W.heap.size W W' := bel0
  subst he
  exact ⟨_, rfl, _, _, _, [], _, [], hW', trodAll_mk1 (shut_bool Tryd.underlying4 _), (trodAll_cons_mk (Below.trod laidOut (by kernel_rfl) (of_decide_eq_true (by kernel_rfl)) k0 bel lt0) (trodAll_cons_mk (Below.trod laidOut (by kernel_rfl) (of_decide_eq_true (by kernel_rfl)) k1 bel lt1) trodAll_mk0)), rfl, bel.frame _, fun h => by cases h⟩

/-! ### a world and arguments that meet the row's condition: all zero -/
def zeros : Array Value := #[.agg #[.int .i64 0, .int .u32 0, .int .i64 0, .int .i64 0, .int .u32 0, .int .u32 0, .int .u32 0, .int .u32 0, .slice none 0 0, .slice none 0 0], .slice none 0 0]
theorem reads (os : Os) {H : Type} (enc : TypeId × Value → H) : ∃ places, DataW.whole enc Tryd.prog ((World.laidAll Tryd.prog os Rows.topRoutesUptoRow.laid).forCall (fun _ _ => 0) ⟨#[], zeros, []⟩).memory Tryd.f3.params.toList Rows.topRoutesSpec.vars false zeros.toList 8 =
    some ([.agg [.lit (.int .i64 0), .lit (.int .u32 0), .lit (.int .i64 0), .lit (.int .i64 0), .lit (.int .u32 0), .lit (.int .u32 0), .lit (.int .u32 0), .lit (.int .u32 0), .nil, .nil], .nil], [], places) :=
  ⟨[], by kernel_rfl⟩
set_option maxRecDepth 100000 in
theorem laid_met (os : Os) : laidMetH Tryd.prog Rows.topRoutesUptoRow.laid ((World.laidAll Tryd.prog os Rows.topRoutesUptoRow.laid).forCall (fun _ _ => 0) ⟨#[], zeros, []⟩).memory :=
  (MakeChecks.laidMetH_plain _ _ _ (by kernel_rfl)).mpr (laidMet_laidAll _ (by kernel_rfl) (by kernel_rfl))
set_option maxRecDepth 100000 in
theorem lifted (os : Os) (started : os.Started) (H : Type) (enc : TypeId × Value → H) (F : Stop.Interp) :
    ReturnsInHanded {} Tryd.checked os 3 .any ((Rows.OpenSpec.upto Rows.topRoutesSpec).preRow enc Tryd.prog Tryd.f3 Rows.topRoutesUptoRow.domain false Rows.topRoutesUptoRow.laid) (((Rows.OpenSpec.upto Rows.topRoutesSpec).at F).post enc Tryd.prog Tryd.f3 false true false false) := by
  obtain ⟨places, hx⟩ := reads os enc
  refine returnsInHanded_of_row (C := Tryd.checked) (s := Rows.OpenSpec.upto Rows.topRoutesSpec) own started (by kernel_rfl) Tryd.func3
    (witness_row_at (enc := enc) (C := Tryd.checked) false (World.laidAll Tryd.prog os Rows.topRoutesUptoRow.laid) zeros (World.laidAll_os _ _ _) (by kernel_rfl) (by kernel_rfl) (by kernel_rfl)
      (OpenSpec.preRow_of_cond 8 hx (by kernel_rfl) (fun k hk => by cases hk; kernel_rfl) (by kernel_rfl) (laid_met os))) ?_
  intro W base args ds gs before hval hW _ hcond _ hL _ _
  exact contract H enc W base args ds gs before hval hW (hcond _ rfl)

theorem said : Rows.TopRoutesUptoSaid :=
  OpenClaim.holds_of_cond 3 Tryd.f3 rfl rfl rfl rfl rfl rfl rfl ⟨rfl, rfl, rfl, rfl, rfl⟩ rfl rfl rfl rfl rfl (by kernel_rfl) Tryd.func3 (by kernel_rfl)
    (of_decide_eq_true (by kernel_rfl)) (by unfold Func.isWrapper; first | (rw [if_pos (by decide +kernel)]; kernel_rfl) | (rw [if_neg (by decide +kernel)]; exact ⟨rfl, rfl⟩))
    (fun os started H enc _ F => by rw [OpenClaim.pre_eq_preRow]; exact lifted os started H enc F)
theorem plainly (f : FuncId) (fn : Func) (hf : Tryd.pinned.checked.prog.funcNamed "lessor/lessortop.TopRoutes" = some f) (hfn : Tryd.pinned.checked.prog.funcs[f]? = some fn) :
    true = Tryd.pinned.checked.prog.looks [] ∧ ∀ (j : Nat) t, fn.params[j]? = some t → Tryd.pinned.checked.prog.wantsStandIn t = false := by
  obtain rfl : f = 3 := Option.some.inj ((show Tryd.prog.funcNamed "lessor/lessortop.TopRoutes" = some 3 by kernel_rfl).symm.trans hf) |>.symm
  obtain rfl : fn = Tryd.f3 := (Option.some.inj (Tryd.func3.symm.trans hfn)).symm
  refine ⟨by kernel_rfl, fun j t ht => ?_⟩
  rw [Tryd.params3] at ht
  have hm : t ∈ [27, 28] := by simpa using Array.mem_of_getElem? ht
  have hall : ([27, 28].all fun u => !Tryd.prog.wantsStandIn u) = true := by kernel_rfl
  exact (show Tryd.prog.wantsStandIn t = false by simpa using List.all_eq_true.1 hall t hm)
theorem card : Rows.TopRoutesUptoCardSaid :=
  Claim7.holds_tied_plain_at .later [] _ _ _ _ said (fun _ h => by cases h) (by kernel_rfl) (fun _ h => by cases h) topRoutesUpto_row_tie rfl ⟨rfl, rfl⟩ (by kernel_rfl) rfl plainly (by kernel_rfl)
#print axioms card
end Go.Proofs.YtdpoknfidlekbaaDoor.topRoutesU
namespace Go.Proofs.YtdpoknfidlekbaaDoor
/-- The card, under a short name, for the claim. -/
theorem topRoutesUptoCard_holds : Rows.TopRoutesUptoCardSaid := topRoutesU.card
end Go.Proofs.YtdpoknfidlekbaaDoor
end
