/- The statement PacketEncodes over numbers and lists. No condition. -/
import Derived.Test.YtmbfdmceameghaaStPacketEncodes
import Derived.Test.YtmbfdmceameghaaPPacket
namespace Go.Proofs.Ytmbfdmceameghaa.Pure
open Go.RowKit Go.Proofs.Ytmbfdmceameghaa Go.Proofs.Ytmbfdmceameghaa.Pr Go.Proofs.Ytmbfdmceameghaa.PO Go.Proofs.Ytmbfdmceameghaa.PP Go.Proofs.YtmbfdmceameghaaW.PrintWords Go.Proofs.YtmbfdmceameghaaW.PrintLast
set_option linter.unusedVariables false
set_option linter.unusedSimpArgs false

theorem okU_wf {a : Int} (h : (Lit.int .u32 a).wf = true) : 0 ≤ a ∧ a < 4294967296 := by
  have e1 : IntKind.u32.min = 0 := by decide
  have e2 : IntKind.u32.max = 4294967295 := by decide
  simp [Lit.wf, e1, e2] at h
  omega
set_option maxRecDepth 100000 in
theorem PacketEncodes : packetEncodes.Pure := by
  intro p hp
  refine ⟨500, ?_⟩
  obtain ⟨h0, h1, h2, h3, h4, h5, h6, h7, h8, h9⟩ := hp
  have A : lessorlaw03_awake.f 500 = some true := by decide +kernel
  have hu : pkOk p.f1 p.f4 p.f5 p.f6 p.f7 := ⟨okU_wf h1, okU_wf h4, okU_wf h5, okU_wf h6, okU_wf h7⟩
  obtain ⟨b, hb, hfew⟩ := few_eq p.f9 500 (by omega)
  unfold lessorlaw03_PacketEncodes.f lessorref03_Few.f
  rw [A, hb]
  simp only [Option.bind_some, if_true]
  cases b with
  | false => simp [lessorlaw03_PacketEncodes.j0]
  | true =>
    have hf := hfew.1 rfl
    simp only [if_true, Option.bind_some, lessorlaw03_PacketEncodes.j0]
    by_cases c : (p.f8.length : Int) < 1000
    · rw [decide_eq_true c, Bool.not_true, if_neg (by decide), pk_encode_eq _ _ _ _ _ _ _ _ hu _ _ hf 499 (by omega), ref_pk_encode_eq _ _ _ _ _ _ _ _ hu _ _ hf 499 (by omega), right_eq _ _ _ _ _ _ _ _ _ _ hf 499 (by omega), ref_right_eq _ _ _ _ _ _ _ _ _ _ hf 499 (by omega)]
      simp
    · rw [decide_eq_false c, Bool.not_false, if_pos rfl]

end Go.Proofs.Ytmbfdmceameghaa.Pure
