/- The statement PacketTells over numbers and lists. No condition. -/
import Derived.Test.YtmbfdmceameghaaStPacketTells
import Derived.Test.YtmbfdmceameghaaPTells
namespace Go.Proofs.Ytmbfdmceameghaa.packetTells.Pure
open Go.RowKit Go.Proofs.Ytmbfdmceameghaa Go.Proofs.Ytmbfdmceameghaa.Pr Go.Proofs.Ytmbfdmceameghaa.PO Go.Proofs.Ytmbfdmceameghaa.PT Go.Proofs.YtmbfdmceameghaaW.PrintWords Go.Proofs.YtmbfdmceameghaaW.PrintLast
set_option linter.unusedVariables false
set_option linter.unusedSimpArgs false

theorem u8_wf {x : Int} (h : (Lit.int .u8 x).wf = true) : 0 ≤ x ∧ x ≤ 255 := by
  simpa [Lit.wf, IntKind.min, IntKind.max, IntKind.signed, IntKind.bits] using h
set_option maxRecDepth 100000 in
theorem PacketTells : packetTells.Pure := by
  intro p hp
  refine ⟨500, ?_⟩
  obtain ⟨h0, h1, h2, h3, h4, h5, h6, h7, h8, h9⟩ := hp
  have A : lessorlaw03_awake.f 500 = some true := by decide +kernel
  have hb : bytesOk p.f9 := fun x hx y hy => u8_wf ((h9.2 x hx).2.2 y hy)
  obtain ⟨b, hfb, hfew⟩ := few_eq p.f9 500 (by omega)
  unfold lessorlaw03_PacketTells.f lessorref03_Few.f
  rw [A, hfb]
  simp only [Option.bind_some, if_true]
  cases b with
  | false => simp [lessorlaw03_PacketTells.j0]
  | true =>
    have hf := hfew.1 rfl
    simp only [if_true, Option.bind_some, lessorlaw03_PacketTells.j0]
    by_cases c : (p.f8.length : Int) < 1000
    · rw [decide_eq_true c, Bool.not_true, if_neg (by decide), asked_eq _ _ _ _ _ _ _ _ _ _ hf hb 499 (by omega), ref_asked_eq _ _ _ _ _ _ _ _ _ _ hf hb 499 (by omega), kind_eq _ _ _ _ _ _ _ _ _ _ hf hb, ref_kind_eq _ _ _ _ _ _ _ _ _ _ hf hb 499 (by omega), client_eq _ _ _ _ _ _ _ _ _ _ hf, ref_client_eq _ _ _ _ _ _ _ _ _ _ hf 499 (by omega)]
      simp
    · rw [decide_eq_false c, Bool.not_false, if_pos rfl]

end Go.Proofs.Ytmbfdmceameghaa.packetTells.Pure
