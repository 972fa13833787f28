/- The statement PacketAsks over numbers and lists: what the walk returned is true at every argument. No condition. -/
import Derived.Test.YtmbfdmceameghaaStPacketAsks
namespace Go.Proofs.Ytmbfdmceameghaa.packetAsks.Pure
open Go.RowKit Go.Proofs.Ytmbfdmceameghaa Go.Proofs.Ytmbfdmceameghaa.Pr Go.Proofs.YtmbfdmceameghaaW.PrintWords
theorem u8_wf {x : Int} (h : (Lit.int .u8 x).wf = true) : 0 ≤ x ∧ x ≤ 255 := by
  simpa [Lit.wf, IntKind.min, IntKind.max, IntKind.signed, IntKind.bits] using h
theorem i64_wf {x : Int} (h : (Lit.int .i64 x).wf = true) : -9223372036854775808 ≤ x ∧ x ≤ 9223372036854775807 := by
  simpa [Lit.wf, IntKind.min, IntKind.max, IntKind.signed, IntKind.bits] using h
theorem PacketAsks : packetAsks.Pure := by
  intro p x0 x1 x2 name hp h0 h1 h2 _ hn
  obtain ⟨_, _, _, _, _, _, _, _, _, h9⟩ := hp
  unfold lessorlaw03_PacketAsks.f
  exact if_pos ⟨⟨(i64_wf h0).2, (i64_wf h1).2, (i64_wf h2).2⟩, fun x hx y hy => u8_wf ((h9.2 x hx).2.2 y hy), fun y hy => u8_wf (hn y hy)⟩
end Go.Proofs.Ytmbfdmceameghaa.packetAsks.Pure
