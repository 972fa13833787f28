/- The statement WalRefuses over numbers and lists: what the walk returned is true at every argument. No condition. -/
import Derived.Test.YtfndajgmjkimgaaStWalRefuses
namespace Go.Proofs.Ytfndajgmjkimgaa.walRefuses.Pure
open Go.RowKit Go.Proofs.Ytfndajgmjkimgaa Go.Proofs.Ytfndajgmjkimgaa.Pr Go.Proofs.YtfndajgmjkimgaaW.PrintWords
theorem i64_le {x : Int} (h : (Lit.int .i64 x).wf = true) : -9223372036854775808 ≤ x ∧ x ≤ 9223372036854775807 := by
  simpa [Lit.wf, IntKind.min, IntKind.max, IntKind.signed, IntKind.bits] using h
theorem u8_le {x : Int} (h : (Lit.int .u8 x).wf = true) : 0 ≤ x ∧ x ≤ 255 := by
  simpa [Lit.wf, IntKind.min, IntKind.max, IntKind.signed, IntKind.bits] using h
theorem ws_ok {x : WsE} (h : PS55 x) : wsOk x := ⟨(i64_le h.2.1).2, fun y hy => u8_le (h.2.2.1.2 y hy), fun z hz y hy => u8_le ((h.2.2.2.2 z hz).2 y hy)⟩
theorem WalRefuses : walRefuses.Pure := by
  intro a l b _ hl hs hb hbs
  unfold lessorlaw10_WalRefuses.f
  rw [if_pos ⟨hl, fun x hx => ws_ok (hs x hx), fun y hy => u8_le (hbs y hy)⟩]
end Go.Proofs.Ytfndajgmjkimgaa.walRefuses.Pure
