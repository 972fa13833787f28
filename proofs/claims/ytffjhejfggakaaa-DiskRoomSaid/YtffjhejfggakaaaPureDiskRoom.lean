/- The statement DiskRoom over numbers and lists: what the walk returned is true at every argument. No condition. -/
import Derived.Test.YtffjhejfggakaaaStDiskRoom
namespace Go.Proofs.Ytffjhejfggakaaa.diskRoom.Pure
open Go.RowKit Go.Proofs.Ytffjhejfggakaaa Go.Proofs.Ytffjhejfggakaaa.Pr Go.Proofs.YtffjhejfggakaaaW.PrintWords
theorem i64_le {x : Int} (h : (Lit.int .i64 x).wf = true) : -9223372036854775808 ≤ x ∧ x ≤ 9223372036854775807 := by
  simpa [Lit.wf, IntKind.min, IntKind.max, IntKind.signed, IntKind.bits] using h
theorem u8_le {x : Int} (h : (Lit.int .u8 x).wf = true) : 0 ≤ x ∧ x ≤ 255 := by
  simpa [Lit.wf, IntKind.min, IntKind.max, IntKind.signed, IntKind.bits] using h
theorem st_ok {x : StE} (h : PS40 x) : stOk x := ⟨(i64_le h.2.1).2, fun y hy => u8_le (h.2.2.2 y hy)⟩
theorem DiskRoom : diskRoom.Pure := by
  intro a l _ hl hs
  unfold lessorlaw08_DiskRoom.f
  rw [if_pos ⟨hl, fun x hx => st_ok (hs x hx)⟩]
end Go.Proofs.Ytffjhejfggakaaa.diskRoom.Pure
