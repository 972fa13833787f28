/- The statement DiskFails over numbers and lists: what the walk returned is true at every argument. No condition. -/
import Derived.Test.YtffjhejfggakaaaStDiskFails
namespace Go.Proofs.Ytffjhejfggakaaa.diskFails.Pure
open Go.RowKit Go.Proofs.Ytffjhejfggakaaa Go.Proofs.Ytffjhejfggakaaa.Pr Go.Proofs.YtffjhejfggakaaaW.PrintWords
theorem i64_le {x : Int} (h : (Lit.int .i64 x).wf = true) : -9223372036854775808 ≤ x ∧ x ≤ 9223372036854775807 := by
  simpa [Lit.wf, IntKind.min, IntKind.max, IntKind.signed, IntKind.bits] using h
theorem DiskFails : diskFails.Pure := by
  intro a m ha hm
  unfold lessorlaw08_DiskFails.f
  rw [if_pos ⟨i64_le ha, i64_le hm⟩]
end Go.Proofs.Ytffjhejfggakaaa.diskFails.Pure
