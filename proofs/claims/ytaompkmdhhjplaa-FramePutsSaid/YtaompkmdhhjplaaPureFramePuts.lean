/- The statement FramePuts over numbers and lists: a record's frame is the reference's, and both refuse the same ones. No condition. -/
import Derived.Test.YtaompkmdhhjplaaPrF3
namespace Go.Proofs.Ytaompkmdhhjplaa.Pure
open Go.RowKit Go.Proofs.Ytaompkmdhhjplaa Go.Proofs.Ytaompkmdhhjplaa.Pr Go.Proofs.YtaompkmdhhjplaaW.PrintWords Go.Proofs.YtaompkmdhhjplaaW.PrintLast
set_option linter.unusedVariables false
set_option linter.unusedSimpArgs false

theorem awakeP : lessorlaw09_awake.f = some true := by decide +kernel

theorem wrap_small {x : Int} (h0 : 0 ≤ x) (h1 : x < 9223372036854775808) : wrap64 x = x := by unfold wrap64; omega

theorem put_eqP (l : List Int) : lessorref09_Put.f l = frame_Put.f l := by
  unfold lessorref09_Put.f frame_Put.f
  split
  · rfl
  · split
    · rfl
    · rename_i h1 h2
      rw [wrap_small (by omega) (by omega)]
theorem put_someP (l : List Int) : ∃ r, frame_Put.f l = some r := by
  unfold frame_Put.f
  split
  · exact ⟨_, rfl⟩
  · split
    · exact ⟨_, rfl⟩
    · rename_i h1 h2
      simp only [Option.bind_some]
      rw [if_pos (by simp; omega), if_pos (by simp; omega)]
      exact ⟨_, rfl⟩

theorem FramePuts : lessorlaw09_FramePuts.Pure := by
  intro l _ _ _
  refine ⟨1, ?_⟩
  unfold lessorlaw09_FramePuts.f
  rw [awakeP]
  simp only [Option.bind_some, if_true, lessorlaw09_FramePuts.j0]
  split
  · rfl
  · obtain ⟨r, hr⟩ := put_someP l
    rw [put_eqP, hr]
    simp

end Go.Proofs.Ytaompkmdhhjplaa.Pure
