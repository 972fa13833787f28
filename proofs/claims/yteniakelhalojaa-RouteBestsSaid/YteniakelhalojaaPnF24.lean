-- written by a program of this session (wip/tools/gen.py) over the kit's print
import Derived.Test.YteniakelhalojaaPn0
namespace Go.Proofs.Yteniakelhalojaa.Pn
open Go.RowKit Go.Proofs.YteniakelhalojaaW.PrintWords Go.Proofs.YteniakelhalojaaW.PrintLast Go.Proofs.YteniakelhalojaaW.PrintMore
attribute [local go_sem] max2_int min2_int max_two min_two max_three min_three max_four min_four   -- for this text's walks alone
set_option linter.unusedVariables false
set_option linter.unusedSimpArgs false

/-! ### route_octets: function 24 -/
def route_octets.f (a0 : Int) : Option (Int) := some (wrap64 (Int.tdiv (wrap64 (a0 + 7)) 8))
set_option maxHeartbeats 8000000 in
set_option maxRecDepth 100000 in
theorem route_octets.calls (a0 : Int) (r : Int) (w : World) (h : route_octets.f a0 = some r) :
    Calls Try.prog 24 #[.int .i64 a0] w fun e w' => e = .returned (.int .i64 r) ∧ Drawn0 w w' := by
  have H : (some (wrap64 (Int.tdiv (wrap64 (a0 + 7)) 8))) = some r := h
  clear h
  obtain rfl := Option.some.inj H
  go_enter Try.func24, Try.ntmps24
  go_wp2
  go_ret
  exact ⟨by first | rfl | (simp; done) | (simp [*]; done), by repeat (first | exact Drawn0.refl _ | apply Drawn0.step)⟩

end Go.Proofs.Yteniakelhalojaa.Pn
