/-
  route.bytes: the four bytes of an address.
-/
import Derived.Lib.Hide
import Derived.Test.YteniakelhalojaaPn0
namespace Go.Proofs.Yteniakelhalojaa
open Go.RowKit Go.Proofs.Yteniakelhalojaa.Pn Go.Proofs.YteniakelhalojaaW.PrintWords Go.Proofs.YteniakelhalojaaW.PrintLast Go.Proofs.YteniakelhalojaaW.PrintMore
set_option linter.unusedVariables false
set_option linter.unusedSimpArgs false

def rtB (a : Int) (j : Nat) : Int := a / 256 ^ (3 - j) % 256
set_option maxHeartbeats 1000000 in
theorem bytes_calls (a : Int) (w : World) (h0 : 0 ≤ a) (h1 : a < 4294967296) :
    Calls Try.prog 23 #[.int .u32 a] w fun e w' => e = .returned (.agg #[.int .u8 (rtB a 0), .int .u8 (rtB a 1), .int .u8 (rtB a 2), .int .u8 (rtB a 3)]) ∧ Below w.heap.size w w' := by
  go_enter Try.func23, Try.ntmps23
  go_wp2
  refine bodyPost_ret (v := .agg #[.int .u8 (rtB a 0), .int .u8 (rtB a 1), .int .u8 (rtB a 2), .int .u8 (rtB a 3)]) ?_ rfl ⟨rfl, below_alloc (Below.refl _ _) _⟩
  have e0 : rtB a 0 = a / 16777216 := by unfold rtB; simp; omega
  have e1 : rtB a 1 = a / 65536 % 256 := by unfold rtB; simp
  have e2 : rtB a 2 = a / 256 % 256 := by unfold rtB; simp
  have e3 : rtB a 3 = a % 256 := by unfold rtB; simp
  rw [e0, e1, e2, e3]
  simp [results, Try.results23, go_sem]
end Go.Proofs.Yteniakelhalojaa
