/-
  relay.Decode in the print's form.
-/
import Derived.Test.YtnkajghemggaaaaHRead
namespace Go.Proofs.Ytnkajghemggaaaa
open Go.RowKit Go.Proofs.Ytnkajghemggaaaa.Pr Go.Proofs.YtnkajghemggaaaaW.PrintWords Go.Proofs.YtnkajghemggaaaaW.PrintLast Go.Proofs.YtnkajghemggaaaaW.PrintMore
attribute [local go_sem] max2_int min2_int max_two min_two max_three min_three max_four min_four
set_option linter.unusedVariables false
set_option linter.unusedSimpArgs false

/-- What Decode hands back. -/
def rlDec (l : List Int) : List OptR × Int := if (rdRes l).2 = true ∧ l.length ≤ 255 then ((rdRes l).1, 0) else ([], 2)
def relay_Decode.f (l0 : List Int) : Option (List OptR × Int) := if (∀ x ∈ l0, 0 ≤ x ∧ x ≤ 255) ∧ l0.length < 1099511627776 then some (rlDec l0) else none
set_option maxHeartbeats 2000000 in
set_option maxRecDepth 100000 in
theorem relay_Decode.calls (A0 : Option Addr) (c0 : Nat) (l0 : List Int) (r1 : List OptR) (r2 : Int) (w : World) (hr0 : Kd.C (Kd.int .u8) w A0 l0.length l0) (hc0 : l0.length ≤ c0) (h : relay_Decode.f l0 = some (r1, r2)) :
    Calls Try.prog 15 #[.slice A0 l0.length c0] w fun e w' => ∃ v0_ : Value, e = .returned (.tuple #[v0_, .int .i64 r2]) ∧ Kd.S k48 48 w' w.heap.size (fun _ => True) v0_ r1 ∧ Below w.heap.size w w' := by
  unfold relay_Decode.f at h
  split at h
  case isFalse => cases h
  rename_i hcond
  have HR := read_calls A0 c0 l0 w hr0 hc0 hcond.1 hcond.2
  have HD : Hid (rlDec l0 = (r1, r2)) := Option.some.inj h
  clear h hr0 hcond
  obtain ⟨ls, b, hls⟩ : ∃ ls b, rdRes l0 = (ls, b) := ⟨_, _, rfl⟩
  unfold rlDec at HD
  rw [hls] at HR HD
  have HRR := Lib.hid HR
  clear hls HR
  cases b with
  | false =>
    obtain ⟨rfl, rfl⟩ := Prod.mk.inj (show (([] : List OptR), (2 : Int)) = (r1, r2) by have := HD.out; simpa using this)
    go_enter Try.func15, Try.ntmps15
    go_wp2_with fail
    refine HRR.out.mono ?_
    rintro e w' ⟨v, rfl, hs, hb⟩
    have HB := Lib.hid hb
    clear hs hb
    go_wp2_with fail
    go_ret2
    exact ⟨_, rfl, Kd.S_nil _ _ _ _ _, HB.out⟩
  | true =>
    by_cases hl : l0.length ≤ 255
    · obtain ⟨rfl, rfl⟩ := Prod.mk.inj (show (ls, (0 : Int)) = (r1, r2) by have := HD.out; simpa [hl] using this)
      have p1 : ((l0.length : Int) > 255) = False := eq_false (by omega)
      have p2 : ((255 : Int) < (l0.length : Int)) = False := eq_false (by omega)
      have p3 : (255 < l0.length) = False := eq_false (by omega)
      go_enter Try.func15, Try.ntmps15
      go_wp2_with fail
      refine HRR.out.mono ?_
      rintro e w' ⟨v, rfl, hs, hb⟩
      have HB := Lib.hid hb
      have HS := Lib.hid hs
      clear hs hb
      go_wp2_with fail
      go_ret2
      exact ⟨_, rfl, HS.out, HB.out⟩
    · obtain ⟨rfl, rfl⟩ := Prod.mk.inj (show (([] : List OptR), (2 : Int)) = (r1, r2) by have := HD.out; simpa [hl] using this)
      have p1 : ((l0.length : Int) > 255) = True := eq_true (by omega)
      have p2 : ((255 : Int) < (l0.length : Int)) = True := eq_true (by omega)
      have p3 : (255 < l0.length) = True := eq_true (by omega)
      go_enter Try.func15, Try.ntmps15
      go_wp2_with fail
      refine HRR.out.mono ?_
      rintro e w' ⟨v, rfl, hs, hb⟩
      have HB := Lib.hid hb
      clear hs hb
      go_wp2_with fail
      go_ret2
      exact ⟨_, rfl, Kd.S_nil _ _ _ _ _, HB.out⟩
end Go.Proofs.Ytnkajghemggaaaa
