/-
  What the proofs on a put of options share: rows of options of the call's own, and what a put makes of them. No condition.
-/
import Derived.Test.YtmbfdmceameghaaHFind
import Derived.Test.YtmbfdmceameghaaWNEv
namespace Go.Proofs.Ytmbfdmceameghaa
open Go.RowKit Go.Proofs.Ytmbfdmceameghaa.Pr Go.Proofs.YtmbfdmceameghaaW.PrintWords Go.Proofs.YtmbfdmceameghaaW.PrintLast Go.Proofs.YtmbfdmceameghaaW.PrintMore
set_option linter.unusedVariables false
set_option linter.unusedSimpArgs false

theorem o_below_grown {w W W1 : World} {row : Option Nat} (hb : Below w.heap.size w W) (hg : W.grownBy W1 row) (h : ∀ k, row = some k → w.heap.size ≤ k) : Below w.heap.size w W1 :=
  hb.trans ⟨hg.os, hg.tape, hg.output, hg.size, fun k hk => hg.block k (Nat.lt_of_lt_of_le hk hb.size) (fun e => by have := h k e.symm; omega)⟩
theorem oinfo : (Try.prog.info? 42).map (fun i => (i.zero, i.size, i.bytes)) = some (some (.agg #[.int .i64 0, .slice none 0 0]), 2, 32) := by kernel_rfl
theorem opt_heap : Kd.Heap k42 := Kd.heap_iso _ (Kd.heap_pair (Kd.heap_int .i64) (Kd.heap_slice 5 (Kd.heap_int .u8)))
/-- A row of options of the call's own; their data is only read. -/
abbrev ON (w : World) (base : Nat) (ok : Nat → Prop) (v : Value) (l : List OptF) : Prop := Kd.N k42 42 w base ok v l

/-- A box of an option. -/
abbrev Boxed2 (W : World) (b : Nat) (n : Int) (v : Value) : Prop := W.heap[b]? = some (.cells #[.int .i64 n, v] 42 (0, 0))
/-! ### what a put makes -/
def opPut (l : List OptF) (code : Int) (data : List Int) : List OptF :=
  if 0 ≤ ixOf (fun x => x.f0 == code) l then l.take (ixOf (fun x => x.f0 == code) l).toNat ++ [⟨code, data⟩] ++ (l.drop ((ixOf (fun x => x.f0 == code) l).toNat + 1)).filter (fun x => !(x.f0 == code)) else l ++ [⟨code, data⟩]

end Go.Proofs.Ytmbfdmceameghaa
