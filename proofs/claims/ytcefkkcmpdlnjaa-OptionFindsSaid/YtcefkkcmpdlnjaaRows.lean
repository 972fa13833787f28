/-
  No cell of these rows narrows 'for every input' (looked for: loops, veiled, ifaces, maps, wideKeys, modest, calm, conditions, laid).
  DERIVED. THE GIVEN ROWS OF THIS SEAT. 4 by the template 'for every input the law returns true; each argument reads behind the call as it read before'; 0 by the template 'total and deterministic' (their statements: YtcefkkcmpdlnjaaTotals.lean).
  GIVEN WITH THE SEED: the statements are not yours to turn. If you find one false, say at which input.
  Laid BY PROGRAM, IN A SANDBOX (cutbox-rows.mjs): the forced cells as the released guide's own fill.sh prints them over the translation 4656f740f2ebd06c… (all of the seat's roots in one cut). By AI agents, Wed Nov 11 2026. No macro, syntax, notation, axiom, sorry.
-/
import Derived.Test.YtcefkkcmpdlnjaaChecked
import GoSem.Claim
import GoSem.ClaimJoined
import GoSem.ClaimMapViews
import Derived.JoinedTies
import Derived.KernelRfl
namespace Go.Proofs.Ytcefkkcmpdlnjaa
/- THE CELL 'sum', in the pinned program and in every row, IS THE sha256 OF THE DUMP (.gsa) THAT YtcefkkcmpdlnjaaProg.lean LOADS. Nothing in Lean hashes anything: it is a label: what it is worth is what the hold of that sum in a sandbox is worth. -/
noncomputable def Try.pinned : Pinned := { name := "ytcefkkcmpdlnjaa", sum := "4656f740f2ebd06c7f3446acf1ba2160b57bb1f78b2fccbe78ed1b3a0d441a46", checked := Try.checked }
namespace Rows
def none {H : Type} : Left H := { results := [], args := [] }

/-- 'lessorlaw02.OptionEncodes': WHATEVER THE INPUT: true; the input reads as it did. -/
def optionEncodesSpec : ChangeSpec := { name := "optionEncodes", fn := fun _ => fun
  | [d] => { results := [.lit (.bool true)], args := [d] }
  | _ => none }
def optionEncodesRow : OpenClaim := { program := "ytcefkkcmpdlnjaa", sum := "4656f740f2ebd06c7f3446acf1ba2160b57bb1f78b2fccbe78ed1b3a0d441a46", func := "lessor/lessorlaw02.OptionEncodes", spec := "optionEncodes", unfollowed := true, recurses := true, apart := false }
def OptionEncodesSaid : Prop := optionEncodesRow.holds Try.pinned (OpenSpec.ofChange optionEncodesSpec)

/-- ITS FALSE NEIGHBOUR: 'it returns false'. Refute it at one input. -/
def optionEncodesWrong : ChangeSpec := { name := "optionEncodes", fn := fun _ => fun
  | [d] => { results := [.lit (.bool false)], args := [d] }
  | _ => none }
def OptionEncodesWrongFalsely : Prop := optionEncodesRow.holds Try.pinned (OpenSpec.ofChange optionEncodesWrong)

/-- 'lessorlaw02.OptionNumbers': WHATEVER THE INPUT: true; the input reads as it did. -/
def optionNumbersSpec : ChangeSpec := { name := "optionNumbers", fn := fun _ => fun
  | [d1, d2, d3] => { results := [.lit (.bool true)], args := [d1, d2, d3] }
  | _ => none }
def optionNumbersRow : OpenClaim := { program := "ytcefkkcmpdlnjaa", sum := "4656f740f2ebd06c7f3446acf1ba2160b57bb1f78b2fccbe78ed1b3a0d441a46", func := "lessor/lessorlaw02.OptionNumbers", spec := "optionNumbers", unfollowed := true, recurses := true, apart := false }
def OptionNumbersSaid : Prop := optionNumbersRow.holds Try.pinned (OpenSpec.ofChange optionNumbersSpec)

/-- ITS FALSE NEIGHBOUR: 'it returns false'. Refute it at one input. -/
def optionNumbersWrong : ChangeSpec := { name := "optionNumbers", fn := fun _ => fun
  | [d1, d2, d3] => { results := [.lit (.bool false)], args := [d1, d2, d3] }
  | _ => none }
def OptionNumbersWrongFalsely : Prop := optionNumbersRow.holds Try.pinned (OpenSpec.ofChange optionNumbersWrong)

/-- 'lessorlaw02.OptionPuts': WHATEVER THE INPUT: true; the input reads as it did. -/
def optionPutsSpec : ChangeSpec := { name := "optionPuts", fn := fun _ => fun
  | [d1, d2, d3] => { results := [.lit (.bool true)], args := [d1, d2, d3] }
  | _ => none }
def optionPutsRow : OpenClaim := { program := "ytcefkkcmpdlnjaa", sum := "4656f740f2ebd06c7f3446acf1ba2160b57bb1f78b2fccbe78ed1b3a0d441a46", func := "lessor/lessorlaw02.OptionPuts", spec := "optionPuts", unfollowed := true, recurses := true, apart := false }
def OptionPutsSaid : Prop := optionPutsRow.holds Try.pinned (OpenSpec.ofChange optionPutsSpec)

/-- ITS FALSE NEIGHBOUR: 'it returns false'. Refute it at one input. -/
def optionPutsWrong : ChangeSpec := { name := "optionPuts", fn := fun _ => fun
  | [d1, d2, d3] => { results := [.lit (.bool false)], args := [d1, d2, d3] }
  | _ => none }
def OptionPutsWrongFalsely : Prop := optionPutsRow.holds Try.pinned (OpenSpec.ofChange optionPutsWrong)

/-- 'lessorlaw02.OptionFinds': WHATEVER THE INPUT: true; the input reads as it did. -/
def optionFindsSpec : ChangeSpec := { name := "optionFinds", fn := fun _ => fun
  | [d1, d2, d3] => { results := [.lit (.bool true)], args := [d1, d2, d3] }
  | _ => none }
def optionFindsRow : OpenClaim := { program := "ytcefkkcmpdlnjaa", sum := "4656f740f2ebd06c7f3446acf1ba2160b57bb1f78b2fccbe78ed1b3a0d441a46", func := "lessor/lessorlaw02.OptionFinds", spec := "optionFinds", unfollowed := true, recurses := true, apart := false }
def OptionFindsSaid : Prop := optionFindsRow.holds Try.pinned (OpenSpec.ofChange optionFindsSpec)

/-- ITS FALSE NEIGHBOUR: 'it returns false'. Refute it at one input. -/
def optionFindsWrong : ChangeSpec := { name := "optionFinds", fn := fun _ => fun
  | [d1, d2, d3] => { results := [.lit (.bool false)], args := [d1, d2, d3] }
  | _ => none }
def OptionFindsWrongFalsely : Prop := optionFindsRow.holds Try.pinned (OpenSpec.ofChange optionFindsWrong)

/- THE SECOND FORM. 'bulk': how many values and letters a reading holds, each counted each time it is reached (what is shared counts as often as it is met; a slice's spare places count too). A statement '..UptoSaid' is the law's where the arguments, and the package variables that the reading takes, are together of bulk at most 1048576: NARROWER than '..Said'. Prove '..Said' where nothing that the law and all that it calls make is longer than what came in: it says more and counts as full. Else prove '..UptoSaid'. A law counts once. -/
mutual
def uptoBulk {H : Type} : DataW H → Nat
  | .lit (.string bytes) => bytes.length + 1
  | .lit _ => 1
  | .nil => 1
  | .ptr d => uptoBulk d + 1
  | .slice elems spare => uptoBulkAll elems + uptoBulkAll spare + 1
  | .agg parts => uptoBulkAll parts + 1
  | .iface _ d => uptoBulk d + 1
  | .map entries => uptoBulkEntries entries + 1
  | .held _ => 1
def uptoBulkAll {H : Type} : List (DataW H) → Nat
  | [] => 0
  | d :: r => uptoBulk d + uptoBulkAll r
def uptoBulkEntries {H : Type} : List (Lit × DataW H) → Nat
  | [] => 0
  | x :: r => uptoBulkEntry x + uptoBulkEntries r
def uptoBulkEntry {H : Type} : Lit × DataW H → Nat
  | (.string bytes, d) => bytes.length + uptoBulk d + 1
  | (_, d) => uptoBulk d + 1
 end
def uptoSmall : (H : Type) → List (DataW H) → Bool := fun _ ds => decide (uptoBulkAll ds ≤ 1048576)
def OpenSpec.upto (s : _root_.Go.ChangeSpec) : _root_.Go.OpenSpec := { _root_.Go.OpenSpec.ofChange s with cond := some uptoSmall }

/-- 'lessorlaw02.OptionEncodes', WHERE WHAT IT READS IS OF BULK AT MOST 1048576: true; the input reads as it did. -/
def optionEncodesUptoRow : OpenClaim := { program := "ytcefkkcmpdlnjaa", sum := "4656f740f2ebd06c7f3446acf1ba2160b57bb1f78b2fccbe78ed1b3a0d441a46", func := "lessor/lessorlaw02.OptionEncodes", spec := "optionEncodes", unfollowed := true, recurses := true, apart := false, narrowed := true }
def OptionEncodesUptoSaid : Prop := optionEncodesUptoRow.holds Try.pinned (OpenSpec.upto optionEncodesSpec)

/-- 'lessorlaw02.OptionNumbers', WHERE WHAT IT READS IS OF BULK AT MOST 1048576: true; the input reads as it did. -/
def optionNumbersUptoRow : OpenClaim := { program := "ytcefkkcmpdlnjaa", sum := "4656f740f2ebd06c7f3446acf1ba2160b57bb1f78b2fccbe78ed1b3a0d441a46", func := "lessor/lessorlaw02.OptionNumbers", spec := "optionNumbers", unfollowed := true, recurses := true, apart := false, narrowed := true }
def OptionNumbersUptoSaid : Prop := optionNumbersUptoRow.holds Try.pinned (OpenSpec.upto optionNumbersSpec)

/-- 'lessorlaw02.OptionPuts', WHERE WHAT IT READS IS OF BULK AT MOST 1048576: true; the input reads as it did. -/
def optionPutsUptoRow : OpenClaim := { program := "ytcefkkcmpdlnjaa", sum := "4656f740f2ebd06c7f3446acf1ba2160b57bb1f78b2fccbe78ed1b3a0d441a46", func := "lessor/lessorlaw02.OptionPuts", spec := "optionPuts", unfollowed := true, recurses := true, apart := false, narrowed := true }
def OptionPutsUptoSaid : Prop := optionPutsUptoRow.holds Try.pinned (OpenSpec.upto optionPutsSpec)

/-- 'lessorlaw02.OptionFinds', WHERE WHAT IT READS IS OF BULK AT MOST 1048576: true; the input reads as it did. -/
def optionFindsUptoRow : OpenClaim := { program := "ytcefkkcmpdlnjaa", sum := "4656f740f2ebd06c7f3446acf1ba2160b57bb1f78b2fccbe78ed1b3a0d441a46", func := "lessor/lessorlaw02.OptionFinds", spec := "optionFinds", unfollowed := true, recurses := true, apart := false, narrowed := true }
def OptionFindsUptoSaid : Prop := optionFindsUptoRow.holds Try.pinned (OpenSpec.upto optionFindsSpec)

end Rows
end Go.Proofs.Ytcefkkcmpdlnjaa
