/-
  No cell of these rows narrows 'for every input' (looked for: loops, veiled, ifaces, maps, wideKeys, modest, calm, conditions, laid).
  DERIVED. THE GIVEN ROWS OF THIS SEAT. 3 by the template 'for every input the law returns true; each argument reads behind the call as it read before'; 0 by the template 'total and deterministic' (their statements: YtmbfdmceameghaaTotals.lean).
  GIVEN WITH THE SEED: the statements are not yours to turn. If you find one false, say at which input.
  Laid BY PROGRAM, IN A SANDBOX (cutbox-rows.mjs): the forced cells as the released guide's own fill.sh prints them over the translation 3ddbf90254f7ceaa… (all of the seat's roots in one cut). By AI agents, Wed Nov 11 2026. No macro, syntax, notation, axiom, sorry.
-/
import Derived.Test.YtmbfdmceameghaaChecked
import GoSem.Claim
import GoSem.ClaimJoined
import GoSem.ClaimMapViews
import Derived.JoinedTies
import Derived.KernelRfl
namespace Go.Proofs.Ytmbfdmceameghaa
/- THE CELL 'sum', in the pinned program and in every row, IS THE sha256 OF THE DUMP (.gsa) THAT YtmbfdmceameghaaProg.lean LOADS. Nothing in Lean hashes anything: it is a label: what it is worth is what the hold of that sum in a sandbox is worth. -/
noncomputable def Try.pinned : Pinned := { name := "ytmbfdmceameghaa", sum := "3ddbf90254f7ceaa3bb25044225c0c0a9f22bcab95218de1739bcd552c8966ad", checked := Try.checked }
namespace Rows
def none {H : Type} : Left H := { results := [], args := [] }

/-- 'lessorlaw03.PacketEncodes': WHATEVER THE INPUT: true; the input reads as it did. -/
def packetEncodesSpec : ChangeSpec := { name := "packetEncodes", fn := fun _ => fun
  | [d] => { results := [.lit (.bool true)], args := [d] }
  | _ => none }
def packetEncodesRow : OpenClaim := { program := "ytmbfdmceameghaa", sum := "3ddbf90254f7ceaa3bb25044225c0c0a9f22bcab95218de1739bcd552c8966ad", func := "lessor/lessorlaw03.PacketEncodes", spec := "packetEncodes", unfollowed := true, recurses := true, apart := false }
def PacketEncodesSaid : Prop := packetEncodesRow.holds Try.pinned (OpenSpec.ofChange packetEncodesSpec)

/-- ITS FALSE NEIGHBOUR: 'it returns false'. Refute it at one input. -/
def packetEncodesWrong : ChangeSpec := { name := "packetEncodes", fn := fun _ => fun
  | [d] => { results := [.lit (.bool false)], args := [d] }
  | _ => none }
def PacketEncodesWrongFalsely : Prop := packetEncodesRow.holds Try.pinned (OpenSpec.ofChange packetEncodesWrong)

/-- 'lessorlaw03.PacketTells': WHATEVER THE INPUT: true; the input reads as it did. -/
def packetTellsSpec : ChangeSpec := { name := "packetTells", fn := fun _ => fun
  | [d] => { results := [.lit (.bool true)], args := [d] }
  | _ => none }
def packetTellsRow : OpenClaim := { program := "ytmbfdmceameghaa", sum := "3ddbf90254f7ceaa3bb25044225c0c0a9f22bcab95218de1739bcd552c8966ad", func := "lessor/lessorlaw03.PacketTells", spec := "packetTells", unfollowed := true, recurses := true, apart := false }
def PacketTellsSaid : Prop := packetTellsRow.holds Try.pinned (OpenSpec.ofChange packetTellsSpec)

/-- ITS FALSE NEIGHBOUR: 'it returns false'. Refute it at one input. -/
def packetTellsWrong : ChangeSpec := { name := "packetTells", fn := fun _ => fun
  | [d] => { results := [.lit (.bool false)], args := [d] }
  | _ => none }
def PacketTellsWrongFalsely : Prop := packetTellsRow.holds Try.pinned (OpenSpec.ofChange packetTellsWrong)

/-- 'lessorlaw03.PacketAsks': WHATEVER THE INPUT: true; the input reads as it did. -/
def packetAsksSpec : ChangeSpec := { name := "packetAsks", fn := fun _ => fun
  | [d1, d2, d3] => { results := [.lit (.bool true)], args := [d1, d2, d3] }
  | _ => none }
def packetAsksRow : OpenClaim := { program := "ytmbfdmceameghaa", sum := "3ddbf90254f7ceaa3bb25044225c0c0a9f22bcab95218de1739bcd552c8966ad", func := "lessor/lessorlaw03.PacketAsks", spec := "packetAsks", unfollowed := true, recurses := true, apart := false }
def PacketAsksSaid : Prop := packetAsksRow.holds Try.pinned (OpenSpec.ofChange packetAsksSpec)

/-- ITS FALSE NEIGHBOUR: 'it returns false'. Refute it at one input. -/
def packetAsksWrong : ChangeSpec := { name := "packetAsks", fn := fun _ => fun
  | [d1, d2, d3] => { results := [.lit (.bool false)], args := [d1, d2, d3] }
  | _ => none }
def PacketAsksWrongFalsely : Prop := packetAsksRow.holds Try.pinned (OpenSpec.ofChange packetAsksWrong)

/- THE SECOND FORM. 'bulk': how many values and letters a reading holds, each counted each time it is reached (what is shared counts as often as it is met; a slice's spare places count too). A statement '..UptoSaid' is the law's where the arguments, and the package variables that the reading takes, are together of bulk at most 1048576: NARROWER than '..Said'. Prove '..Said' where nothing that the law and all that it calls make is longer than what came in: it says more and counts as full. Else prove '..UptoSaid'. A law counts once. -/
mutual
def uptoBulk {H : Type} : DataW H → Nat
  | .lit (.string bytes) => bytes.length + 1
  | .lit _ => 1
  | .nil => 1
  | .ptr d => uptoBulk d + 1
  | .slice elems spare => uptoBulkAll elems + uptoBulkAll spare + 1
  | .agg parts => uptoBulkAll parts + 1
  | .iface _ d => uptoBulk d + 1
  | .map entries => uptoBulkEntries entries + 1
  | .held _ => 1
def uptoBulkAll {H : Type} : List (DataW H) → Nat
  | [] => 0
  | d :: r => uptoBulk d + uptoBulkAll r
def uptoBulkEntries {H : Type} : List (Lit × DataW H) → Nat
  | [] => 0
  | x :: r => uptoBulkEntry x + uptoBulkEntries r
def uptoBulkEntry {H : Type} : Lit × DataW H → Nat
  | (.string bytes, d) => bytes.length + uptoBulk d + 1
  | (_, d) => uptoBulk d + 1
 end
def uptoSmall : (H : Type) → List (DataW H) → Bool := fun _ ds => decide (uptoBulkAll ds ≤ 1048576)
def OpenSpec.upto (s : _root_.Go.ChangeSpec) : _root_.Go.OpenSpec := { _root_.Go.OpenSpec.ofChange s with cond := some uptoSmall }

/-- 'lessorlaw03.PacketEncodes', WHERE WHAT IT READS IS OF BULK AT MOST 1048576: true; the input reads as it did. -/
def packetEncodesUptoRow : OpenClaim := { program := "ytmbfdmceameghaa", sum := "3ddbf90254f7ceaa3bb25044225c0c0a9f22bcab95218de1739bcd552c8966ad", func := "lessor/lessorlaw03.PacketEncodes", spec := "packetEncodes", unfollowed := true, recurses := true, apart := false, narrowed := true }
def PacketEncodesUptoSaid : Prop := packetEncodesUptoRow.holds Try.pinned (OpenSpec.upto packetEncodesSpec)

/-- 'lessorlaw03.PacketTells', WHERE WHAT IT READS IS OF BULK AT MOST 1048576: true; the input reads as it did. -/
def packetTellsUptoRow : OpenClaim := { program := "ytmbfdmceameghaa", sum := "3ddbf90254f7ceaa3bb25044225c0c0a9f22bcab95218de1739bcd552c8966ad", func := "lessor/lessorlaw03.PacketTells", spec := "packetTells", unfollowed := true, recurses := true, apart := false, narrowed := true }
def PacketTellsUptoSaid : Prop := packetTellsUptoRow.holds Try.pinned (OpenSpec.upto packetTellsSpec)

/-- 'lessorlaw03.PacketAsks', WHERE WHAT IT READS IS OF BULK AT MOST 1048576: true; the input reads as it did. -/
def packetAsksUptoRow : OpenClaim := { program := "ytmbfdmceameghaa", sum := "3ddbf90254f7ceaa3bb25044225c0c0a9f22bcab95218de1739bcd552c8966ad", func := "lessor/lessorlaw03.PacketAsks", spec := "packetAsks", unfollowed := true, recurses := true, apart := false, narrowed := true }
def PacketAsksUptoSaid : Prop := packetAsksUptoRow.holds Try.pinned (OpenSpec.upto packetAsksSpec)

end Rows
end Go.Proofs.Ytmbfdmceameghaa
