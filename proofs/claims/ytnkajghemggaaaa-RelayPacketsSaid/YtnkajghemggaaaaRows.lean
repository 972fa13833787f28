/-
  No cell of these rows narrows 'for every input' (looked for: loops, veiled, ifaces, maps, wideKeys, modest, calm, conditions, laid).
  DERIVED. THE GIVEN ROWS OF THIS SEAT. 5 by the template 'for every input the law returns true; each argument reads behind the call as it read before'; 0 by the template 'total and deterministic' (their statements: YtnkajghemggaaaaTotals.lean).
  GIVEN WITH THE SEED: the statements are not yours to turn. If you find one false, say at which input.
  Laid BY PROGRAM, IN A SANDBOX (cutbox-rows.mjs): the forced cells as the released guide's own fill.sh prints them over the translation 04923e11d30a5411… (all of the seat's roots in one cut). By AI agents, Wed Nov 11 2026. No macro, syntax, notation, axiom, sorry.
-/
import Derived.Test.YtnkajghemggaaaaChecked
import GoSem.Claim
import GoSem.ClaimJoined
import GoSem.ClaimMapViews
import Derived.JoinedTies
import Derived.KernelRfl
namespace Go.Proofs.Ytnkajghemggaaaa
/- THE CELL 'sum', in the pinned program and in every row, IS THE sha256 OF THE DUMP (.gsa) THAT YtnkajghemggaaaaProg.lean LOADS. Nothing in Lean hashes anything: it is a label: what it is worth is what the hold of that sum in a sandbox is worth. -/
noncomputable def Try.pinned : Pinned := { name := "ytnkajghemggaaaa", sum := "04923e11d30a54116a8ecf36eb29a15ab2e33c93487a3db650b31e49029d9a8f", checked := Try.checked }
namespace Rows
def none {H : Type} : Left H := { results := [], args := [] }

/-- 'lessorlaw26.RelayNets': WHATEVER THE INPUT: true; the input reads as it did. -/
def relayNetsSpec : ChangeSpec := { name := "relayNets", fn := fun _ => fun
  | [d1, d2] => { results := [.lit (.bool true)], args := [d1, d2] }
  | _ => none }
def relayNetsRow : OpenClaim := { program := "ytnkajghemggaaaa", sum := "04923e11d30a54116a8ecf36eb29a15ab2e33c93487a3db650b31e49029d9a8f", func := "lessor/lessorlaw26.RelayNets", spec := "relayNets", unfollowed := true, recurses := true, apart := false }
def RelayNetsSaid : Prop := relayNetsRow.holds Try.pinned (OpenSpec.ofChange relayNetsSpec)

/-- ITS FALSE NEIGHBOUR: 'it returns false'. Refute it at one input. -/
def relayNetsWrong : ChangeSpec := { name := "relayNets", fn := fun _ => fun
  | [d1, d2] => { results := [.lit (.bool false)], args := [d1, d2] }
  | _ => none }
def RelayNetsWrongFalsely : Prop := relayNetsRow.holds Try.pinned (OpenSpec.ofChange relayNetsWrong)

/-- 'lessorlaw26.RelayTags': WHATEVER THE INPUT: true; the input reads as it did. -/
def relayTagsSpec : ChangeSpec := { name := "relayTags", fn := fun _ => fun
  | [d1, d2] => { results := [.lit (.bool true)], args := [d1, d2] }
  | _ => none }
def relayTagsRow : OpenClaim := { program := "ytnkajghemggaaaa", sum := "04923e11d30a54116a8ecf36eb29a15ab2e33c93487a3db650b31e49029d9a8f", func := "lessor/lessorlaw26.RelayTags", spec := "relayTags", unfollowed := true, recurses := true, apart := false }
def RelayTagsSaid : Prop := relayTagsRow.holds Try.pinned (OpenSpec.ofChange relayTagsSpec)

/-- ITS FALSE NEIGHBOUR: 'it returns false'. Refute it at one input. -/
def relayTagsWrong : ChangeSpec := { name := "relayTags", fn := fun _ => fun
  | [d1, d2] => { results := [.lit (.bool false)], args := [d1, d2] }
  | _ => none }
def RelayTagsWrongFalsely : Prop := relayTagsRow.holds Try.pinned (OpenSpec.ofChange relayTagsWrong)

/-- 'lessorlaw26.RelayDecodes': WHATEVER THE INPUT: true; the input reads as it did. -/
def relayDecodesSpec : ChangeSpec := { name := "relayDecodes", fn := fun _ => fun
  | [d1, d2] => { results := [.lit (.bool true)], args := [d1, d2] }
  | _ => none }
def relayDecodesRow : OpenClaim := { program := "ytnkajghemggaaaa", sum := "04923e11d30a54116a8ecf36eb29a15ab2e33c93487a3db650b31e49029d9a8f", func := "lessor/lessorlaw26.RelayDecodes", spec := "relayDecodes", unfollowed := true, recurses := true, apart := false }
def RelayDecodesSaid : Prop := relayDecodesRow.holds Try.pinned (OpenSpec.ofChange relayDecodesSpec)

/-- ITS FALSE NEIGHBOUR: 'it returns false'. Refute it at one input. -/
def relayDecodesWrong : ChangeSpec := { name := "relayDecodes", fn := fun _ => fun
  | [d1, d2] => { results := [.lit (.bool false)], args := [d1, d2] }
  | _ => none }
def RelayDecodesWrongFalsely : Prop := relayDecodesRow.holds Try.pinned (OpenSpec.ofChange relayDecodesWrong)

/-- 'lessorlaw26.RelayPackets': WHATEVER THE INPUT: true; the input reads as it did. -/
def relayPacketsSpec : ChangeSpec := { name := "relayPackets", fn := fun _ => fun
  | [d1, d2, d3] => { results := [.lit (.bool true)], args := [d1, d2, d3] }
  | _ => none }
def relayPacketsRow : OpenClaim := { program := "ytnkajghemggaaaa", sum := "04923e11d30a54116a8ecf36eb29a15ab2e33c93487a3db650b31e49029d9a8f", func := "lessor/lessorlaw26.RelayPackets", spec := "relayPackets", unfollowed := true, recurses := true, apart := false }
def RelayPacketsSaid : Prop := relayPacketsRow.holds Try.pinned (OpenSpec.ofChange relayPacketsSpec)

/-- ITS FALSE NEIGHBOUR: 'it returns false'. Refute it at one input. -/
def relayPacketsWrong : ChangeSpec := { name := "relayPackets", fn := fun _ => fun
  | [d1, d2, d3] => { results := [.lit (.bool false)], args := [d1, d2, d3] }
  | _ => none }
def RelayPacketsWrongFalsely : Prop := relayPacketsRow.holds Try.pinned (OpenSpec.ofChange relayPacketsWrong)

/-- 'lessorlaw26.RelayBack': WHATEVER THE INPUT: true; the input reads as it did. -/
def relayBackSpec : ChangeSpec := { name := "relayBack", fn := fun _ => fun
  | [d1, d2, d3] => { results := [.lit (.bool true)], args := [d1, d2, d3] }
  | _ => none }
def relayBackRow : OpenClaim := { program := "ytnkajghemggaaaa", sum := "04923e11d30a54116a8ecf36eb29a15ab2e33c93487a3db650b31e49029d9a8f", func := "lessor/lessorlaw26.RelayBack", spec := "relayBack", unfollowed := true, recurses := true, apart := false }
def RelayBackSaid : Prop := relayBackRow.holds Try.pinned (OpenSpec.ofChange relayBackSpec)

/-- ITS FALSE NEIGHBOUR: 'it returns false'. Refute it at one input. -/
def relayBackWrong : ChangeSpec := { name := "relayBack", fn := fun _ => fun
  | [d1, d2, d3] => { results := [.lit (.bool false)], args := [d1, d2, d3] }
  | _ => none }
def RelayBackWrongFalsely : Prop := relayBackRow.holds Try.pinned (OpenSpec.ofChange relayBackWrong)

/- THE SECOND FORM. 'bulk': how many values and letters a reading holds, each counted each time it is reached (what is shared counts as often as it is met; a slice's spare places count too). A statement '..UptoSaid' is the law's where the arguments, and the package variables that the reading takes, are together of bulk at most 1048576: NARROWER than '..Said'. Prove '..Said' where nothing that the law and all that it calls make is longer than what came in: it says more and counts as full. Else prove '..UptoSaid'. A law counts once. -/
mutual
def uptoBulk {H : Type} : DataW H → Nat
  | .lit (.string bytes) => bytes.length + 1
  | .lit _ => 1
  | .nil => 1
  | .ptr d => uptoBulk d + 1
  | .slice elems spare => uptoBulkAll elems + uptoBulkAll spare + 1
  | .agg parts => uptoBulkAll parts + 1
  | .iface _ d => uptoBulk d + 1
  | .map entries => uptoBulkEntries entries + 1
  | .held _ => 1
def uptoBulkAll {H : Type} : List (DataW H) → Nat
  | [] => 0
  | d :: r => uptoBulk d + uptoBulkAll r
def uptoBulkEntries {H : Type} : List (Lit × DataW H) → Nat
  | [] => 0
  | x :: r => uptoBulkEntry x + uptoBulkEntries r
def uptoBulkEntry {H : Type} : Lit × DataW H → Nat
  | (.string bytes, d) => bytes.length + uptoBulk d + 1
  | (_, d) => uptoBulk d + 1
 end
def uptoSmall : (H : Type) → List (DataW H) → Bool := fun _ ds => decide (uptoBulkAll ds ≤ 1048576)
def OpenSpec.upto (s : _root_.Go.ChangeSpec) : _root_.Go.OpenSpec := { _root_.Go.OpenSpec.ofChange s with cond := some uptoSmall }

/-- 'lessorlaw26.RelayNets', WHERE WHAT IT READS IS OF BULK AT MOST 1048576: true; the input reads as it did. -/
def relayNetsUptoRow : OpenClaim := { program := "ytnkajghemggaaaa", sum := "04923e11d30a54116a8ecf36eb29a15ab2e33c93487a3db650b31e49029d9a8f", func := "lessor/lessorlaw26.RelayNets", spec := "relayNets", unfollowed := true, recurses := true, apart := false, narrowed := true }
def RelayNetsUptoSaid : Prop := relayNetsUptoRow.holds Try.pinned (OpenSpec.upto relayNetsSpec)

/-- 'lessorlaw26.RelayTags', WHERE WHAT IT READS IS OF BULK AT MOST 1048576: true; the input reads as it did. -/
def relayTagsUptoRow : OpenClaim := { program := "ytnkajghemggaaaa", sum := "04923e11d30a54116a8ecf36eb29a15ab2e33c93487a3db650b31e49029d9a8f", func := "lessor/lessorlaw26.RelayTags", spec := "relayTags", unfollowed := true, recurses := true, apart := false, narrowed := true }
def RelayTagsUptoSaid : Prop := relayTagsUptoRow.holds Try.pinned (OpenSpec.upto relayTagsSpec)

/-- 'lessorlaw26.RelayDecodes', WHERE WHAT IT READS IS OF BULK AT MOST 1048576: true; the input reads as it did. -/
def relayDecodesUptoRow : OpenClaim := { program := "ytnkajghemggaaaa", sum := "04923e11d30a54116a8ecf36eb29a15ab2e33c93487a3db650b31e49029d9a8f", func := "lessor/lessorlaw26.RelayDecodes", spec := "relayDecodes", unfollowed := true, recurses := true, apart := false, narrowed := true }
def RelayDecodesUptoSaid : Prop := relayDecodesUptoRow.holds Try.pinned (OpenSpec.upto relayDecodesSpec)

/-- 'lessorlaw26.RelayPackets', WHERE WHAT IT READS IS OF BULK AT MOST 1048576: true; the input reads as it did. -/
def relayPacketsUptoRow : OpenClaim := { program := "ytnkajghemggaaaa", sum := "04923e11d30a54116a8ecf36eb29a15ab2e33c93487a3db650b31e49029d9a8f", func := "lessor/lessorlaw26.RelayPackets", spec := "relayPackets", unfollowed := true, recurses := true, apart := false, narrowed := true }
def RelayPacketsUptoSaid : Prop := relayPacketsUptoRow.holds Try.pinned (OpenSpec.upto relayPacketsSpec)

/-- 'lessorlaw26.RelayBack', WHERE WHAT IT READS IS OF BULK AT MOST 1048576: true; the input reads as it did. -/
def relayBackUptoRow : OpenClaim := { program := "ytnkajghemggaaaa", sum := "04923e11d30a54116a8ecf36eb29a15ab2e33c93487a3db650b31e49029d9a8f", func := "lessor/lessorlaw26.RelayBack", spec := "relayBack", unfollowed := true, recurses := true, apart := false, narrowed := true }
def RelayBackUptoSaid : Prop := relayBackUptoRow.holds Try.pinned (OpenSpec.upto relayBackSpec)

end Rows
end Go.Proofs.Ytnkajghemggaaaa
